-- Made by this session's programs (wip/prepatch.py, xprint.sh, assemble.py): the kit's printer over an input that this session patched, cut and joined with contracts proved by hand.
import Derived.Test.YtkliaoikljjeaaaXa
import Derived.Test.YtkliaoikljjeaaaXc
import Derived.Test.YtkliaoikljjeaaaXd
import Derived.Test.YtkliaoikljjeaaaXe
import Derived.Test.YtkliaoikljjeaaaXg
import Derived.Test.YtkliaoikljjeaaaXu
import Derived.Test.YtkliaoikljjeaaaXj
import Derived.Test.YtkliaoikljjeaaaXk
import Derived.Test.YtkliaoikljjeaaaXm
import Derived.Test.YtkliaoikljjeaaaXv
namespace Go.Proofs.Ytkliaoikljjeaaa.X
open Go.RowKit Go.Proofs.YtkliaoikljjeaaaW.PrintWords Go.Proofs.YtkliaoikljjeaaaW.PrintLast Go.Proofs.YtkliaoikljjeaaaW.PrintMore
attribute [local go_sem] max2_int min2_int max_two min_two max_three min_three max_four min_four   -- for this text's walks alone
set_option linter.unusedVariables false
set_option linter.unusedSimpArgs false
abbrev fl0 : Array Bool := #[false, false, false, false, false, false, false, false, false, false, false, false, false, false, false, false, false, false, false, false, false, false, false, false]
abbrev fl1 : Array Bool := #[true, false, false, false, false, false, false, false, false, false, false, false, false, false, false, false, false, false, false, false, false, false, false, false]
abbrev fl2 : Array Bool := #[true, false, true, false, false, false, false, false, false, false, false, false, false, false, false, false, false, false, false, false, false, false, false, false]
abbrev fl3 : Array Bool := #[true, false, true, false, false, false, false, true, false, false, false, false, false, false, false, false, false, false, false, false, false, false, false, false]
abbrev fl4 : Array Bool := #[true, false, true, false, false, false, false, true, false, true, false, false, false, false, false, false, false, false, false, false, false, false, false, false]
abbrev fl5 : Array Bool := #[true, false, true, false, false, false, false, true, false, true, false, false, false, false, true, false, false, false, false, false, false, false, false, false]
abbrev fl6 : Array Bool := #[true, false, true, false, false, false, false, true, false, true, false, false, false, false, true, false, true, false, false, false, false, false, false, false]
abbrev fl7 : Array Bool := #[true, true, true, false, false, false, false, true, false, true, false, false, false, false, true, false, true, false, false, false, false, false, false, false]
abbrev fl8 : Array Bool := #[true, true, true, true, false, false, false, true, false, true, false, false, false, false, true, false, true, false, false, false, false, false, false, false]
abbrev fl9 : Array Bool := #[true, true, true, true, true, false, false, true, false, true, false, false, false, false, true, false, true, false, false, false, false, false, false, false]
abbrev fl10 : Array Bool := #[true, true, true, true, true, true, false, true, false, true, false, false, false, false, true, false, true, false, false, false, false, false, false, false]
abbrev fl11 : Array Bool := #[true, true, true, true, true, true, true, true, false, true, false, false, false, false, true, false, true, false, false, false, false, false, false, false]
abbrev fl12 : Array Bool := #[true, true, true, true, true, true, true, true, false, true, false, false, false, false, true, false, true, false, false, false, false, true, false, false]
abbrev fl13 : Array Bool := #[true, true, true, true, true, true, true, true, true, true, false, false, false, false, true, false, true, false, false, false, false, true, false, false]
abbrev fl14 : Array Bool := #[true, true, true, true, true, true, true, true, true, true, true, false, false, false, true, false, true, false, false, false, false, true, false, false]
abbrev fl15 : Array Bool := #[true, true, true, true, true, true, true, true, true, true, true, true, false, false, true, false, true, false, false, false, false, true, false, false]
abbrev fl16 : Array Bool := #[true, true, true, true, true, true, true, true, true, true, true, true, true, false, true, false, true, false, false, false, false, true, false, false]
abbrev fl17 : Array Bool := #[true, true, true, true, true, true, true, true, true, true, true, true, true, true, true, false, true, false, false, false, false, true, false, false]
abbrev fl18 : Array Bool := #[true, true, true, true, true, true, true, true, true, true, true, true, true, true, true, false, true, false, false, false, false, true, true, false]
abbrev fl19 : Array Bool := #[true, true, true, true, true, true, true, true, true, true, true, true, true, true, true, true, true, false, false, false, false, true, true, false]
abbrev fl20 : Array Bool := #[true, true, true, true, true, true, true, true, true, true, true, true, true, true, true, true, true, true, false, false, false, true, true, false]
abbrev fl21 : Array Bool := #[true, true, true, true, true, true, true, true, true, true, true, true, true, true, true, true, true, true, true, false, false, true, true, false]
abbrev fl22 : Array Bool := #[true, true, true, true, true, true, true, true, true, true, true, true, true, true, true, true, true, true, true, true, false, true, true, false]
abbrev fl23 : Array Bool := #[true, true, true, true, true, true, true, true, true, true, true, true, true, true, true, true, true, true, true, true, true, true, true, false]
abbrev fl24 : Array Bool := #[true, true, true, true, true, true, true, true, true, true, true, true, true, true, true, true, true, true, true, true, true, true, true, true]
abbrev fl25 : Array Bool := #[false, false, false, false, false, false, false, false, false, false, false, false]
abbrev fl26 : Array Bool := #[true, false, false, false, false, false, false, false, false, false, false, false]
abbrev fl27 : Array Bool := #[true, true, false, false, false, false, false, false, false, false, false, false]
abbrev fl28 : Array Bool := #[true, true, true, false, false, false, false, false, false, false, false, false]
abbrev fl29 : Array Bool := #[true, true, true, false, true, false, false, false, false, false, false, false]
abbrev fl30 : Array Bool := #[true, true, true, false, true, false, false, true, false, false, false, false]
abbrev fl31 : Array Bool := #[true, true, true, true, true, false, false, true, false, false, false, false]
abbrev fl32 : Array Bool := #[true, true, true, true, true, false, true, true, false, false, false, false]
abbrev fl33 : Array Bool := #[true, true, true, true, true, true, true, true, false, false, false, false]
abbrev fl34 : Array Bool := #[true, true, true, true, true, true, true, true, true, false, false, false]
abbrev fl35 : Array Bool := #[true, true, true, true, true, true, true, true, true, true, false, false]
abbrev fl36 : Array Bool := #[true, true, true, true, true, true, true, true, true, true, true, false]
abbrev fl37 : Array Bool := #[true, true, true, true, true, true, true, true, true, true, true, true]
abbrev fl38 : Array Bool := #[false, false, false, false, false, false, false, false, false, false, false, false, false, false, false, false, false, false, false, false, false, false, false, false, false, false, false, false, false, false, false, false]
abbrev fl39 : Array Bool := #[true, false, false, false, false, false, false, false, false, false, false, false, false, false, false, false, false, false, false, false, false, false, false, false, false, false, false, false, false, false, false, false]
abbrev fl40 : Array Bool := #[true, true, false, false, false, false, false, false, false, false, false, false, false, false, false, false, false, false, false, false, false, false, false, false, false, false, false, false, false, false, false, false]
abbrev fl41 : Array Bool := #[true, true, true, false, false, false, false, false, false, false, false, false, false, false, false, false, false, false, false, false, false, false, false, false, false, false, false, false, false, false, false, false]
abbrev fl42 : Array Bool := #[true, true, true, true, false, false, false, false, false, false, false, false, false, false, false, false, false, false, false, false, false, false, false, false, false, false, false, false, false, false, false, false]
abbrev fl43 : Array Bool := #[true, true, true, true, true, false, false, false, false, false, false, false, false, false, false, false, false, false, false, false, false, false, false, false, false, false, false, false, false, false, false, false]
abbrev fl44 : Array Bool := #[true, true, true, true, true, false, true, false, false, false, false, false, false, false, false, false, false, false, false, false, false, false, false, false, false, false, false, false, false, false, false, false]
abbrev fl45 : Array Bool := #[true, true, true, true, true, true, true, false, false, false, false, false, false, false, false, false, false, false, false, false, false, false, false, false, false, false, false, false, false, false, false, false]
abbrev fl46 : Array Bool := #[true, true, true, true, true, true, true, true, false, false, false, false, false, false, false, false, false, false, false, false, false, false, false, false, false, false, false, false, false, false, false, false]
abbrev fl47 : Array Bool := #[true, true, true, true, true, true, true, true, true, false, false, false, false, false, false, false, false, false, false, false, false, false, false, false, false, false, false, false, false, false, false, false]
abbrev fl48 : Array Bool := #[true, true, true, true, true, true, true, true, true, true, false, false, false, false, false, false, false, false, false, false, false, false, false, false, false, false, false, false, false, false, false, false]
abbrev fl49 : Array Bool := #[true, true, true, true, true, true, true, true, true, true, true, false, false, false, false, false, false, false, false, false, false, false, false, false, false, false, false, false, false, false, false, false]
abbrev fl50 : Array Bool := #[true, true, true, true, true, true, true, true, true, true, true, false, false, true, false, false, false, false, false, false, false, false, false, false, false, false, false, false, false, false, false, false]
abbrev fl51 : Array Bool := #[true, true, true, true, true, true, true, true, true, true, true, false, false, true, false, true, false, false, false, false, false, false, false, false, false, false, false, false, false, false, false, false]
abbrev fl52 : Array Bool := #[true, true, true, true, true, true, true, true, true, true, true, true, false, true, false, true, false, false, false, false, false, false, false, false, false, false, false, false, false, false, false, false]
abbrev fl53 : Array Bool := #[true, true, true, true, true, true, true, true, true, true, true, true, false, true, true, true, false, false, false, false, false, false, false, false, false, false, false, false, false, false, false, false]
abbrev fl54 : Array Bool := #[true, true, true, true, true, true, true, true, true, true, true, true, false, true, true, true, true, false, false, false, false, false, false, false, false, false, false, false, false, false, false, false]
abbrev fl55 : Array Bool := #[true, true, true, true, true, true, true, true, true, true, true, true, false, true, true, true, true, true, false, false, false, false, false, false, false, false, false, false, false, false, false, false]
abbrev fl56 : Array Bool := #[true, true, true, true, true, true, true, true, true, true, true, true, true, true, true, true, true, true, false, false, false, false, false, false, false, false, false, false, false, false, false, false]
abbrev fl57 : Array Bool := #[true, true, true, true, true, true, true, true, true, true, true, true, true, true, true, true, true, true, true, false, false, false, false, false, false, false, false, false, false, false, false, false]
abbrev fl58 : Array Bool := #[true, true, true, true, true, true, true, true, true, true, true, true, true, true, true, true, true, true, true, true, false, false, false, false, false, false, false, false, false, false, false, false]
abbrev fl59 : Array Bool := #[true, true, true, true, true, true, true, true, true, true, true, true, true, true, true, true, true, true, true, true, true, false, false, false, false, false, false, false, false, false, false, false]
abbrev fl60 : Array Bool := #[true, true, true, true, true, true, true, true, true, true, true, true, true, true, true, true, true, true, true, true, true, true, false, false, false, false, false, false, false, false, false, false]
abbrev fl61 : Array Bool := #[true, true, true, true, true, true, true, true, true, true, true, true, true, true, true, true, true, true, true, true, true, true, false, true, false, false, false, false, false, false, false, false]
abbrev fl62 : Array Bool := #[true, true, true, true, true, true, true, true, true, true, true, true, true, true, true, true, true, true, true, true, true, true, true, true, false, false, false, false, false, false, false, false]
abbrev fl63 : Array Bool := #[true, true, true, true, true, true, true, true, true, true, true, true, true, true, true, true, true, true, true, true, true, true, true, true, true, false, false, false, false, false, false, false]
abbrev fl64 : Array Bool := #[true, true, true, true, true, true, true, true, true, true, true, true, true, true, true, true, true, true, true, true, true, true, true, true, true, true, false, false, false, false, false, false]
abbrev fl65 : Array Bool := #[true, true, true, true, true, true, true, true, true, true, true, true, true, true, true, true, true, true, true, true, true, true, true, true, true, true, true, false, false, false, false, false]
abbrev fl66 : Array Bool := #[true, true, true, true, true, true, true, true, true, true, true, true, true, true, true, true, true, true, true, true, true, true, true, true, true, true, true, true, false, false, false, false]
abbrev fl67 : Array Bool := #[true, true, true, true, true, true, true, true, true, true, true, true, true, true, true, true, true, true, true, true, true, true, true, true, true, true, true, true, true, false, false, false]
abbrev fl68 : Array Bool := #[true, true, true, true, true, true, true, true, true, true, true, true, true, true, true, true, true, true, true, true, true, true, true, true, true, true, true, true, true, true, false, false]
abbrev fl69 : Array Bool := #[true, true, true, true, true, true, true, true, true, true, true, true, true, true, true, true, true, true, true, true, true, true, true, true, true, true, true, true, true, true, true, false]
abbrev fl70 : Array Bool := #[true, true, true, true, true, true, true, true, true, true, true, true, true, true, true, true, true, true, true, true, true, true, true, true, true, true, true, true, true, true, true, true]
abbrev fl71 : Array Bool := #[true, true, true, true, true, true, true, true, true, true, true, true, false, false, false, false, false, false, false, false, false, false, false, false, false, false, false, false, false, false, false, false]
abbrev fl72 : Array Bool := #[true, true, true, true, true, true, true, true, true, true, true, true, true, false, false, false, false, false, false, false, false, false, false, false, false, false, false, false, false, false, false, false]
abbrev fl73 : Array Bool := #[true, true, true, true, true, true, true, true, true, true, true, true, true, true, false, false, false, false, false, false, false, false, false, false, false, false, false, false, false, false, false, false]
abbrev fl74 : Array Bool := #[true, true, true, true, true, true, true, true, true, true, true, true, true, true, true, false, false, false, false, false, false, false, false, false, false, false, false, false, false, false, false, false]
abbrev fl75 : Array Bool := #[true, true, true, true, true, true, true, true, true, true, true, true, true, true, true, true, false, false, false, false, false, false, false, false, false, false, false, false, false, false, false, false]
abbrev fl76 : Array Bool := #[true, true, true, true, true, true, true, true, true, true, true, true, true, true, true, true, true, false, false, false, false, false, false, false, false, false, false, false, false, false, false, false]
abbrev fl77 : Array Bool := #[true, true, true, true, true, true, false, false, false, false, false, false, false, false, false, false, false, false, false, false, false, false, false, false, false, false, false, false, false, false, false, false]
abbrev fl78 : Array Bool := #[false, false, false, false, false, false, false, false, false, false, false, false, false]
abbrev fl79 : Array Bool := #[false, true, false, false, false, false, false, false, false, false, false, false, false]
abbrev fl80 : Array Bool := #[false, true, true, false, false, false, false, false, false, false, false, false, false]
abbrev fl81 : Array Bool := #[false, true, true, true, false, false, false, false, false, false, false, false, false]
abbrev fl82 : Array Bool := #[false, true, true, true, false, false, false, true, false, false, false, false, false]
abbrev fl83 : Array Bool := #[false, true, true, true, false, false, false, true, true, false, false, false, false]
abbrev fl84 : Array Bool := #[false, true, true, true, false, false, false, true, true, true, false, false, false]
abbrev fl85 : Array Bool := #[true, true, true, true, false, false, false, true, true, true, false, false, false]
abbrev fl86 : Array Bool := #[true, true, true, true, false, true, false, true, true, true, false, false, false]
abbrev fl87 : Array Bool := #[true, true, true, true, true, true, false, true, true, true, false, false, false]
abbrev fl88 : Array Bool := #[true, true, true, true, true, true, true, true, true, true, false, false, false]
abbrev fl89 : Array Bool := #[true, true, true, true, true, true, true, true, true, true, true, false, false]
abbrev fl90 : Array Bool := #[true, true, true, true, true, true, true, true, true, true, true, true, false]
abbrev fl91 : Array Bool := #[true, true, true, true, true, true, true, true, true, true, true, true, true]
abbrev fl92 : Array Bool := #[false, false, false, false, false, false, false, false, false, false, false, false, false, false, false, false, false, false, false, false, false, false, false, false, false]
abbrev fl93 : Array Bool := #[true, false, false, false, false, false, false, false, false, false, false, false, false, false, false, false, false, false, false, false, false, false, false, false, false]
abbrev fl94 : Array Bool := #[true, true, false, false, false, false, false, false, false, false, false, false, false, false, false, false, false, false, false, false, false, false, false, false, false]
abbrev fl95 : Array Bool := #[true, true, true, false, false, false, false, false, false, false, false, false, false, false, false, false, false, false, false, false, false, false, false, false, false]
abbrev fl96 : Array Bool := #[true, true, true, true, false, false, false, false, false, false, false, false, false, false, false, false, false, false, false, false, false, false, false, false, false]
abbrev fl97 : Array Bool := #[true, true, true, true, true, false, false, false, false, false, false, false, false, false, false, false, false, false, false, false, false, false, false, false, false]
abbrev fl98 : Array Bool := #[true, true, true, true, true, true, false, false, false, false, false, false, false, false, false, false, false, false, false, false, false, false, false, false, false]
abbrev fl99 : Array Bool := #[true, true, true, true, true, true, true, false, false, false, false, false, false, false, false, false, false, false, false, false, false, false, false, false, false]
abbrev fl100 : Array Bool := #[true, true, true, true, true, true, true, true, false, false, false, false, false, false, false, false, false, false, false, false, false, false, false, false, false]
abbrev fl101 : Array Bool := #[true, true, true, true, true, true, true, true, true, false, false, false, false, false, false, false, false, false, false, false, false, false, false, false, false]
abbrev fl102 : Array Bool := #[true, true, true, true, true, true, true, true, true, true, false, false, false, false, false, false, false, false, false, false, false, false, false, false, false]
abbrev fl103 : Array Bool := #[true, true, true, true, true, true, true, true, true, true, true, false, false, false, false, false, false, false, false, false, false, false, false, false, false]
abbrev fl104 : Array Bool := #[true, true, true, true, true, true, true, true, true, true, true, true, false, false, false, false, false, false, false, false, false, false, false, false, false]
abbrev fl105 : Array Bool := #[true, true, true, true, true, true, true, true, true, true, true, true, true, false, false, false, false, false, false, false, false, false, false, false, false]
abbrev fl106 : Array Bool := #[true, true, true, true, true, true, true, true, true, true, true, true, true, true, false, false, false, false, false, false, false, false, false, false, false]
abbrev fl107 : Array Bool := #[true, true, true, true, true, true, true, true, true, true, true, true, true, true, true, false, false, false, false, false, false, false, false, false, false]
abbrev fl108 : Array Bool := #[true, true, true, true, true, true, true, true, true, true, true, true, true, true, true, true, false, false, false, false, false, false, false, false, false]
abbrev fl109 : Array Bool := #[true, true, true, true, true, true, true, true, true, true, true, true, true, true, true, true, true, false, false, false, false, false, false, false, false]
abbrev fl110 : Array Bool := #[true, true, true, true, true, true, true, true, true, true, true, true, true, true, true, true, true, true, false, false, false, false, false, false, false]
abbrev fl111 : Array Bool := #[true, true, true, true, true, true, true, true, true, true, true, true, true, true, true, true, true, true, true, false, false, false, false, false, false]
abbrev fl112 : Array Bool := #[true, true, true, true, true, true, true, true, true, true, true, true, true, true, true, true, true, true, true, true, false, false, false, false, false]
abbrev fl113 : Array Bool := #[true, true, true, true, true, true, true, true, true, true, true, true, true, true, true, true, true, true, true, true, true, false, false, false, false]
abbrev fl114 : Array Bool := #[true, true, true, true, true, true, true, true, true, true, true, true, true, true, true, true, true, true, true, true, true, true, false, false, false]
abbrev fl115 : Array Bool := #[true, true, true, true, true, true, true, true, true, true, true, true, true, true, true, true, true, true, true, true, true, true, true, false, false]
abbrev fl116 : Array Bool := #[true, true, true, true, true, true, true, true, true, true, true, true, true, true, true, true, true, true, true, true, true, true, true, true, false]
abbrev fl117 : Array Bool := #[true, true, true, true, true, true, true, true, true, true, true, true, true, true, true, true, true, true, true, true, true, true, true, true, true]
abbrev fl118 : Array Bool := #[true, true, true, true, true, false, true, false, false, false, false, false, false, false, false, false, false, false, false, false, false, false, false, false, false]
abbrev fl119 : Array Bool := #[true, true, true, true, true, false, true, false, true, false, false, false, false, false, false, false, false, false, false, false, false, false, false, false, false]
abbrev fl120 : Array Bool := #[true, true, true, true, true, false, true, false, true, false, true, false, false, false, false, false, false, false, false, false, false, false, false, false, false]
abbrev fl121 : Array Bool := #[true, true, true, true, true, true, true, false, true, false, true, false, false, false, false, false, false, false, false, false, false, false, false, false, false]
abbrev fl122 : Array Bool := #[true, true, true, true, true, true, true, false, true, true, true, false, false, false, false, false, false, false, false, false, false, false, false, false, false]
abbrev fl123 : Array Bool := #[true, true, true, true, true, true, true, true, true, true, true, true, true, true, true, true, false, true, false, false, false, false, false, false, false]
abbrev fl124 : Array Bool := #[true, true, true, true, true, true, true, true, true, true, true, true, true, true, true, true, false, true, false, true, false, false, false, false, false]
abbrev fl125 : Array Bool := #[true, true, true, true, true, true, true, true, true, true, true, true, true, true, true, true, false, true, false, true, false, true, false, false, false]
abbrev fl126 : Array Bool := #[true, true, true, true, true, true, true, true, true, true, true, true, true, true, true, true, true, true, false, true, false, true, false, false, false]
abbrev fl127 : Array Bool := #[true, true, true, true, true, true, true, true, true, true, true, true, true, true, true, true, true, true, false, true, true, true, false, false, false]

/-! ### tripartitelaw06_ChunkClasses: function 4 -/
mutual
def tripartitelaw06_ChunkClasses.j0 : Nat → List ByteArray → List ByteArray → List ByteArray → Bool → Bool → Int → Int → Int → Int → Int → Int → Bool → Int → Int → Int → Int → Int → Int → Option (Bool)
 | 0, _, _, _, _, _, _, _, _, _, _, _, _, _, _, _, _, _, _ => none
 | k + 1, x7, x8, x9, x88, x333000, x333001, x333002, x333003, x333004, x333005, x333006, x346000, x346001, x346002, x346003, x346004, x346005, x346006 => if x88 = true then (none) else ((some (([(⟨x333001, x333002⟩ : S41), (⟨x333003, x333004⟩ : S41), (⟨x333005, x333006⟩ : S41)] : List (S41)) : List (S41))).bind fun y359 => (tripartitelaw06_ChunkClasses.l0 k x7 x8 x9 y359 (y359.length : Int) 0 x333000 x333001 x333002 x333003 x333004 x333005 x333006 x346000 x346001 x346002 x346003 x346004 x346005 x346006))
def tripartitelaw06_ChunkClasses.l0 : Nat → List ByteArray → List ByteArray → List ByteArray → List (S41) → Int → Int → Bool → Int → Int → Int → Int → Int → Int → Bool → Int → Int → Int → Int → Int → Int → Option (Bool)
 | 0, _, _, _, _, _, _, _, _, _, _, _, _, _, _, _, _, _, _, _, _ => none
 | k + 1, x7, x8, x9, x95, x96, x97, x333000, x333001, x333002, x333003, x333004, x333005, x333006, x346000, x346001, x346002, x346003, x346004, x346005, x346006 => if x97 < x96 then (if 0 ≤ x97 then (if x97 < (x95.length : Int) then (if ((rd_T41 x95 x97).f0) < 0 then (some true) else (if ((rd_T41 x95 x97).f1) < ((rd_T41 x95 x97).f0) then (some true) else (tripartitelaw06_ChunkClasses.l0 k x7 x8 x9 x95 x96 (wrap64 (x97 + 1)) x333000 x333001 x333002 x333003 x333004 x333005 x333006 x346000 x346001 x346002 x346003 x346004 x346005 x346006))) else (none)) else (none)) else (if x333002 > (x7.length : Int) then (tripartitelaw06_ChunkClasses.j2 k x7 x8 x9 true x333000 x333001 x333002 x333003 x333004 x333005 x333006 x346000 x346001 x346002 x346003 x346004 x346005 x346006) else (if x333004 > (x8.length : Int) then (tripartitelaw06_ChunkClasses.j2 k x7 x8 x9 true x333000 x333001 x333002 x333003 x333004 x333005 x333006 x346000 x346001 x346002 x346003 x346004 x346005 x346006) else (tripartitelaw06_ChunkClasses.j2 k x7 x8 x9 (decide (x333006 > (x9.length : Int))) x333000 x333001 x333002 x333003 x333004 x333005 x333006 x346000 x346001 x346002 x346003 x346004 x346005 x346006)))
def tripartitelaw06_ChunkClasses.j2 : Nat → List ByteArray → List ByteArray → List ByteArray → Bool → Bool → Int → Int → Int → Int → Int → Int → Bool → Int → Int → Int → Int → Int → Int → Option (Bool)
 | 0, _, _, _, _, _, _, _, _, _, _, _, _, _, _, _, _, _, _ => none
 | k + 1, x7, x8, x9, x133, x333000, x333001, x333002, x333003, x333004, x333005, x333006, x346000, x346001, x346002, x346003, x346004, x346005, x346006 => if x133 = true then (some true) else ((chunk_Chunk_Class.f k x346000 x346001 x346002 x346003 x346004 x346005 x346006 x7 x8 x9).bind fun t364 => ((chunk_Chunk_Turned.f x346000 x346001 x346002 x346003 x346004 x346005 x346006).bind fun bt365 => ((chunk_Chunk_Class.f k bt365.1 bt365.2.1 bt365.2.2.1 bt365.2.2.2.1 bt365.2.2.2.2.1 bt365.2.2.2.2.2.1 bt365.2.2.2.2.2.2 x7 x9 x8).bind fun t372 => ((tripartiteref06_Class.f k x333000 x333001 x333002 x333003 x333004 x333005 x333006 x7 x8 x9).bind fun t373 => (if t364 = t373 then ((some (([0, 2, 1, 3, 4] : List Int) : List Int)).bind fun y374 => (if 0 ≤ t364 then (if t364 < (y374.length : Int) then (if x333000 = true then (some (t372 == (rd y374 t364))) else ((tripartiteref06_Cut.f x333001 x333002 x7).bind fun t378 => ((tripartiteref06_Cut.f x333003 x333004 x8).bind fun t381 => ((tripartiteref01_Same.f k t378 t381).bind fun t384 => (if t384 = true then ((tripartiteref06_Cut.f x333001 x333002 x7).bind fun t385 => ((tripartiteref06_Cut.f x333005 x333006 x9).bind fun t388 => ((tripartiteref01_Same.f k t385 t388).bind fun t391 => (if t391 = true then (some (t372 == 2)) else (some (t372 == (rd y374 t364))))))) else (some (t372 == (rd y374 t364)))))))) else (none)) else (none))) else (none))))))
end
def tripartitelaw06_ChunkClasses.f (k : Nat) (a0_0 : Bool) (a0_1 : Int) (a0_2 : Int) (a0_3 : Int) (a0_4 : Int) (a0_5 : Int) (a0_6 : Int) (l1_0 : List ByteArray) (l1_1 : List ByteArray) (l1_2 : List ByteArray) (a2_0 : Int) (a2_1 : Int) : Option (Bool) := if 0 ≤ (mn (l1_0.length : Int) 60) then (if (mn (l1_0.length : Int) 60) ≤ (l1_0.length : Int) then (if 0 ≤ (mn (l1_1.length : Int) 60) then (if (mn (l1_1.length : Int) 60) ≤ (l1_1.length : Int) then (if 0 ≤ (mn (l1_2.length : Int) 60) then (if (mn (l1_2.length : Int) 60) ≤ (l1_2.length : Int) then ((tripartitelaw06_To.f a0_0 a0_1 a0_2 a0_3 a0_4 a0_5 a0_6).bind fun bt338 => ((tripartitelaw06_told.f k).bind fun t347 => (if t347 = true then ((chunk_Span_Cut.f a2_0 a2_1 (l1_0.take ((mn (l1_0.length : Int) 60) : Int).toNat)).bind fun t348 => ((tripartiteref06_Cut.f a2_0 a2_1 (l1_0.take ((mn (l1_0.length : Int) 60) : Int).toNat)).bind fun t351 => ((tripartiteref01_Same.f k t348 t351).bind fun t354 => (if t354 = true then (if a2_0 ≥ 0 then (if a2_1 ≥ a2_0 then ((chunk_Span_Len.f a2_0 a2_1).bind fun t355 => (if t355 = (wrap64 (a2_1 - a2_0)) then (if a2_1 ≤ a2_0 then ((chunk_Span_Len.f a2_0 a2_1).bind fun t356 => (tripartitelaw06_ChunkClasses.j0 k (l1_0.take ((mn (l1_0.length : Int) 60) : Int).toNat) (l1_1.take ((mn (l1_1.length : Int) 60) : Int).toNat) (l1_2.take ((mn (l1_2.length : Int) 60) : Int).toNat) (t356 != 0) a0_0 a0_1 a0_2 a0_3 a0_4 a0_5 a0_6 bt338.1 bt338.2.1 bt338.2.2.1 bt338.2.2.2.1 bt338.2.2.2.2.1 bt338.2.2.2.2.2.1 bt338.2.2.2.2.2.2)) else (tripartitelaw06_ChunkClasses.j0 k (l1_0.take ((mn (l1_0.length : Int) 60) : Int).toNat) (l1_1.take ((mn (l1_1.length : Int) 60) : Int).toNat) (l1_2.take ((mn (l1_2.length : Int) 60) : Int).toNat) false a0_0 a0_1 a0_2 a0_3 a0_4 a0_5 a0_6 bt338.1 bt338.2.1 bt338.2.2.1 bt338.2.2.2.1 bt338.2.2.2.2.1 bt338.2.2.2.2.2.1 bt338.2.2.2.2.2.2)) else (none))) else (if a2_1 ≤ a2_0 then ((chunk_Span_Len.f a2_0 a2_1).bind fun t357 => (tripartitelaw06_ChunkClasses.j0 k (l1_0.take ((mn (l1_0.length : Int) 60) : Int).toNat) (l1_1.take ((mn (l1_1.length : Int) 60) : Int).toNat) (l1_2.take ((mn (l1_2.length : Int) 60) : Int).toNat) (t357 != 0) a0_0 a0_1 a0_2 a0_3 a0_4 a0_5 a0_6 bt338.1 bt338.2.1 bt338.2.2.1 bt338.2.2.2.1 bt338.2.2.2.2.1 bt338.2.2.2.2.2.1 bt338.2.2.2.2.2.2)) else (tripartitelaw06_ChunkClasses.j0 k (l1_0.take ((mn (l1_0.length : Int) 60) : Int).toNat) (l1_1.take ((mn (l1_1.length : Int) 60) : Int).toNat) (l1_2.take ((mn (l1_2.length : Int) 60) : Int).toNat) false a0_0 a0_1 a0_2 a0_3 a0_4 a0_5 a0_6 bt338.1 bt338.2.1 bt338.2.2.1 bt338.2.2.2.1 bt338.2.2.2.2.1 bt338.2.2.2.2.2.1 bt338.2.2.2.2.2.2))) else (if a2_1 ≤ a2_0 then ((chunk_Span_Len.f a2_0 a2_1).bind fun t358 => (tripartitelaw06_ChunkClasses.j0 k (l1_0.take ((mn (l1_0.length : Int) 60) : Int).toNat) (l1_1.take ((mn (l1_1.length : Int) 60) : Int).toNat) (l1_2.take ((mn (l1_2.length : Int) 60) : Int).toNat) (t358 != 0) a0_0 a0_1 a0_2 a0_3 a0_4 a0_5 a0_6 bt338.1 bt338.2.1 bt338.2.2.1 bt338.2.2.2.1 bt338.2.2.2.2.1 bt338.2.2.2.2.2.1 bt338.2.2.2.2.2.2)) else (tripartitelaw06_ChunkClasses.j0 k (l1_0.take ((mn (l1_0.length : Int) 60) : Int).toNat) (l1_1.take ((mn (l1_1.length : Int) 60) : Int).toNat) (l1_2.take ((mn (l1_2.length : Int) 60) : Int).toNat) false a0_0 a0_1 a0_2 a0_3 a0_4 a0_5 a0_6 bt338.1 bt338.2.1 bt338.2.2.1 bt338.2.2.2.1 bt338.2.2.2.2.1 bt338.2.2.2.2.2.1 bt338.2.2.2.2.2.2))) else (none))))) else (none)))) else (none)) else (none)) else (none)) else (none)) else (none)) else (none)
theorem tripartitelaw06_ChunkClasses.mono_l : ∀ k, (∀ y0 y1 y2 y3 y4 y5 y6 y7 y8 y9 y10 y11 y12 y13 y14 y15 y16 y17, LeO (tripartitelaw06_ChunkClasses.j0 k y0 y1 y2 y3 y4 y5 y6 y7 y8 y9 y10 y11 y12 y13 y14 y15 y16 y17) (tripartitelaw06_ChunkClasses.j0 (k + 1) y0 y1 y2 y3 y4 y5 y6 y7 y8 y9 y10 y11 y12 y13 y14 y15 y16 y17)) ∧ (∀ y0 y1 y2 y3 y4 y5 y6 y7 y8 y9 y10 y11 y12 y13 y14 y15 y16 y17 y18 y19, LeO (tripartitelaw06_ChunkClasses.l0 k y0 y1 y2 y3 y4 y5 y6 y7 y8 y9 y10 y11 y12 y13 y14 y15 y16 y17 y18 y19) (tripartitelaw06_ChunkClasses.l0 (k + 1) y0 y1 y2 y3 y4 y5 y6 y7 y8 y9 y10 y11 y12 y13 y14 y15 y16 y17 y18 y19)) ∧ (∀ y0 y1 y2 y3 y4 y5 y6 y7 y8 y9 y10 y11 y12 y13 y14 y15 y16 y17, LeO (tripartitelaw06_ChunkClasses.j2 k y0 y1 y2 y3 y4 y5 y6 y7 y8 y9 y10 y11 y12 y13 y14 y15 y16 y17) (tripartitelaw06_ChunkClasses.j2 (k + 1) y0 y1 y2 y3 y4 y5 y6 y7 y8 y9 y10 y11 y12 y13 y14 y15 y16 y17))
 | 0 => ⟨fun _ _ _ _ _ _ _ _ _ _ _ _ _ _ _ _ _ _ r h => by simp [tripartitelaw06_ChunkClasses.j0] at h, fun _ _ _ _ _ _ _ _ _ _ _ _ _ _ _ _ _ _ _ _ r h => by simp [tripartitelaw06_ChunkClasses.l0] at h, fun _ _ _ _ _ _ _ _ _ _ _ _ _ _ _ _ _ _ r h => by simp [tripartitelaw06_ChunkClasses.j2] at h⟩
 | k + 1 => by
  obtain ⟨ih0, ih1, ih2⟩ := tripartitelaw06_ChunkClasses.mono_l k
  refine ⟨?_, ?_, ?_⟩
  ·intro y0 y1 y2 y3 y4 y5 y6 y7 y8 y9 y10 y11 y12 y13 y14 y15 y16 y17
   unfold tripartitelaw06_ChunkClasses.j0
   repeat' first
   | (with_reducible exact ih0 _ _ _ _ _ _ _ _ _ _ _ _ _ _ _ _ _ _)
   | (with_reducible exact ih1 _ _ _ _ _ _ _ _ _ _ _ _ _ _ _ _ _ _ _ _)
   | (with_reducible exact ih2 _ _ _ _ _ _ _ _ _ _ _ _ _ _ _ _ _ _)
   | (with_reducible exact chunk_Chunk_Class.mono _ _ _ _ _ _ _ _ _ _ _)
   | (with_reducible exact tripartitelaw06_told.mono _)
   | (with_reducible exact tripartiteref01_Same.mono _ _ _)
   | (with_reducible exact tripartiteref06_Class.mono _ _ _ _ _ _ _ _ _ _ _)
   | (with_reducible exact LeO.refl _)
   | (with_reducible exact LeO.none _)
   | (with_reducible refine LeO.ite ?_ ?_)
   | (with_reducible refine LeO.bind ?_ (fun _ => ?_))
   | exact ih0 _ _ _ _ _ _ _ _ _ _ _ _ _ _ _ _ _ _
   | exact ih1 _ _ _ _ _ _ _ _ _ _ _ _ _ _ _ _ _ _ _ _
   | exact ih2 _ _ _ _ _ _ _ _ _ _ _ _ _ _ _ _ _ _
   | exact chunk_Chunk_Class.mono _ _ _ _ _ _ _ _ _ _ _
   | exact tripartitelaw06_told.mono _
   | exact tripartiteref01_Same.mono _ _ _
   | exact tripartiteref06_Class.mono _ _ _ _ _ _ _ _ _ _ _
   | exact LeO.none _
   | refine LeO.ite ?_ ?_
   | refine LeO.bind ?_ (fun _ => ?_)
  ·intro y0 y1 y2 y3 y4 y5 y6 y7 y8 y9 y10 y11 y12 y13 y14 y15 y16 y17 y18 y19
   unfold tripartitelaw06_ChunkClasses.l0
   repeat' first
   | (with_reducible exact ih0 _ _ _ _ _ _ _ _ _ _ _ _ _ _ _ _ _ _)
   | (with_reducible exact ih1 _ _ _ _ _ _ _ _ _ _ _ _ _ _ _ _ _ _ _ _)
   | (with_reducible exact ih2 _ _ _ _ _ _ _ _ _ _ _ _ _ _ _ _ _ _)
   | (with_reducible exact chunk_Chunk_Class.mono _ _ _ _ _ _ _ _ _ _ _)
   | (with_reducible exact tripartitelaw06_told.mono _)
   | (with_reducible exact tripartiteref01_Same.mono _ _ _)
   | (with_reducible exact tripartiteref06_Class.mono _ _ _ _ _ _ _ _ _ _ _)
   | (with_reducible exact LeO.refl _)
   | (with_reducible exact LeO.none _)
   | (with_reducible refine LeO.ite ?_ ?_)
   | (with_reducible refine LeO.bind ?_ (fun _ => ?_))
   | exact ih0 _ _ _ _ _ _ _ _ _ _ _ _ _ _ _ _ _ _
   | exact ih1 _ _ _ _ _ _ _ _ _ _ _ _ _ _ _ _ _ _ _ _
   | exact ih2 _ _ _ _ _ _ _ _ _ _ _ _ _ _ _ _ _ _
   | exact chunk_Chunk_Class.mono _ _ _ _ _ _ _ _ _ _ _
   | exact tripartitelaw06_told.mono _
   | exact tripartiteref01_Same.mono _ _ _
   | exact tripartiteref06_Class.mono _ _ _ _ _ _ _ _ _ _ _
   | exact LeO.none _
   | refine LeO.ite ?_ ?_
   | refine LeO.bind ?_ (fun _ => ?_)
  ·intro y0 y1 y2 y3 y4 y5 y6 y7 y8 y9 y10 y11 y12 y13 y14 y15 y16 y17
   unfold tripartitelaw06_ChunkClasses.j2
   repeat' first
   | (with_reducible exact ih0 _ _ _ _ _ _ _ _ _ _ _ _ _ _ _ _ _ _)
   | (with_reducible exact ih1 _ _ _ _ _ _ _ _ _ _ _ _ _ _ _ _ _ _ _ _)
   | (with_reducible exact ih2 _ _ _ _ _ _ _ _ _ _ _ _ _ _ _ _ _ _)
   | (with_reducible exact chunk_Chunk_Class.mono _ _ _ _ _ _ _ _ _ _ _)
   | (with_reducible exact tripartitelaw06_told.mono _)
   | (with_reducible exact tripartiteref01_Same.mono _ _ _)
   | (with_reducible exact tripartiteref06_Class.mono _ _ _ _ _ _ _ _ _ _ _)
   | (with_reducible exact LeO.refl _)
   | (with_reducible exact LeO.none _)
   | (with_reducible refine LeO.ite ?_ ?_)
   | (with_reducible refine LeO.bind ?_ (fun _ => ?_))
   | exact ih0 _ _ _ _ _ _ _ _ _ _ _ _ _ _ _ _ _ _
   | exact ih1 _ _ _ _ _ _ _ _ _ _ _ _ _ _ _ _ _ _ _ _
   | exact ih2 _ _ _ _ _ _ _ _ _ _ _ _ _ _ _ _ _ _
   | exact chunk_Chunk_Class.mono _ _ _ _ _ _ _ _ _ _ _
   | exact tripartitelaw06_told.mono _
   | exact tripartiteref01_Same.mono _ _ _
   | exact tripartiteref06_Class.mono _ _ _ _ _ _ _ _ _ _ _
   | exact LeO.none _
   | refine LeO.ite ?_ ?_
   | refine LeO.bind ?_ (fun _ => ?_)
theorem tripartitelaw06_ChunkClasses.mono : ∀ a0 a1 a2 a3 a4 a5 a6 a7 a8 a9 a10 a11 k, LeO (tripartitelaw06_ChunkClasses.f k a0 a1 a2 a3 a4 a5 a6 a7 a8 a9 a10 a11) (tripartitelaw06_ChunkClasses.f (k + 1) a0 a1 a2 a3 a4 a5 a6 a7 a8 a9 a10 a11) := by
 intro a0 a1 a2 a3 a4 a5 a6 a7 a8 a9 a10 a11 k
 obtain ⟨ih0, ih1, ih2⟩ := tripartitelaw06_ChunkClasses.mono_l k
 unfold tripartitelaw06_ChunkClasses.f
 repeat' first
   | (with_reducible exact ih0 _ _ _ _ _ _ _ _ _ _ _ _ _ _ _ _ _ _)
   | (with_reducible exact ih1 _ _ _ _ _ _ _ _ _ _ _ _ _ _ _ _ _ _ _ _)
   | (with_reducible exact ih2 _ _ _ _ _ _ _ _ _ _ _ _ _ _ _ _ _ _)
   | (with_reducible exact chunk_Chunk_Class.mono _ _ _ _ _ _ _ _ _ _ _)
   | (with_reducible exact tripartitelaw06_told.mono _)
   | (with_reducible exact tripartiteref01_Same.mono _ _ _)
   | (with_reducible exact tripartiteref06_Class.mono _ _ _ _ _ _ _ _ _ _ _)
   | (with_reducible exact LeO.refl _)
   | (with_reducible exact LeO.none _)
   | (with_reducible refine LeO.ite ?_ ?_)
   | (with_reducible refine LeO.bind ?_ (fun _ => ?_))
   | exact ih0 _ _ _ _ _ _ _ _ _ _ _ _ _ _ _ _ _ _
   | exact ih1 _ _ _ _ _ _ _ _ _ _ _ _ _ _ _ _ _ _ _ _
   | exact ih2 _ _ _ _ _ _ _ _ _ _ _ _ _ _ _ _ _ _
   | exact chunk_Chunk_Class.mono _ _ _ _ _ _ _ _ _ _ _
   | exact tripartitelaw06_told.mono _
   | exact tripartiteref01_Same.mono _ _ _
   | exact tripartiteref06_Class.mono _ _ _ _ _ _ _ _ _ _ _
   | exact LeO.none _
   | refine LeO.ite ?_ ?_
   | refine LeO.bind ?_ (fun _ => ?_)
def tripartitelaw06_ChunkClasses.T1 : Bool × List (List Nat × List Nat) := (true, [([], []), ([0], [0]), ([], []), ([2], [2]), ([3], [3]), ([4], [4]), ([1, 5], [1, 5]), ([], []), ([7], [7]), ([], []), ([9], [9]), ([10], [10]), ([11], [11]), ([8, 12], [8, 12]), ([], []), ([14], [14]), ([], []), ([16], [16]), ([17], [17]), ([18], [18]), ([15, 19], [15, 19]), ([6, 0, 1, 2, 3, 4, 5, 6], [6]), ([13, 21, 0, 1, 2, 3, 4, 5, 6, 7, 8, 9, 10, 11, 12, 13, 21], [13]), ([20, 22, 0, 1, 2, 3, 4, 5, 6, 7, 8, 9, 10, 11, 12, 13, 14, 15, 16, 17, 18, 19, 20, 21, 22], [20])])
def tripartitelaw06_ChunkClasses.B1 : List Nat := [0, 1, 0, 4, 12, 28, 63, 0, 128, 0, 512, 1536, 3584, 8064, 0, 16384, 0, 65536, 196608, 458752, 1032192, 127, 2113535, 8388607]
theorem tripartitelaw06_ChunkClasses.tab1 : rtab .any (opsOf Try.f4 1) = tripartitelaw06_ChunkClasses.T1 := by kernel_rfl
theorem tripartitelaw06_ChunkClasses.bits1 : waitsOk tripartitelaw06_ChunkClasses.T1.2 tripartitelaw06_ChunkClasses.B1 = true := by kernel_rfl
def tripartitelaw06_ChunkClasses.T4 : Bool × List (List Nat × List Nat) := (true, [([], []), ([0], [0]), ([1, 0], [1]), ([2], [2]), ([2], [2]), ([3, 4, 2, 2], [2, 3, 4]), ([2], [2]), ([2], [2]), ([6, 7, 5, 2], [2, 6, 7]), ([5, 8, 8, 2], [2, 5, 8]), ([9, 2], [2, 9]), ([2, 10], [2, 10])])
def tripartitelaw06_ChunkClasses.B4 : List Nat := [0, 1, 3, 7, 7, 31, 7, 7, 255, 511, 1023, 2047]
theorem tripartitelaw06_ChunkClasses.tab4 : rtab .any (opsOf Try.f4 4) = tripartitelaw06_ChunkClasses.T4 := by kernel_rfl
theorem tripartitelaw06_ChunkClasses.bits4 : waitsOk tripartitelaw06_ChunkClasses.T4.2 tripartitelaw06_ChunkClasses.B4 = true := by kernel_rfl
def tripartitelaw06_ChunkClasses.T6 : Bool × List (List Nat × List Nat) := (true, [([], []), ([0], [0]), ([1], [1]), ([2], [2]), ([3], [3]), ([4, 3], [3, 4]), ([3], [3]), ([6, 3], [3, 6]), ([5, 7, 3], [3, 5, 7]), ([3, 8], [3, 8]), ([9, 3], [9]), ([10], [10]), ([11, 10, 10], [10, 11]), ([10], [10]), ([13, 10], [10, 13]), ([10], [10]), ([15, 10], [10, 15]), ([14, 16, 10], [10, 14, 16]), ([12, 17, 10], [10, 12, 17]), ([10, 18], [10, 18]), ([19, 12], [19]), ([20], [20]), ([21, 20], [20, 21]), ([20], [20]), ([23, 20], [20, 23]), ([22, 24, 20], [20, 22, 24]), ([25, 20, 20], [20, 25]), ([26], [26]), ([27, 26, 26], [26, 27]), ([28, 26], [26, 28]), ([26, 29, 20], [20, 26, 29]), ([20, 30], [20, 30])])
def tripartitelaw06_ChunkClasses.B6 : List Nat := [0, 1, 3, 7, 15, 31, 15, 79, 255, 511, 1023, 2047, 4095, 2047, 10239, 2047, 34815, 124927, 262143, 524287, 1048575, 2097151, 4194303, 2097151, 10485759, 33554431, 67108863, 134217727, 268435455, 536870911, 1073741823, 2147483647]
theorem tripartitelaw06_ChunkClasses.tab6 : rtab .any (opsOf Try.f4 6) = tripartitelaw06_ChunkClasses.T6 := by kernel_rfl
theorem tripartitelaw06_ChunkClasses.bits6 : waitsOk tripartitelaw06_ChunkClasses.T6.2 tripartitelaw06_ChunkClasses.B6 = true := by kernel_rfl
def tripartitelaw06_ChunkClasses.T16 : Bool × List (List Nat × List Nat) := (true, [([], []), ([], []), ([], []), ([], []), ([0, 1, 2, 3], [0, 1, 2, 3]), ([], []), ([5, 4], [5]), ([], []), ([], []), ([], []), ([6, 7, 8, 9, 6], [6, 7, 8, 9]), ([4, 10, 0, 1, 2, 3, 4], [4]), ([10, 11, 0, 1, 2, 3, 4, 5, 6, 7, 8, 9, 10, 11], [10])])
def tripartitelaw06_ChunkClasses.B16 : List Nat := [0, 0, 0, 0, 15, 0, 63, 0, 0, 0, 1023, 2047, 4095]
theorem tripartitelaw06_ChunkClasses.tab16 : rtab .any (opsOf Try.f4 16) = tripartitelaw06_ChunkClasses.T16 := by kernel_rfl
theorem tripartitelaw06_ChunkClasses.bits16 : waitsOk tripartitelaw06_ChunkClasses.T16.2 tripartitelaw06_ChunkClasses.B16 = true := by kernel_rfl
def tripartitelaw06_ChunkClasses.T20 : Bool × List (List Nat × List Nat) := (true, [([], []), ([0], [0]), ([1], [1]), ([2], [2]), ([3], [3]), ([4, 3], [3, 4]), ([3], [3]), ([5, 6, 3, 3], [3, 5, 6]), ([3], [3]), ([8, 3], [3, 8]), ([3], [3]), ([9, 10, 7, 3], [3, 9, 10]), ([7, 11, 11, 3], [3, 7, 11]), ([3, 12], [3, 12]), ([13, 12], [13]), ([14], [14]), ([15, 14], [14, 15]), ([14], [14]), ([16, 17, 14, 14], [14, 16, 17]), ([14], [14]), ([19, 14], [14, 19]), ([14], [14]), ([20, 21, 18, 14], [14, 20, 21]), ([18, 22, 22, 14], [14, 18, 22]), ([14, 23], [14, 23])])
def tripartitelaw06_ChunkClasses.B20 : List Nat := [0, 1, 3, 7, 15, 31, 15, 127, 15, 271, 15, 2047, 4095, 8191, 16383, 32767, 65535, 32767, 262143, 32767, 557055, 32767, 4194303, 8388607, 16777215]
theorem tripartitelaw06_ChunkClasses.tab20 : rtab .any (opsOf Try.f4 20) = tripartitelaw06_ChunkClasses.T20 := by kernel_rfl
theorem tripartitelaw06_ChunkClasses.bits20 : waitsOk tripartitelaw06_ChunkClasses.T20.2 tripartitelaw06_ChunkClasses.B20 = true := by kernel_rfl

end Go.Proofs.Ytkliaoikljjeaaa.X
