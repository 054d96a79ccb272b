import Derived.Test.YtohijjobmmibcaaGreatDoorProg
import Derived.Below
import Derived.Deep.Draws
import Derived.Deep.AppendLies
import Derived.Maps.AppendAt
import Derived.OwnWalk
import Derived.Laws.BytesArg
import Derived.Laws.MakeOwn
import Derived.Laws.OwnMore
import Derived.Deep.OwnRows
import Derived.Tactics
import Derived.Lib.ConvBytes
import Derived.Laws.Slices
import Derived.WalkKit
import Derived.KernelRfl
import Derived.RowKit3
import Derived.Deep.LoopGhost
import Derived.Deep.QuietTactic
import Derived.BigQuiet
import Derived.WideLaws
import Derived.Deep.DeepCutAuto
import Derived.Deep.CutBlock
import Derived.Deep.RegionHeld3
import Derived.Laws.Rows
import Derived.Lib.AppendStr
import Derived.ArgAppend
import Derived.Laws.IdiomCopy
import Derived.OrdersHeld
import Derived.Laws.BitsLemmas
import Derived.RowKit
import Derived.Test.YtohijjobmmibcaaGreatDoorLib
import Derived.Test.YtohijjobmmibcaaGreatDoorWWords
import Derived.Test.YtohijjobmmibcaaGreatDoorWLast
import Derived.Test.YtohijjobmmibcaaGreatDoorWTab
import Derived.Test.YtohijjobmmibcaaGreatDoorWApart
import Derived.Test.YtohijjobmmibcaaGreatDoorWFoot
import Derived.Test.YtohijjobmmibcaaGreatDoorWKept
import Derived.Test.YtohijjobmmibcaaGreatDoorWShare
import Derived.Test.YtohijjobmmibcaaGreatDoorWN
import Derived.Test.YtohijjobmmibcaaGreatDoorWEqStruct
import Derived.Test.YtohijjobmmibcaaGreatDoorWRepsOne
import Derived.Test.YtohijjobmmibcaaGreatDoorWInv
import Derived.Test.YtohijjobmmibcaaGreatDoorWGuard
import Derived.Test.YtohijjobmmibcaaGreatDoorWMore
namespace Go.Proofs.YtohijjobmmibcaaGreatDoor.PA
open Go.RowKit Go.Proofs.YtohijjobmmibcaaGreatDoorW.PrintWords Go.Proofs.YtohijjobmmibcaaGreatDoorW.PrintLast Go.Proofs.YtohijjobmmibcaaGreatDoorW.PrintMore
attribute [local go_sem] max2_int min2_int max_two min_two max_three min_three max_four min_four
set_option linter.unusedVariables false
set_option linter.unusedSimpArgs false
def errW : Option Int → Value
  | none => .nilIface
  | some c => .iface 0 (.int .i64 c)
theorem qan : errW none = .nilIface := rfl
theorem qao (c : Int) : errW (some c) = .iface 0 (.int .i64 c) := rfl
end Go.Proofs.YtohijjobmmibcaaGreatDoor.PA
