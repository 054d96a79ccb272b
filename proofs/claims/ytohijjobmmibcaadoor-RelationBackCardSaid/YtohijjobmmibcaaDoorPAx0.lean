import Derived.Test.YtohijjobmmibcaaDoorProg
import Derived.Below
import Derived.Deep.Draws
import Derived.Deep.AppendLies
import Derived.Maps.AppendAt
import Derived.OwnWalk
import Derived.Laws.BytesArg
import Derived.Laws.MakeOwn
import Derived.Laws.OwnMore
import Derived.Deep.OwnRows
import Derived.Tactics
import Derived.Lib.ConvBytes
import Derived.Laws.Slices
import Derived.WalkKit
import Derived.KernelRfl
import Derived.RowKit3
import Derived.Deep.LoopGhost
import Derived.Deep.QuietTactic
import Derived.BigQuiet
import Derived.WideLaws
import Derived.Deep.DeepCutAuto
import Derived.Deep.CutBlock
import Derived.Deep.RegionHeld3
import Derived.Laws.Rows
import Derived.Lib.AppendStr
import Derived.ArgAppend
import Derived.Laws.IdiomCopy
import Derived.OrdersHeld
import Derived.Laws.BitsLemmas
import Derived.RowKit
import Derived.Test.YtohijjobmmibcaaDoorLib
import Derived.Test.YtohijjobmmibcaaDoorWWords
import Derived.Test.YtohijjobmmibcaaDoorWLast
import Derived.Test.YtohijjobmmibcaaDoorWTab
import Derived.Test.YtohijjobmmibcaaDoorWApart
import Derived.Test.YtohijjobmmibcaaDoorWFoot
import Derived.Test.YtohijjobmmibcaaDoorWKept
import Derived.Test.YtohijjobmmibcaaDoorWShare
import Derived.Test.YtohijjobmmibcaaDoorWN
import Derived.Test.YtohijjobmmibcaaDoorWEqStruct
import Derived.Test.YtohijjobmmibcaaDoorWRepsOne
import Derived.Test.YtohijjobmmibcaaDoorWGuard
import Derived.Test.YtohijjobmmibcaaDoorWMore
namespace Go.Proofs.YtohijjobmmibcaaDoor.PA
open Go.RowKit Go.Proofs.YtohijjobmmibcaaDoorW.PrintWords Go.Proofs.YtohijjobmmibcaaDoorW.PrintLast Go.Proofs.YtohijjobmmibcaaDoorW.PrintMore
attribute [local go_sem] max2_int min2_int max_two min_two max_three min_three max_four min_four
set_option linter.unusedVariables false
set_option linter.unusedSimpArgs false
def errW : Option Int → Value
  | none => .nilIface
  | some c => .iface 0 (.int .i64 c)
theorem qam : errW none = .nilIface := rfl
theorem qan (c : Int) : errW (some c) = .iface 0 (.int .i64 c) := rfl
end Go.Proofs.YtohijjobmmibcaaDoor.PA
