-- Written by a program of this session (wip/tools/xprint.py) out of the translation. Not trusted: Lean checks it.
import Derived.Test.YtjldikjnljidbaaProg
import Derived.Below
import Derived.Deep.Draws
import Derived.Deep.AppendLies
import Derived.Maps.AppendAt
import Derived.OwnWalk
import Derived.Laws.BytesArg
import Derived.Laws.MakeOwn
import Derived.Laws.OwnMore
import Derived.Deep.OwnRows
import Derived.Tactics
import Derived.Lib.ConvBytes
import Derived.Laws.Slices
import Derived.WalkKit
import Derived.KernelRfl
import Derived.RowKit3
import Derived.Deep.LoopGhost
import Derived.Deep.QuietTactic
import Derived.BigQuiet
import Derived.WideLaws
import Derived.Deep.DeepCutAuto
import Derived.Deep.CutBlock
import Derived.Deep.RegionHeld3
import Derived.Laws.Rows
import Derived.Lib.AppendStr
import Derived.ArgAppend
import Derived.Laws.IdiomCopy
import Derived.OrdersHeld
import Derived.Laws.BitsLemmas
import Derived.RowKit
import Derived.WalkLawsBesides
import Derived.Test.YtjldikjnljidbaaWWords
import Derived.Test.YtjldikjnljidbaaWLast
import Derived.Test.YtjldikjnljidbaaWTab
import Derived.Test.YtjldikjnljidbaaWFour
import Derived.Test.YtjldikjnljidbaaWQPut
import Derived.Test.YtjldikjnljidbaaWApart
import Derived.Test.YtjldikjnljidbaaWArr
import Derived.Test.YtjldikjnljidbaaWZeros
import Derived.Test.YtjldikjnljidbaaWFoot
import Derived.Test.YtjldikjnljidbaaWKept
import Derived.Test.YtjldikjnljidbaaWShare
import Derived.Test.YtjldikjnljidbaaWN
import Derived.Test.YtjldikjnljidbaaWFootNe
import Derived.Test.YtjldikjnljidbaaWAt
import Derived.Test.YtjldikjnljidbaaWEqStruct
import Derived.Test.YtjldikjnljidbaaWRepsOne
import Derived.Test.YtjldikjnljidbaaWInv
import Derived.Test.YtjldikjnljidbaaWInvWords
import Derived.Test.YtjldikjnljidbaaWGuard
import Derived.Test.YtjldikjnljidbaaWNEv
import Derived.Test.YtjldikjnljidbaaWMore
import Derived.Test.YtjldikjnljidbaaMine
import Derived.Test.YtjldikjnljidbaaMine2
namespace Go.Proofs.Ytjldikjnljidbaa.X
open Go.RowKit Go.Proofs.YtjldikjnljidbaaW.PrintWords Go.Proofs.YtjldikjnljidbaaW.PrintLast Go.Proofs.YtjldikjnljidbaaW.PrintMore
attribute [local go_sem] max2_int min2_int max_two min_two max_three min_three max_four min_four max2_str min2_str   -- for this text's walks alone
set_option linter.unusedVariables false
set_option linter.unusedSimpArgs false



def errW : Option Int → Value
  | none => .nilIface
  | some c => .iface 0 (.int .i64 c)
theorem errW_none : errW none = .nilIface := rfl
theorem errW_some (c : Int) : errW (some c) = .iface 0 (.int .i64 c) := rfl

theorem info5 : (Try.prog.info? 5).map (fun i => (i.zero, i.size, i.bytes)) = some (some (.int .u8 0), 1, 1) := by kernel_rfl
theorem info9 : (Try.prog.info? 9).map (fun i => (i.zero, i.size, i.bytes)) = some (some (.string ⟨#[]⟩), 1, 16) := by kernel_rfl
-- the values' own types

end Go.Proofs.Ytjldikjnljidbaa.X
