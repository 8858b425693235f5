-- Written by a program of this session (wip/tools/xprint.py) out of the translation. Not trusted: Lean checks it.
import Derived.Test.YtbfhojfeolejlaaXx0
import Derived.Test.YtbfhojfeolejlaaPick
namespace Go.Proofs.Ytbfhojfeolejlaa.X
open Go.RowKit Go.Proofs.YtbfhojfeolejlaaW.PrintWords Go.Proofs.YtbfhojfeolejlaaW.PrintLast Go.Proofs.YtbfhojfeolejlaaW.PrintMore
attribute [local go_sem] max2_int min2_int max_two min_two max_three min_three max_four min_four max2_str min2_str   -- for this text's walks alone
set_option linter.unusedVariables false
set_option linter.unusedSimpArgs false

/-! ### stretch_Pick: function 17, BY HAND -/
-- IMPORT Pick
def stretch_Pick.f (a0_0 : ByteArray) (a0_1 : ByteArray) (a0_2 : Bool) (l1 : List (S42)) : Option (List (S42)) := if l1.length ≤ 1000000 then some (l1.filter fun x => !!Pick.inR a0_0 a0_1 a0_2 x.f0) else none
theorem stretch_Pick.calls (a0_0 : ByteArray) (a0_1 : ByteArray) (a0_2 : Bool) (A1 : Option Addr) (c1 : Nat) (l1 : List (S42)) (r : List (S42)) (w : World) (hr1 : Kd.C k42 w A1 l1.length l1) (hc1 : l1.length ≤ c1) (h : stretch_Pick.f a0_0 a0_1 a0_2 l1 = some r) :
    Calls Try.prog 17 #[.agg #[.string a0_0, .string a0_1, .bool a0_2], .slice A1 l1.length c1] w fun e w' => ∃ v0_ : Value, e = .returned (v0_) ∧ Kd.R k42 42 w' w.heap.size (fun _ => True) v0_ r ∧ Below w.heap.size w w' := by
  unfold stretch_Pick.f at h
  split at h
  · rename_i hl
    obtain rfl := Option.some.inj h
    exact Pick.pick_calls A1 c1 l1 a0_0 a0_1 a0_2 w hr1 hl
  · cases h

end Go.Proofs.Ytbfhojfeolejlaa.X
