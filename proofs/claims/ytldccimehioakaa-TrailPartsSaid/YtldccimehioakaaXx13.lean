-- Written by a program of this session (wip/tools/xprint.py) out of the translation. Not trusted: Lean checks it.
import Derived.Test.YtldccimehioakaaXx0
import Derived.Test.YtldccimehioakaaXx6
import Derived.Test.YtldccimehioakaaNewest
namespace Go.Proofs.Ytldccimehioakaa.X
open Go.RowKit Go.Proofs.YtldccimehioakaaW.PrintWords Go.Proofs.YtldccimehioakaaW.PrintLast Go.Proofs.YtldccimehioakaaW.PrintMore
attribute [local go_sem] max2_int min2_int max_two min_two max_three min_three max_four min_four max2_str min2_str   -- for this text's walks alone
set_option linter.unusedVariables false
set_option linter.unusedSimpArgs false

/-! ### trail_Newest: function 13, BY HAND -/
-- IMPORT Newest
def trail_Newest.f (k : Nat) (l0 : List (S30)) (a1 : Int) : Option (List (S30)) := if l0.length ≤ 1000000 then (if ∀ x ∈ l0, Newest.okC x then (trail_Right.f k l0).bind fun r => some (Trail.kept r (fun x => decide (x.f0 < Newest.lastUp a1 l0 x.f1)) l0) else none) else none
theorem trail_Newest.mono : ∀ a0 a1 k, LeO (trail_Newest.f k a0 a1) (trail_Newest.f (k + 1) a0 a1) := by
  intro a0 a1 k
  unfold trail_Newest.f
  exact LeO.ite (LeO.ite (LeO.bind (trail_Right.mono _ _) (fun _ => LeO.refl _)) (LeO.refl _)) (LeO.refl _)
theorem trail_Newest.calls (k : Nat) (A0 : Option Addr) (c0 : Nat) (l0 : List (S30)) (a1 : Int) (r : List (S30)) (w : World) (hr0 : Kd.C k30 w A0 l0.length l0) (hc0 : l0.length ≤ c0) (h : trail_Newest.f k l0 a1 = some r) :
    Calls Try.prog 13 #[.slice A0 l0.length c0, .int .i64 a1] w fun e w' => ∃ v0_ : Value, e = .returned (v0_) ∧ Kd.R k30 30 w' w.heap.size (fun _ => True) v0_ r ∧ Below w.heap.size w w' := by
  unfold trail_Newest.f at h
  split at h
  · rename_i hl
    split at h
    · rename_i hok
      obtain ⟨t, ht, h⟩ := Option.bind_eq_some_iff.mp h
      obtain rfl := Option.some.inj h
      exact Newest.newest_calls A0 c0 l0 a1 w hr0 hc0 hl hok k t ht
    · cases h
  · cases h

end Go.Proofs.Ytldccimehioakaa.X
