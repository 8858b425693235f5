-- Written by a program of this session (wip/tools/xprint.py) out of the translation. Not trusted: Lean checks it.
import Derived.Test.YtldccimehioakaaXx0
import Derived.Test.YtldccimehioakaaXx3
import Derived.Test.YtldccimehioakaaXx6
import Derived.Test.YtldccimehioakaaTrail
namespace Go.Proofs.Ytldccimehioakaa.X
open Go.RowKit Go.Proofs.YtldccimehioakaaW.PrintWords Go.Proofs.YtldccimehioakaaW.PrintLast Go.Proofs.YtldccimehioakaaW.PrintMore
attribute [local go_sem] max2_int min2_int max_two min_two max_three min_three max_four min_four max2_str min2_str   -- for this text's walks alone
set_option linter.unusedVariables false
set_option linter.unusedSimpArgs false

/-! ### trail_Since: function 11, BY HAND -/
-- IMPORT Trail
def trail_Since.f (k : Nat) (l0 : List (S30)) (a1 : Int) (a2 : Int) (l3 : List (S35)) : Option (List (S30)) := if l0.length ≤ 1000000 then (trail_Right.f k l0).bind fun r => (stretch_Meet.f k l3).bind fun m => some (Trail.sinceL r a1 a2 m l0) else none
theorem trail_Since.mono : ∀ a0 a1 a2 a3 k, LeO (trail_Since.f k a0 a1 a2 a3) (trail_Since.f (k + 1) a0 a1 a2 a3) := by
  intro a0 a1 a2 a3 k
  unfold trail_Since.f
  exact LeO.ite (LeO.bind (trail_Right.mono _ _) (fun _ => LeO.bind (stretch_Meet.mono _ _) (fun _ => LeO.refl _))) (LeO.refl _)
theorem trail_Since.calls (k : Nat) (A0 : Option Addr) (c0 : Nat) (l0 : List (S30)) (a1 : Int) (a2 : Int) (A3 : Option Addr) (c3 : Nat) (l3 : List (S35)) (r : List (S30)) (w : World) (hr0 : Kd.C k30 w A0 l0.length l0) (hc0 : l0.length ≤ c0) (hr3 : Kd.C k35 w A3 l3.length l3) (hc3 : l3.length ≤ c3) (h : trail_Since.f k l0 a1 a2 l3 = some r) :
    Calls Try.prog 11 #[.slice A0 l0.length c0, .int .i64 a1, .int .i64 a2, .slice A3 l3.length c3] w fun e w' => ∃ v0_ : Value, e = .returned (v0_) ∧ Kd.R k30 30 w' w.heap.size (fun _ => True) v0_ r ∧ Below w.heap.size w w' := by
  unfold trail_Since.f at h
  split at h
  · rename_i hl
    obtain ⟨t, ht, h⟩ := Option.bind_eq_some_iff.mp h
    obtain ⟨m, hm, h⟩ := Option.bind_eq_some_iff.mp h
    obtain rfl := Option.some.inj h
    exact Trail.since_calls A0 c0 l0 a1 a2 A3 c3 l3 w hr0 hc0 hr3 hc3 hl k t ht m hm
  · cases h

end Go.Proofs.Ytldccimehioakaa.X
