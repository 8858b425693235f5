-- Written by a program of this session (wip/tools/xprint.py) out of the translation. Not trusted: Lean checks it.
import Derived.Test.YtgjngaeoojcioaaXx0
import Derived.Test.YtgjngaeoojcioaaXx5
import Derived.Test.YtgjngaeoojcioaaClean
namespace Go.Proofs.Ytgjngaeoojcioaa.X
open Go.RowKit Go.Proofs.YtgjngaeoojcioaaW.PrintWords Go.Proofs.YtgjngaeoojcioaaW.PrintLast Go.Proofs.YtgjngaeoojcioaaW.PrintMore
attribute [local go_sem] max2_int min2_int max_two min_two max_three min_three max_four min_four max2_str min2_str   -- for this text's walks alone
set_option linter.unusedVariables false
set_option linter.unusedSimpArgs false

/-! ### cache_Clean: function 16, BY HAND -/
-- IMPORT Clean
def cache_Clean.f (k : Nat) (a0_0 : Int) (l0_1 : List (S27)) : Option (Int × List (S27) × List (S27)) := (cache_Right.f k a0_0 l0_1).bind fun t => if t = true then (if l0_1.length ≤ 1000000 then some (a0_0, l0_1.map Clean.cl, l0_1.filter (fun x => x.f2)) else none) else some (a0_0, l0_1, [])
theorem cache_Clean.mono : ∀ a0 a1 k, LeO (cache_Clean.f k a0 a1) (cache_Clean.f (k + 1) a0 a1) := by
  intro a0 a1 k
  unfold cache_Clean.f
  exact LeO.bind (cache_Right.mono _ _ _) (fun _ => LeO.refl _)
theorem cache_Clean.calls (k : Nat) (a0_0 : Int) (P0_1_ : Nat → Prop) (A0_1 : Option Addr) (c0_1 : Nat) (l0_1 : List (S27)) (r1 : Int) (r2 : List (S27)) (r3 : List (S27)) (w : World) (hs0_1 : Kd.V k27 27 w w.heap.size (fun k_ => P0_1_ k_) (.slice A0_1 l0_1.length c0_1) l0_1) (h : cache_Clean.f k a0_0 l0_1 = some (r1, r2, r3)) :
    Calls Try.prog 16 #[.agg #[.int .i64 a0_0, .slice A0_1 l0_1.length c0_1]] w fun e w' => ∃ v1_ v2_ : Value, e = .returned (.tuple #[.agg #[.int .i64 r1, v1_], v2_]) ∧ Kd.V k27 27 w' w.heap.size (fun k_ => (P0_1_ k_ ∨ w.heap.size ≤ k_) ∧ some k_ ≠ (v2_ : Value).ownBlock) v1_ r2 ∧ Kd.R k27 27 w' w.heap.size (fun k_ => (w.heap.size ≤ k_)) v2_ r3 ∧ Below w.heap.size w w' := by
  unfold cache_Clean.f at h
  obtain ⟨t, ht, h⟩ := Option.bind_eq_some_iff.mp h
  cases t
  · simp only [Bool.false_eq_true, if_false, Option.some.injEq, Prod.mk.injEq] at h
    obtain ⟨rfl, rfl, rfl⟩ := h
    refine (Clean.clean_no k a0_0 P0_1_ A0_1 c0_1 l0_1 w hs0_1 ht).mono ?_
    rintro e w' ⟨rfl, hb⟩
    exact ⟨_, _, rfl, Kd.V_mono (Kd.V_below hs0_1 hb) (fun k hk => ⟨.inl hk, by simp [Value.ownBlock]⟩), Kd.R_nil _ _ _ _ _, hb⟩
  · simp only [if_true] at h
    split at h
    · rename_i hl
      simp only [Option.some.injEq, Prod.mk.injEq] at h
      obtain ⟨rfl, rfl, rfl⟩ := h
      refine (Clean.clean_ok k a0_0 P0_1_ A0_1 c0_1 l0_1 w hs0_1 ht hl).mono ?_
      rintro e w' ⟨v1, v2, rfl, h1, h2, h3, hb⟩
      refine ⟨v1, v2, rfl, Kd.R_V (Kd.R_reok rfl h1 (fun k hk => ⟨.inr (Kd.R_base h1 k hk), ?_⟩)), Kd.R_reok rfl h2 (fun k hk => Kd.R_base h2 k hk), hb⟩
      rcases h3 with h3 | h3
      · rw [h3] at hk
        cases hk
      · rw [← hk]
        exact h3
    · cases h

end Go.Proofs.Ytgjngaeoojcioaa.X
