/- TrailMeets, plain: what is told of two ranges is what is told of what both have, and of one with the other one's told again. -/
import Derived.Test.YtldccimehioakaaStateTrailMeets
import Derived.Test.YtldccimehioakaaTrails
namespace Go.Proofs.Ytldccimehioakaa.Pure
open Go Go.RowKit Go.Proofs.Ytldccimehioakaa.X Go.Proofs.Ytldccimehioakaa.Pl Go.Proofs.YtldccimehioakaaW Go.Proofs.YtldccimehioakaaW.PrintWords Go.Proofs.YtldccimehioakaaW.PrintLast Go.Proofs.YtldccimehioakaaW.PrintMore
set_option linter.unusedVariables false
set_option linter.unusedSimpArgs false
theorem meets_same (l : List S30) (s m : Int) (a b : S35) : sinceB l s m [a, b] = sinceB l s m [b, a] := by
  unfold sinceB
  split
  · congr 1
    apply List.filter_congr
    intro x _
    simp [above, Bool.and_comm]
  · rfl
theorem meets_twice (l : List S30) (hr : RightP l) (s m : Int) (a b : S35) : sinceB l s m [a, b] = sinceB (sinceB l s (l.length : Int) [a]) s m [b] := by
  have h1 : sinceB l s (l.length : Int) [a] = l.filter (above s [a]) := by
    unfold sinceB
    rw [if_pos hr, Int.toNat_natCast, List.take_of_length_le (List.length_filter_le _ _)]
  have h2 : RightP (l.filter (above s [a])) := right_sub hr List.filter_sublist
  rw [h1]
  unfold sinceB
  rw [if_pos hr, if_pos h2, List.filter_filter]
  congr 1
  apply List.filter_congr
  intro x _
  simp only [above, List.all_cons, List.all_nil, Bool.and_true]
  cases decide (s < x.f0) <;> cases inB a.f0 a.f1 a.f2 x.f1 <;> cases inB b.f0 b.f1 b.f2 x.f1 <;> rfl
theorem meets_j0 (l : List S30) (s m : Int) (a b : S35) (t : Bool) (h : t = false → l.length ≤ 60 ∧ RightP l) (k : Nat) (hk : 100 ≤ k) : weirkeeperlaw16_TrailMeets.j0 (k + 1) l s m t a.f0 a.f1 a.f2 b.f0 b.f1 b.f2 = some true := by
  rw [weirkeeperlaw16_TrailMeets.j0]
  cases t
  · obtain ⟨hl, hr⟩ := h rfl
    have ea : (⟨a.f0, a.f1, a.f2⟩ : S35) = a := rfl
    have eb : (⟨b.f0, b.f1, b.f2⟩ : S35) = b := rfl
    have h1 := since_le l s m [a, b]
    have h3 := since_le l s (l.length : Int) [a]
    rw [if_neg (by simp), ea, eb, Since_f l (by omega) s m [a, b] (by simp) k (by omega) (by simp; omega), Option.bind_some, Since_f l (by omega) s m [b, a] (by simp) k (by omega) (by simp; omega), Option.bind_some, Since_f l (by omega) s _ [a] (by simp) k (by omega) (by simp; omega), Option.bind_some, Since_f _ (by omega) s m [b] (by simp) k (by omega) (by simp; omega), Option.bind_some]
    rw [Same_f _ _ (by omega) k (by omega) (meets_same l s m a b), Option.bind_some, if_pos rfl, Same_f _ _ (by omega) k (by omega) (meets_twice l hr s m a b), Option.bind_some, if_pos rfl, Right_f _ (by omega) k (by omega), Option.bind_some, if_pos (decide_eq_true (since_right _ _ _ _)), awake_f k (by omega)]
    rfl
  · rw [if_pos rfl, awake_f k (by omega)]
    rfl
theorem TrailMeets : weirkeeperlaw16_TrailMeets.Pure := by
  intro l s m a0 a1 a2 b0 b1 b2 _ _ _ _ _
  obtain ⟨K, hK⟩ : ∃ K : Nat, K = 200 := ⟨_, rfl⟩
  refine ⟨K + 1, ?_⟩
  unfold weirkeeperlaw16_TrailMeets.f
  have hj := fun t h => meets_j0 l s m ⟨a0, a1, a2⟩ ⟨b0, b1, b2⟩ t h K (by omega)
  obtain ⟨t, ht, hf⟩ := few_f l (K + 1) (by omega)
  rw [ht, Option.bind_some]
  cases t
  · rw [if_neg (by simp)]
    exact hj true (by simp)
  · obtain ⟨hl, _⟩ := hf rfl
    rw [if_pos rfl, Right_f l (by omega) (K + 1) (by omega), Option.bind_some]
    exact hj _ (fun h => ⟨hl, by simpa using h⟩)
end Go.Proofs.Ytldccimehioakaa.Pure
