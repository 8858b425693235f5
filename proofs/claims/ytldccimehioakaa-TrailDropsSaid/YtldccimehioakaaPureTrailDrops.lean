/- TrailDrops, plain: what is dropped does not matter to what comes behind; dropped twice is dropped by the greater Seq. -/
import Derived.Test.YtldccimehioakaaStateTrailDrops
import Derived.Test.YtldccimehioakaaTrailMore
namespace Go.Proofs.Ytldccimehioakaa.Pure
open Go Go.RowKit Go.Proofs.Ytldccimehioakaa.X Go.Proofs.Ytldccimehioakaa.Pl Go.Proofs.YtldccimehioakaaW Go.Proofs.YtldccimehioakaaW.PrintWords Go.Proofs.YtldccimehioakaaW.PrintLast Go.Proofs.YtldccimehioakaaW.PrintMore
set_option linter.unusedVariables false
set_option linter.unusedSimpArgs false
theorem drop_eq {l : List S30} (hr : RightP l) (s : Int) : dropB l s = l.filter (fun x => decide (s < x.f0)) := by
  unfold dropB
  rw [if_pos hr]
theorem drop_since {l : List S30} (hr : RightP l) {lo hi : Int} (h : lo ≤ hi) (m : Int) (rs : List S35) : sinceB (dropB l lo) hi m rs = sinceB l hi m rs := by
  have h2 := drop_right l lo
  unfold sinceB
  rw [if_pos hr, if_pos h2, drop_eq hr, List.filter_filter]
  congr 1
  apply List.filter_congr
  intro x _
  unfold above
  by_cases h3 : hi < x.f0
  · rw [decide_eq_true (show lo < x.f0 by omega)]
    simp
  · rw [decide_eq_false h3]
    simp
theorem drop_two {l : List S30} (hr : RightP l) (a b : Int) : dropB (dropB l a) b = l.filter (fun x => decide (b < x.f0) && decide (a < x.f0)) := by
  rw [drop_eq (drop_right l a), drop_eq hr, List.filter_filter]
theorem drop_up {l : List S30} (hr : RightP l) {lo hi : Int} (h : lo ≤ hi) : dropB (dropB l lo) hi = dropB l hi := by
  rw [drop_two hr, drop_eq hr]
  apply List.filter_congr
  intro x _
  by_cases h3 : hi < x.f0
  · rw [decide_eq_true h3, decide_eq_true (show lo < x.f0 by omega)]
    rfl
  · rw [decide_eq_false h3]
    rfl
theorem drop_down {l : List S30} (hr : RightP l) {lo hi : Int} (h : lo ≤ hi) : dropB (dropB l hi) lo = dropB l hi := by
  rw [drop_two hr, drop_eq hr]
  apply List.filter_congr
  intro x _
  by_cases h3 : hi < x.f0
  · rw [decide_eq_true h3, decide_eq_true (show lo < x.f0 by omega)]
    rfl
  · rw [decide_eq_false h3]
    simp
theorem mn_mx (a b : Int) : mn a b ≤ mx a b := by
  unfold mn mx
  split <;> split <;> omega
theorem drops_j0 (l : List S30) (a b m : Int) (r : S35) (t : Bool) (h : t = false → l.length ≤ 60 ∧ RightP l) (k : Nat) (hk : 100 ≤ k) : weirkeeperlaw16_TrailDrops.j0 (k + 1) l a b m t r.f0 r.f1 r.f2 = some true := by
  rw [weirkeeperlaw16_TrailDrops.j0]
  cases t
  · obtain ⟨hl, hr⟩ := h rfl
    have er : (⟨r.f0, r.f1, r.f2⟩ : S35) = r := rfl
    have hle := mn_mx a b
    generalize mn a b = lo at hle ⊢
    generalize mx a b = hi at hle ⊢
    have h1 := drop_le l lo
    have h2 := drop_le l hi
    have h3 := since_le (dropB l lo) hi m [r]
    have h4 := drop_le (dropB l lo) hi
    have h5 := drop_le (dropB l hi) lo
    rw [if_neg (by simp), er, Drop_f l (by omega) lo k (by omega), Option.bind_some, Since_f _ (by omega) hi m [r] (by simp) k (by omega) (by simp; omega), Option.bind_some, Since_f l (by omega) hi m [r] (by simp) k (by omega) (by simp; omega), Option.bind_some]
    rw [Same_f _ _ (by omega) k (by omega) (drop_since hr hle m [r]), Option.bind_some, if_pos rfl, Drop_f _ (by omega) hi k (by omega), Option.bind_some, Drop_f l (by omega) hi k (by omega), Option.bind_some]
    rw [Same_f _ _ (by omega) k (by omega) (drop_up hr hle), Option.bind_some, if_pos rfl, Option.bind_some, Drop_f _ (by omega) lo k (by omega), Option.bind_some, Option.bind_some]
    rw [Same_f _ _ (by omega) k (by omega) (drop_down hr hle), Option.bind_some, if_pos rfl, refIn_f, Option.bind_some]
    rw [if_pos (by simp [inB]), awake_f k (by omega)]
    rfl
  · rw [if_pos rfl, awake_f k (by omega)]
    rfl
theorem TrailDrops : weirkeeperlaw16_TrailDrops.Pure := by
  intro l a b m r0 r1 r2 _ _ _ _ _
  obtain ⟨K, hK⟩ : ∃ K : Nat, K = 200 := ⟨_, rfl⟩
  refine ⟨K + 1, ?_⟩
  unfold weirkeeperlaw16_TrailDrops.f
  have hj := fun t h => drops_j0 l a b m ⟨r0, r1, r2⟩ t h K (by omega)
  obtain ⟨t, ht, hf⟩ := few_f l (K + 1) (by omega)
  rw [ht, Option.bind_some]
  cases t
  · rw [if_neg (by simp)]
    exact hj true (by simp)
  · obtain ⟨hl, _⟩ := hf rfl
    rw [if_pos rfl, Right_f l (by omega) (K + 1) (by omega), Option.bind_some]
    exact hj _ (fun h => ⟨hl, by simpa using h⟩)
end Go.Proofs.Ytldccimehioakaa.Pure
