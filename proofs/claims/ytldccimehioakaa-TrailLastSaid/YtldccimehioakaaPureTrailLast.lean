/- TrailLast, plain: behind one more change, of a greater Seq, the last Seq is that, and it is told since any one below. -/
import Derived.Test.YtldccimehioakaaStateTrailLast
import Derived.Test.YtldccimehioakaaTrailMore
namespace Go.Proofs.Ytldccimehioakaa.Pure
open Go Go.RowKit Go.Proofs.Ytldccimehioakaa.X Go.Proofs.Ytldccimehioakaa.Pl Go.Proofs.YtldccimehioakaaW Go.Proofs.YtldccimehioakaaW.PrintWords Go.Proofs.YtldccimehioakaaW.PrintLast Go.Proofs.YtldccimehioakaaW.PrintMore
set_option linter.unusedVariables false
set_option linter.unusedSimpArgs false
theorem since_last {l : List S30} {c : S30} (h : RightP (l ++ [c])) (hlt : lastB l < c.f0) : sinceB (l ++ [c]) (lastB l) 9 [] = [c] := by
  have hl : RightP l := right_sub h (List.sublist_append_left _ _)
  unfold sinceB
  rw [if_pos h, List.filter_append]
  have h1 : l.filter (above (lastB l) []) = [] := by
    rw [List.filter_eq_nil_iff]
    intro y hy
    have := le_last hl y hy
    simp [above]
    omega
  have h2 : [c].filter (above (lastB l) []) = [c] := by simp [above, hlt]
  rw [h1, h2]
  rfl
theorem eq_30 (x y : S30) : (x.f0 == y.f0 && ((x.f1.toList == y.f1.toList) && (x.f2 == y.f2 && ((x.f3.toList == y.f3.toList) && (x.f4 == y.f4 && (x.f5.toList == y.f5.toList)))))) = true ↔ x = y := by
  obtain ⟨a, b, c, d, e, f⟩ := x
  obtain ⟨a', b', c', d', e', f'⟩ := y
  simp only [Bool.and_eq_true, beq_iff_eq, str_iff, S30.mk.injEq]
theorem last_j0 (l : List S30) (c : S30) (t : Bool) (h : t = false → l.length ≤ 60 ∧ RightP l) (k : Nat) (hk : 100 ≤ k) : weirkeeperlaw16_TrailLast.j0 (k + 1) l t c.f0 c.f1 c.f2 c.f3 c.f4 c.f5 = some true := by
  rw [weirkeeperlaw16_TrailLast.j0]
  cases t
  · obtain ⟨hl, hr⟩ := h rfl
    have hm : (l ++ [c]).length = l.length + 1 := by simp
    rw [if_neg (by simp), Option.bind_some, if_pos (by simp; omega), Option.bind_some, Option.bind_some, if_pos (by simp; omega), Option.bind_some, List.nil_append, eta30, Right_f (l ++ [c]) (by omega) k (by omega), Option.bind_some]
    by_cases hrm : RightP (l ++ [c])
    · have hlt := ((right_snoc hr c).1 hrm).2
      have hs := since_last hrm hlt
      rw [if_pos (decide_eq_true hrm), Last_f l (by omega) k (by omega), Option.bind_some, Since_f (l ++ [c]) (by omega) _ 9 [] (by simp) k (by omega) (by simp; omega), Option.bind_some, Last_f (l ++ [c]) (by omega) k (by omega), Option.bind_some, last_snoc hrm, if_pos rfl, Option.bind_some, if_pos hlt, hs, if_pos (show ((([c] : List S30).length : Nat) : Int) = 1 from rfl), if_pos (show (0 : Int) < ((([c] : List S30).length : Nat) : Int) by simp)]
      have h0 : rd_T30 [c] 0 = c := rfl
      rw [h0, if_pos ((eq_30 c c).2 rfl), awake_f k (by omega)]
      rfl
    · have hlm : lastB (l ++ [c]) = 0 := by
        unfold lastB
        rw [if_neg hrm]
      rw [if_neg (by simpa using hrm), Last_f l (by omega) k (by omega), Option.bind_some]
      by_cases hle : c.f0 ≤ lastB l
      · rw [if_pos hle, Last_f (l ++ [c]) (by omega) k (by omega), Option.bind_some, if_pos hlm, awake_f k (by omega)]
        rfl
      · have hno : ¬ RightP [c] := by
          intro h1
          exact hrm ((right_snoc hr c).2 ⟨(right_one c).1 h1, by omega⟩)
        rw [if_neg hle, Right_f [c] (by simp) k (by simp; omega), Option.bind_some, if_neg (by simpa using hno), Last_f (l ++ [c]) (by omega) k (by omega), Option.bind_some, if_pos hlm, awake_f k (by omega)]
        rfl
  · rw [if_pos rfl, awake_f k (by omega)]
    rfl
theorem TrailLast : weirkeeperlaw16_TrailLast.Pure := by
  intro l c0 c1 c2 c3 c4 c5 _ _
  obtain ⟨K, hK⟩ : ∃ K : Nat, K = 200 := ⟨_, rfl⟩
  refine ⟨K + 1, ?_⟩
  unfold weirkeeperlaw16_TrailLast.f
  have hj := fun t h => last_j0 l ⟨c0, c1, c2, c3, c4, c5⟩ t h K (by omega)
  obtain ⟨t, ht, hf⟩ := few_f l (K + 1) (by omega)
  obtain ⟨u, hu, _⟩ := few_f [⟨c0, c1, c2, c3, c4, c5⟩] (K + 1) (by omega)
  rw [ht, Option.bind_some]
  cases t
  · rw [if_neg (by simp)]
    exact hj true (by simp)
  · obtain ⟨hl, _⟩ := hf rfl
    rw [if_pos rfl, Right_f l (by omega) (K + 1) (by omega), Option.bind_some]
    by_cases hr : RightP l
    · rw [if_pos (decide_eq_true hr), hu, Option.bind_some]
      exact hj _ (fun _ => ⟨hl, hr⟩)
    · rw [if_neg (by simpa using hr)]
      exact hj true (by simp)
end Go.Proofs.Ytldccimehioakaa.Pure
