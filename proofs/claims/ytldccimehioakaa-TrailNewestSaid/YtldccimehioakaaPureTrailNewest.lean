/- TrailNewest, plain: of each key the last change up to a Seq is among the newest, and all above it; nothing else is; done twice, by rising Seqs, it is done by the last one. -/
import Derived.Test.YtldccimehioakaaStateTrailNewest
import Derived.Test.YtldccimehioakaaTrailMore
namespace Go.Proofs.Ytldccimehioakaa.Pure
open Go Go.RowKit Go.Proofs.Ytldccimehioakaa.X Go.Proofs.Ytldccimehioakaa.Pl Go.Proofs.YtldccimehioakaaW Go.Proofs.YtldccimehioakaaW.PrintWords Go.Proofs.YtldccimehioakaaW.PrintLast Go.Proofs.YtldccimehioakaaW.PrintMore
set_option linter.unusedVariables false
set_option linter.unusedSimpArgs false
theorem ne_30 (x : S30) : ¬ (!(x.f0 == x.f0) || (!(x.f1.toList == x.f1.toList) || (!(x.f2 == x.f2) || (!(x.f3.toList == x.f3.toList) || (!(x.f4 == x.f4) || (!(x.f5.toList == x.f5.toList))))))) = true := by simp
theorem mn_mx (a b : Int) : mn a b ≤ mx a b := by
  unfold mn mx
  split <;> split <;> omega
/-- Is the key another one, or the Seq above? -/
def stays (hi : Int) (c d : S30) : Bool := !(decide (d.f1 = c.f1) && decide (d.f0 ≤ hi))
theorem stays_all (hi : Int) {l : List S30} (hr : RightP l) (i : Nat) (h : i < l.length) : ((l.drop (i + 1)).all fun d => stays hi l[i] d) = !old hi l l[i] := by
  rw [← old_at hi hr i h]
  unfold stays
  rw [List.not_any_eq_all_not]
theorem newest_l1 (l : List S30) (lo hi : Int) (n : List S30) (kk : Nat) (hn : n.length ≤ 100) (i : Nat) (hi' : i < l.length) (hl : l.length ≤ 100) (y : List S30) (hy : y.length ≤ 100) (K : Nat) (c : S30)
    (hT : (y.all fun d => stays hi c d) = true → ∃ h : kk < n.length, n[kk] = c ∧ weirkeeperlaw16_TrailNewest.l0 K l lo hi n ((kk + 1 : Nat) : Int) l (l.length : Int) ((i + 1 : Nat) : Int) = some true)
    (hF : (y.all fun d => stays hi c d) = false → weirkeeperlaw16_TrailNewest.l0 K l lo hi n (kk : Int) l (l.length : Int) ((i + 1 : Nat) : Int) = some true) (d : Nat) : ∀ (j : Nat) (b : Bool), y.length = j + d → b = ((y.take j).all fun d => stays hi c d) →
    weirkeeperlaw16_TrailNewest.l1 (d + (K + 1)) l lo hi n (kk : Int) b l (l.length : Int) (i : Int) y (y.length : Int) (j : Int) c.f0 c.f1 c.f2 c.f3 c.f4 c.f5 = some true := by
  induction d with
  | zero =>
    intro j b hj hb
    rw [List.take_of_length_le (by omega)] at hb
    rw [Nat.zero_add, weirkeeperlaw16_TrailNewest.l1, if_neg (by omega), wrap_succ i (by omega)]
    cases b
    · rw [if_neg (by simp)]
      exact hF hb.symm
    · obtain ⟨h, he, h2⟩ := hT hb.symm
      rw [if_pos rfl, if_neg (by omega), if_pos (by omega), if_pos (by omega), rdc_at n kk h, he, if_neg (ne_30 c), wrap_succ kk (by omega)]
      exact h2
  | succ d ih =>
    intro j b hj hb
    have hjl : j < y.length := by omega
    have hb2 : ((y.take (j + 1)).all fun d => stays hi c d) = (b && stays hi c y[j]) := by
      rw [List.take_succ_eq_append_getElem hjl, List.all_append, ← hb]
      simp
    rw [show d + 1 + (K + 1) = (d + (K + 1)) + 1 by omega, weirkeeperlaw16_TrailNewest.l1, if_pos (by omega), if_pos (by omega), if_pos (by omega), rdc_at y j hjl, wrap_succ j (by omega)]
    cases b
    · rw [if_neg (by simp)]
      exact ih (j + 1) _ (by omega) (by rw [hb2]; rfl)
    · rw [if_pos rfl]
      by_cases e : y[j].f1 = c.f1
      · rw [if_pos ((str_iff _ _).2 e)]
        refine ih (j + 1) _ (by omega) ?_
        rw [hb2, Bool.true_and]
        unfold stays
        rw [decide_eq_true e, Bool.true_and]
        by_cases h2 : y[j].f0 ≤ hi
        · rw [decide_eq_true h2, decide_eq_false (by omega)]
          rfl
        · rw [decide_eq_false h2, decide_eq_true (by omega)]
          rfl
      · rw [if_neg (fun h => e ((str_iff _ _).1 h))]
        refine ih (j + 1) _ (by omega) ?_
        rw [hb2, Bool.true_and]
        unfold stays
        rw [decide_eq_false e]
        rfl
theorem newest_l0 (l : List S30) (hl : l.length ≤ 60) (hok : ∀ x ∈ l, Newest.okC x) (hr : RightP l) (lo hi : Int) (hle : lo ≤ hi) (d : Nat) : ∀ (K i : Nat), l.length = i + d → d * 100 + 200 ≤ K →
    weirkeeperlaw16_TrailNewest.l0 K l lo hi (newestB l hi) ((((l.take i).filter (fun x => !old hi l x)).length : Nat) : Int) l (l.length : Int) (i : Int) = some true := by
  have en : newestB l hi = l.filter (fun x => !old hi l x) := by unfold newestB; rw [if_pos hr]
  have hnl := newest_le l hi
  induction d with
  | zero =>
    intro K i hi' hK
    obtain ⟨q, rfl⟩ : ∃ q, K = q + 1 := ⟨K - 1, by omega⟩
    have h2 := newest_le l lo
    have h3 := newest_le (newestB l lo) hi
    have hok2 : ∀ x ∈ newestB l lo, Newest.okC x := by
      intro x hx
      unfold newestB at hx
      rw [if_pos hr] at hx
      exact hok x (List.mem_filter.1 hx).1
    rw [weirkeeperlaw16_TrailNewest.l0, if_neg (by omega), List.take_of_length_le (by omega), ← en, if_pos rfl, Newest_f l (by omega) hok lo q (by omega), Option.bind_some, Newest_f _ (by omega) hok2 hi q (by omega), Option.bind_some]
    rw [Same_f _ _ (by omega) q (by omega) (newest_twice hr hle), Option.bind_some, if_pos rfl, Right_f _ (by omega) q (by omega), Option.bind_some, if_pos (decide_eq_true (newest_right l hi)), Last_f _ (by omega) q (by omega), Option.bind_some, Last_f l (by omega) q (by omega), Option.bind_some, if_pos (last_newest hr hi), awake_f q (by omega)]
    rfl
  | succ d ih =>
    intro K i hi' hK
    have hil : i < l.length := by omega
    have hdl : (l.drop (i + 1)).length = d := by rw [List.length_drop]; omega
    obtain ⟨q, rfl⟩ : ∃ q, K = (d + (q + 1)) + 1 := ⟨K - d - 2, by omega⟩
    have hnext := ih q (i + 1) (by omega) (by omega)
    rw [List.take_succ_eq_append_getElem hil, List.filter_append] at hnext
    rw [weirkeeperlaw16_TrailNewest.l0, if_pos (by omega), if_pos (by omega), if_pos (by omega), wrap_succ i (by omega), if_pos (by omega), if_pos (by omega), rdc_at l i hil, Int.toNat_natCast, Option.bind_some]
    have hsp : newestB l hi = (l.take i).filter (fun x => !old hi l x) ++ (l.drop i).filter (fun x => !old hi l x) := by rw [en, ← List.filter_append, List.take_append_drop]
    have hl1 := newest_l1 l lo hi (newestB l hi) ((l.take i).filter (fun x => !old hi l x)).length (by omega) i hil (by omega) (l.drop (i + 1)) (by omega) q l[i] (fun hT => by
      rw [stays_all hi hr i hil] at hT
      rw [List.drop_eq_getElem_cons hil, List.filter_cons, if_pos hT] at hsp
      have h1 : [l[i]].filter (fun x => !old hi l x) = [l[i]] := by rw [List.filter_cons, if_pos hT]; rfl
      rw [h1, List.length_append, List.length_singleton] at hnext
      refine ⟨by rw [hsp]; simp, ?_, hnext⟩
      simp only [hsp]
      rw [List.getElem_append_right (Nat.le_refl _)]
      simp) (fun hF => by
      rw [stays_all hi hr i hil] at hF
      have h1 : [l[i]].filter (fun x => !old hi l x) = [] := by rw [List.filter_cons, if_neg (by simp [hF])]; rfl
      rw [h1, List.append_nil] at hnext
      exact hnext) d 0 true (by omega) (by simp)
    rw [show ((0 : Nat) : Int) = 0 from rfl] at hl1
    exact hl1
theorem newest_j0 (l : List S30) (hok : ∀ x ∈ l, Newest.okC x) (a b : Int) (t : Bool) (h : t = false → l.length ≤ 60 ∧ RightP l) (k : Nat) (hk : 10000 ≤ k) : weirkeeperlaw16_TrailNewest.j0 (k + 1) l a b t = some true := by
  rw [weirkeeperlaw16_TrailNewest.j0]
  cases t
  · obtain ⟨hl, hr⟩ := h rfl
    rw [if_neg (by simp), Newest_f l (by omega) hok _ k (by omega), Option.bind_some]
    have := newest_l0 l hl hok hr _ _ (mn_mx a b) l.length k 0 (by omega) (by omega)
    exact this
  · rw [if_pos rfl, awake_f k (by omega)]
    rfl
theorem TrailNewest : weirkeeperlaw16_TrailNewest.Pure := by
  intro l a b hok _ _
  obtain ⟨K, hK⟩ : ∃ K : Nat, K = 20000 := ⟨_, rfl⟩
  refine ⟨K + 1, ?_⟩
  unfold weirkeeperlaw16_TrailNewest.f
  have hj := fun t h => newest_j0 l (ok_of hok) a b t h K (by omega)
  obtain ⟨t, ht, hf⟩ := few_f l (K + 1) (by omega)
  rw [ht, Option.bind_some]
  cases t
  · rw [if_neg (by simp)]
    exact hj true (by simp)
  · obtain ⟨hl, _⟩ := hf rfl
    rw [if_pos rfl, Right_f l (by omega) (K + 1) (by omega), Option.bind_some]
    exact hj _ (fun h => ⟨hl, by simpa using h⟩)
end Go.Proofs.Ytldccimehioakaa.Pure
