/- Trails, plain: the last Seq; what is told behind one more change; the newest, told twice. -/
import Derived.Test.YtldccimehioakaaTrails
namespace Go.Proofs.Ytldccimehioakaa.Pl
open Go Go.RowKit Go.Proofs.Ytldccimehioakaa.X Go.Proofs.YtldccimehioakaaW Go.Proofs.YtldccimehioakaaW.PrintWords Go.Proofs.YtldccimehioakaaW.PrintLast Go.Proofs.YtldccimehioakaaW.PrintMore
set_option linter.unusedVariables false
set_option linter.unusedSimpArgs false
theorem str_iff (a b : ByteArray) : a.toList = b.toList ↔ a = b := ⟨fun h => toList_inj h, fun h => by rw [h]⟩
theorem eta30 (x : S30) : (⟨x.f0, x.f1, x.f2, x.f3, x.f4, x.f5⟩ : S30) = x := rfl
/-- Of a trail, what is later stands behind. -/
theorem old_at (s : Int) {l : List S30} (hr : RightP l) (i : Nat) (hi : i < l.length) : ((l.drop (i + 1)).any fun y => decide (y.f1 = l[i].f1) && decide (y.f0 ≤ s)) = old s l l[i] := by
  rw [Bool.eq_iff_iff, old_iff, List.any_eq_true]
  have hp := List.pairwise_iff_getElem.1 hr.2
  constructor
  · rintro ⟨y, hy, h⟩
    simp only [Bool.and_eq_true, decide_eq_true_eq] at h
    obtain ⟨j, hj, rfl⟩ := List.getElem_of_mem hy
    simp only [List.length_drop] at hj
    rw [List.getElem_drop] at h
    exact ⟨_, List.getElem_mem _, h.2, h.1, hp i (i + 1 + j) hi (by omega) (by omega)⟩
  · rintro ⟨y, hy, h1, h2, h3⟩
    obtain ⟨j, hj, rfl⟩ := List.getElem_of_mem hy
    have hij : i < j := by
      rcases Nat.lt_trichotomy i j with h | h | h
      · exact h
      · subst h
        omega
      · have := hp j i hj hi h
        omega
    refine ⟨l[j], ?_, by simp [h1, h2]⟩
    rw [List.mem_drop_iff_getElem]
    exact ⟨j - (i + 1), by omega, by congr 1; omega⟩
/-! ### The last Seq -/
theorem last_snoc {l : List S30} {c : S30} (h : RightP (l ++ [c])) : lastB (l ++ [c]) = c.f0 := by
  unfold lastB
  rw [if_pos h]
  simp
theorem last_nil : lastB [] = 0 := by
  unfold lastB
  simp
theorem le_last {l : List S30} (hr : RightP l) : ∀ y ∈ l, y.f0 ≤ lastB l := by
  induction l using snoc_ind with
  | nil => simp
  | snoc l c ih =>
    intro y hy
    rw [last_snoc hr]
    rcases List.mem_append.1 hy with hy | hy
    · exact Int.le_of_lt ((List.pairwise_append.1 hr.2).2.2 y hy c (by simp))
    · rw [List.mem_singleton.1 hy]
      exact Int.le_refl _
theorem right_snoc {l : List S30} (hr : RightP l) (c : S30) : RightP (l ++ [c]) ↔ mayB c = true ∧ lastB l < c.f0 := by
  constructor
  · intro h
    refine ⟨h.1 c (by simp), ?_⟩
    have hlt := (List.pairwise_append.1 h.2).2.2
    induction l using snoc_ind with
    | nil =>
      rw [last_nil]
      have := may_pos (h.1 c (by simp))
      omega
    | snoc l x _ =>
      rw [last_snoc hr]
      exact hlt x (by simp) c (by simp)
  · rintro ⟨h1, h2⟩
    refine ⟨fun x hx => ?_, ?_⟩
    · rcases List.mem_append.1 hx with hx | hx
      · exact hr.1 x hx
      · rw [List.mem_singleton.1 hx]
        exact h1
    · rw [List.pairwise_append]
      refine ⟨hr.2, by simp, fun a ha b hb => ?_⟩
      rw [List.mem_singleton.1 hb]
      have := le_last hr a ha
      omega
theorem right_one (c : S30) : RightP [c] ↔ mayB c = true := by
  constructor
  · intro h
    exact h.1 c (by simp)
  · intro h
    exact ⟨by simpa using h, by simp⟩
theorem last_newest {l : List S30} (hr : RightP l) (s : Int) : lastB (newestB l s) = lastB l := by
  have hn := newest_right l s
  unfold newestB at hn ⊢
  rw [if_pos hr] at hn ⊢
  induction l using snoc_ind with
  | nil => rfl
  | snoc l c _ =>
    have ho : old s (l ++ [c]) c = false := by
      rw [Bool.eq_false_iff]
      intro h
      obtain ⟨y, hy, _, _, h3⟩ := (old_iff _ _ _).1 h
      have := le_last hr y hy
      rw [last_snoc hr] at this
      omega
    rw [List.filter_append] at hn ⊢
    have h1 : [c].filter (fun x => !old s (l ++ [c]) x) = [c] := by simp [ho]
    rw [h1] at hn ⊢
    rw [last_snoc hn, last_snoc hr]
/-- Newest twice, by rising Seqs, is Newest by the last one. -/
theorem newest_twice {l : List S30} (hr : RightP l) {lo hi : Int} (h : lo ≤ hi) : newestB (newestB l lo) hi = newestB l hi := by
  have hn := newest_right l lo
  have e1 : newestB l lo = l.filter (fun x => !old lo l x) := by unfold newestB; rw [if_pos hr]
  have e2 : newestB l hi = l.filter (fun x => !old hi l x) := by unfold newestB; rw [if_pos hr]
  have e0 : ∀ m : List S30, RightP m → newestB m hi = m.filter (fun x => !old hi m x) := by
    intro m hm
    unfold newestB
    rw [if_pos hm]
  have e3 := e0 _ hn
  rw [e3, e2, e1, List.filter_filter]
  apply List.filter_congr
  intro x hx
  rw [← e1]
  have hsub : ∀ y ∈ newestB l lo, y ∈ l := by
    rw [e1]
    intro y hy
    exact (List.mem_filter.1 hy).1
  rw [Bool.eq_iff_iff]
  simp only [Bool.and_eq_true, Bool.not_eq_true', Bool.eq_false_iff, ne_eq]
  constructor
  · rintro ⟨h1, h2⟩ h3
    obtain ⟨y, hy, a, b, c⟩ := (old_iff _ _ _).1 h3
    obtain ⟨s1, s2⟩ := last_spec hi x.f1 l hr
    have hp := may_pos (hr.1 x hx)
    have hy2 := s1 y hy a b
    rcases s2 with s2 | ⟨z, hz, za, zb, zc⟩
    · omega
    · apply h1
      refine (old_iff _ _ _).2 ⟨z, ?_, za, zb, by omega⟩
      rw [e1, List.mem_filter]
      refine ⟨hz, ?_⟩
      simp only [Bool.not_eq_true', Bool.eq_false_iff, ne_eq]
      intro ho
      obtain ⟨u, hu, ua, ub, uc⟩ := (old_iff _ _ _).1 ho
      have := s1 u hu (by omega) (ub.trans zb)
      omega
  · intro h1
    refine ⟨fun h2 => h1 ?_, fun h2 => h1 ?_⟩
    · obtain ⟨y, hy, a, b, c⟩ := (old_iff _ _ _).1 h2
      exact (old_iff _ _ _).2 ⟨y, hsub y hy, a, b, c⟩
    · obtain ⟨y, hy, a, b, c⟩ := (old_iff _ _ _).1 h2
      exact (old_iff _ _ _).2 ⟨y, hy, by omega, b, c⟩
end Go.Proofs.Ytldccimehioakaa.Pl
