/- Trails, plain: what the document's own functions answer; the last Seq; what is told behind one more change. -/
import Derived.Test.YtldccimehioakaaTrails
namespace Go.Proofs.Ytldccimehioakaa.Pl
open Go Go.RowKit Go.Proofs.Ytldccimehioakaa.X Go.Proofs.YtldccimehioakaaW Go.Proofs.YtldccimehioakaaW.PrintWords Go.Proofs.YtldccimehioakaaW.PrintLast Go.Proofs.YtldccimehioakaaW.PrintMore
set_option linter.unusedVariables false
set_option linter.unusedSimpArgs false
theorem str_iff (a b : ByteArray) : a.toList = b.toList ↔ a = b := ⟨fun h => toList_inj h, fun h => by rw [h]⟩
theorem refIn_f (a b : ByteArray) (o : Bool) (k : ByteArray) : weirkeeperref03_In.f a b o k = some (inB a b o k) := by
  unfold weirkeeperref03_In.f inB
  rw [bl_lt, bl_lt]
  by_cases h : k.toList < a.toList <;> cases o <;> simp [h]
theorem rdr_at (l : List S35) (i : Nat) (h : i < l.length) : rd_T35 l (i : Int) = l[i] := by
  unfold rd_T35
  rw [Int.toNat_natCast, List.getD_eq_getElem?_getD, List.getElem?_eq_getElem h]
  rfl
theorem eta30 (x : S30) : (⟨x.f0, x.f1, x.f2, x.f3, x.f4, x.f5⟩ : S30) = x := rfl
theorem since_l1 (l : List S30) (s most : Int) (rs : List S35) (hrs : rs.length ≤ 1000) (out : List S30) (ho : out.length ≤ 1000) (i : Nat) (hi : i < l.length) (hl : l.length ≤ 1000) (K : Nat) (d : Nat) : ∀ (j : Nat) (b : Bool), rs.length = j + d →
    weirkeeperref16_Since.l1 (d + (K + 1)) l s most rs out (i : Int) b (j : Int) = if (b && (rs.drop j).all fun r => inB r.f0 r.f1 r.f2 l[i].f1) = true then weirkeeperref16_Since.l0 K l s most rs (out ++ [l[i]]) ((i + 1 : Nat) : Int) else weirkeeperref16_Since.l0 K l s most rs out ((i + 1 : Nat) : Int) := by
  induction d with
  | zero =>
    intro j b hj
    rw [Nat.zero_add, weirkeeperref16_Since.l1, if_neg (by omega), List.drop_eq_nil_of_le (by omega), wrap_succ i (by omega)]
    cases b
    · rw [if_neg (by simp), if_neg (by simp)]
    · rw [if_pos rfl, if_pos (by omega), if_pos (by omega), if_pos (by omega), rdc_at l i hi, eta30, if_pos (by simp)]
  | succ d ih =>
    intro j b hj
    have hjl : j < rs.length := by omega
    rw [show d + 1 + (K + 1) = (d + (K + 1)) + 1 by omega, weirkeeperref16_Since.l1, if_pos (by omega), if_pos (by omega), if_pos (by omega), if_pos (by omega), rdr_at rs j hjl, rdc_at l i hi, refIn_f, Option.bind_some, wrap_succ j (by omega), List.drop_eq_getElem_cons hjl, List.all_cons]
    cases b
    · rw [if_neg (by simp), ih (j + 1) _ (by omega)]
      simp
    · rw [if_pos rfl, ih (j + 1) _ (by omega)]
      simp
theorem refSince_l0 (l : List S30) (s most : Int) (rs : List S35) (hrs : rs.length ≤ 100) (hl : l.length ≤ 100) (d : Nat) : ∀ (K i : Nat) (out : List S30), l.length = i + d → d * 200 + 5 ≤ K → out.length ≤ i →
    weirkeeperref16_Since.l0 K l s most rs out (i : Int) = some (out ++ ((l.drop i).filter (above s rs)).take (most.toNat - out.length)) := by
  induction d with
  | zero =>
    intro K i out hi hK ho
    obtain ⟨q, rfl⟩ : ∃ q, K = q + 2 := ⟨K - 2, by omega⟩
    rw [weirkeeperref16_Since.l0, if_neg (by omega), weirkeeperref16_Since.j1, if_neg (by simp), List.drop_eq_nil_of_le (by omega)]
    simp
  | succ d ih =>
    intro K i out hi hK ho
    obtain ⟨q, rfl⟩ : ∃ q, K = (rs.length + (q + 1)) + 2 := ⟨K - rs.length - 3, by omega⟩
    have hil : i < l.length := by omega
    rw [weirkeeperref16_Since.l0, if_pos (by omega)]
    by_cases hm : (out.length : Int) < most
    · have h1 := since_l1 l s most rs (by omega) out (by omega) i hil (by omega) q rs.length 0 (decide (l[i].f0 > s)) (by omega)
      rw [show ((0 : Nat) : Int) = 0 from rfl, List.drop_zero] at h1
      have hab : (decide (l[i].f0 > s) && rs.all fun r => inB r.f0 r.f1 r.f2 l[i].f1) = above s rs l[i] := rfl
      rw [hab] at h1
      rw [decide_eq_true hm, weirkeeperref16_Since.j1, if_pos rfl, if_pos (by omega), if_pos (by omega), rdc_at l i hil, h1, List.drop_eq_getElem_cons hil, List.filter_cons]
      by_cases hq : above s rs l[i] = true
      · rw [if_pos hq, if_pos hq, ih q (i + 1) (out ++ [l[i]]) (by omega) (by omega) (by simp; omega)]
        obtain ⟨n, hn⟩ : ∃ n, most.toNat - out.length = n + 1 := ⟨most.toNat - out.length - 1, by omega⟩
        rw [hn, List.take_succ_cons, List.append_assoc, List.singleton_append, List.length_append, List.length_singleton]
        congr 4
        omega
      · rw [if_neg hq, if_neg hq, ih q (i + 1) out (by omega) (by omega) (by omega)]
    · rw [decide_eq_false hm, weirkeeperref16_Since.j1, if_neg (by simp), show most.toNat - out.length = 0 by omega]
      simp
theorem refSince_f (l : List S30) (hl : l.length ≤ 100) (s most : Int) (rs : List S35) (hrs : rs.length ≤ 100) (k : Nat) (hk : 21000 ≤ k) : weirkeeperref16_Since.f k l s most rs = some ((l.filter (above s rs)).take most.toNat) := by
  unfold weirkeeperref16_Since.f
  have := refSince_l0 l s most rs hrs hl l.length k 0 [] (by omega) (by omega) (by simp)
  simpa using this
theorem refDrop_f (l : List S30) (hl : l.length ≤ 100) (s : Int) (k : Nat) (hk : 21000 ≤ k) : weirkeeperref16_Drop.f k l s = some (l.filter (fun x => decide (s < x.f0))) := by
  unfold weirkeeperref16_Drop.f
  rw [refSince_f l hl s l.length [] (by simp) k hk, Option.bind_some, Int.toNat_natCast, List.take_of_length_le (List.length_filter_le _ _)]
  congr 1
  apply List.filter_congr
  intro x _
  simp [above]
/-- Of a trail, what is later stands behind. -/
theorem old_at (s : Int) {l : List S30} (hr : RightP l) (i : Nat) (hi : i < l.length) : ((l.drop (i + 1)).any fun y => decide (y.f1 = l[i].f1) && decide (y.f0 ≤ s)) = old s l l[i] := by
  rw [Bool.eq_iff_iff, old_iff, List.any_eq_true]
  have hp := List.pairwise_iff_getElem.1 hr.2
  constructor
  · rintro ⟨y, hy, h⟩
    simp only [Bool.and_eq_true, decide_eq_true_eq] at h
    obtain ⟨j, hj, rfl⟩ := List.getElem_of_mem hy
    simp only [List.length_drop] at hj
    rw [List.getElem_drop] at h
    exact ⟨_, List.getElem_mem _, h.2, h.1, hp i (i + 1 + j) hi (by omega) (by omega)⟩
  · rintro ⟨y, hy, h1, h2, h3⟩
    obtain ⟨j, hj, rfl⟩ := List.getElem_of_mem hy
    have hij : i < j := by
      rcases Nat.lt_trichotomy i j with h | h | h
      · exact h
      · subst h
        omega
      · have := hp j i hj hi h
        omega
    refine ⟨l[j], ?_, by simp [h1, h2]⟩
    rw [List.mem_drop_iff_getElem]
    exact ⟨j - (i + 1), by omega, by congr 1; omega⟩
theorem refNewest_l1 (l : List S30) (hl : l.length ≤ 1000) (s : Int) (out : List S30) (ho : out.length ≤ 1000) (i : Nat) (hi : i < l.length) (K : Nat) (d : Nat) : ∀ (j : Nat) (b : Bool), l.length = j + d →
    weirkeeperref16_Newest.l1 (d + (K + 1)) l s out (i : Int) b (j : Int) = if (b || (l.drop j).any fun y => decide (y.f1 = l[i].f1) && decide (y.f0 ≤ s)) = true then weirkeeperref16_Newest.l0 K l s out ((i + 1 : Nat) : Int) else weirkeeperref16_Newest.l0 K l s (out ++ [l[i]]) ((i + 1 : Nat) : Int) := by
  induction d with
  | zero =>
    intro j b hj
    rw [Nat.zero_add, weirkeeperref16_Newest.l1, if_neg (by omega), List.drop_eq_nil_of_le (by omega), wrap_succ i (by omega)]
    cases b
    · rw [if_neg (by simp), if_pos (by omega), if_pos (by omega), if_pos (by omega), rdc_at l i hi, eta30, if_neg (by simp)]
    · rw [if_pos rfl, if_pos (by simp)]
  | succ d ih =>
    intro j b hj
    have hjl : j < l.length := by omega
    rw [show d + 1 + (K + 1) = (d + (K + 1)) + 1 by omega, weirkeeperref16_Newest.l1, if_pos (by omega), if_pos (by omega), if_pos (by omega), if_pos (by omega), rdc_at l j hjl, rdc_at l i hi, wrap_succ j (by omega), List.drop_eq_getElem_cons hjl, List.any_cons]
    by_cases h1 : l[j].f1 = l[i].f1
    · rw [if_pos ((str_iff _ _).2 h1)]
      by_cases h2 : l[j].f0 ≤ s
      · rw [if_pos h2, ih (j + 1) _ (by omega)]
        simp [h1, h2]
      · rw [if_neg h2, ih (j + 1) _ (by omega)]
        simp [h2]
    · rw [if_neg (fun h => h1 ((str_iff _ _).1 h)), ih (j + 1) _ (by omega)]
      simp [h1]
theorem refNewest_l0 (l : List S30) (hl : l.length ≤ 100) (hr : RightP l) (s : Int) (d : Nat) : ∀ (K i : Nat) (out : List S30), l.length = i + d → d * 200 + 5 ≤ K → out.length ≤ i →
    weirkeeperref16_Newest.l0 K l s out (i : Int) = some (out ++ (l.drop i).filter (fun x => !old s l x)) := by
  induction d with
  | zero =>
    intro K i out hi hK ho
    obtain ⟨q, rfl⟩ : ∃ q, K = q + 1 := ⟨K - 1, by omega⟩
    rw [weirkeeperref16_Newest.l0, if_neg (by omega), List.drop_eq_nil_of_le (by omega)]
    simp
  | succ d ih =>
    intro K i out hi hK ho
    obtain ⟨q, rfl⟩ : ∃ q, K = (d + (q + 1)) + 1 := ⟨K - d - 2, by omega⟩
    have hil : i < l.length := by omega
    have h1 := refNewest_l1 l (by omega) s out (by omega) i hil q d (i + 1) false (by omega)
    rw [Bool.false_or, old_at s hr i hil] at h1
    rw [weirkeeperref16_Newest.l0, if_pos (by omega), wrap_succ i (by omega), h1, List.drop_eq_getElem_cons hil, List.filter_cons]
    by_cases hq : old s l l[i] = true
    · rw [if_pos hq, if_neg (by simp [hq]), ih q (i + 1) out (by omega) (by omega) (by omega)]
    · rw [if_neg hq, if_pos (by simp [hq]), ih q (i + 1) (out ++ [l[i]]) (by omega) (by omega) (by simp; omega), List.append_assoc, List.singleton_append]
theorem refNewest_f (l : List S30) (hl : l.length ≤ 100) (hr : RightP l) (s : Int) (k : Nat) (hk : 21000 ≤ k) : weirkeeperref16_Newest.f k l s = some (l.filter (fun x => !old s l x)) := by
  unfold weirkeeperref16_Newest.f
  have := refNewest_l0 l hl hr s l.length k 0 [] (by omega) (by omega) (by simp)
  simpa using this
/-! ### The last Seq -/
theorem last_snoc {l : List S30} {c : S30} (h : RightP (l ++ [c])) : lastB (l ++ [c]) = c.f0 := by
  unfold lastB
  rw [if_pos h]
  simp
theorem last_nil : lastB [] = 0 := by
  unfold lastB
  simp
theorem le_last {l : List S30} (hr : RightP l) : ∀ y ∈ l, y.f0 ≤ lastB l := by
  induction l using snoc_ind with
  | nil => simp
  | snoc l c ih =>
    intro y hy
    rw [last_snoc hr]
    rcases List.mem_append.1 hy with hy | hy
    · exact Int.le_of_lt ((List.pairwise_append.1 hr.2).2.2 y hy c (by simp))
    · rw [List.mem_singleton.1 hy]
      exact Int.le_refl _
theorem right_snoc {l : List S30} (hr : RightP l) (c : S30) : RightP (l ++ [c]) ↔ mayB c = true ∧ lastB l < c.f0 := by
  constructor
  · intro h
    refine ⟨h.1 c (by simp), ?_⟩
    have hlt := (List.pairwise_append.1 h.2).2.2
    induction l using snoc_ind with
    | nil =>
      rw [last_nil]
      have := may_pos (h.1 c (by simp))
      omega
    | snoc l x _ =>
      rw [last_snoc hr]
      exact hlt x (by simp) c (by simp)
  · rintro ⟨h1, h2⟩
    refine ⟨fun x hx => ?_, ?_⟩
    · rcases List.mem_append.1 hx with hx | hx
      · exact hr.1 x hx
      · rw [List.mem_singleton.1 hx]
        exact h1
    · rw [List.pairwise_append]
      refine ⟨hr.2, by simp, fun a ha b hb => ?_⟩
      rw [List.mem_singleton.1 hb]
      have := le_last hr a ha
      omega
theorem right_one (c : S30) : RightP [c] ↔ mayB c = true := by
  constructor
  · intro h
    exact h.1 c (by simp)
  · intro h
    exact ⟨by simpa using h, by simp⟩
theorem last_newest {l : List S30} (hr : RightP l) (s : Int) : lastB (newestB l s) = lastB l := by
  have hn := newest_right l s
  unfold newestB at hn ⊢
  rw [if_pos hr] at hn ⊢
  induction l using snoc_ind with
  | nil => rfl
  | snoc l c _ =>
    have ho : old s (l ++ [c]) c = false := by
      rw [Bool.eq_false_iff]
      intro h
      obtain ⟨y, hy, _, _, h3⟩ := (old_iff _ _ _).1 h
      have := le_last hr y hy
      rw [last_snoc hr] at this
      omega
    rw [List.filter_append] at hn ⊢
    have h1 : [c].filter (fun x => !old s (l ++ [c]) x) = [c] := by simp [ho]
    rw [h1] at hn ⊢
    rw [last_snoc hn, last_snoc hr]
/-- Newest twice, by rising Seqs, is Newest by the last one. -/
theorem newest_twice {l : List S30} (hr : RightP l) {lo hi : Int} (h : lo ≤ hi) : newestB (newestB l lo) hi = newestB l hi := by
  have hn := newest_right l lo
  have e1 : newestB l lo = l.filter (fun x => !old lo l x) := by unfold newestB; rw [if_pos hr]
  have e2 : newestB l hi = l.filter (fun x => !old hi l x) := by unfold newestB; rw [if_pos hr]
  have e0 : ∀ m : List S30, RightP m → newestB m hi = m.filter (fun x => !old hi m x) := by
    intro m hm
    unfold newestB
    rw [if_pos hm]
  have e3 := e0 _ hn
  rw [e3, e2, e1, List.filter_filter]
  apply List.filter_congr
  intro x hx
  rw [← e1]
  have hsub : ∀ y ∈ newestB l lo, y ∈ l := by
    rw [e1]
    intro y hy
    exact (List.mem_filter.1 hy).1
  rw [Bool.eq_iff_iff]
  simp only [Bool.and_eq_true, Bool.not_eq_true', Bool.eq_false_iff, ne_eq]
  constructor
  · rintro ⟨h1, h2⟩ h3
    obtain ⟨y, hy, a, b, c⟩ := (old_iff _ _ _).1 h3
    obtain ⟨s1, s2⟩ := last_spec hi x.f1 l hr
    have hp := may_pos (hr.1 x hx)
    have hy2 := s1 y hy a b
    rcases s2 with s2 | ⟨z, hz, za, zb, zc⟩
    · omega
    · apply h1
      refine (old_iff _ _ _).2 ⟨z, ?_, za, zb, by omega⟩
      rw [e1, List.mem_filter]
      refine ⟨hz, ?_⟩
      simp only [Bool.not_eq_true', Bool.eq_false_iff, ne_eq]
      intro ho
      obtain ⟨u, hu, ua, ub, uc⟩ := (old_iff _ _ _).1 ho
      have := s1 u hu (by omega) (ub.trans zb)
      omega
  · intro h1
    refine ⟨fun h2 => h1 ?_, fun h2 => h1 ?_⟩
    · obtain ⟨y, hy, a, b, c⟩ := (old_iff _ _ _).1 h2
      exact (old_iff _ _ _).2 ⟨y, hsub y hy, a, b, c⟩
    · obtain ⟨y, hy, a, b, c⟩ := (old_iff _ _ _).1 h2
      exact (old_iff _ _ _).2 ⟨y, hy, by omega, b, c⟩
end Go.Proofs.Ytldccimehioakaa.Pl
