/- Trails, plain: what the document's own functions answer. -/
import Derived.Test.YtldccimehioakaaTrailMore
import Derived.Test.YtldccimehioakaaXx17
import Derived.Test.YtldccimehioakaaXx20
import Derived.Test.YtldccimehioakaaXx21
import Derived.Test.YtldccimehioakaaXx22
namespace Go.Proofs.Ytldccimehioakaa.Pl
open Go Go.RowKit Go.Proofs.Ytldccimehioakaa.X Go.Proofs.YtldccimehioakaaW Go.Proofs.YtldccimehioakaaW.PrintWords Go.Proofs.YtldccimehioakaaW.PrintLast Go.Proofs.YtldccimehioakaaW.PrintMore
set_option linter.unusedVariables false
set_option linter.unusedSimpArgs false
theorem refMay_f (x : S30) (k : Nat) (hk : 1 ≤ k) : weirkeeperref13_May.f k x.f0 x.f1 x.f2 x.f3 x.f4 x.f5 = some (mayB x) := by
  obtain ⟨k, rfl⟩ : ∃ q, k = q + 1 := ⟨k - 1, by omega⟩
  obtain ⟨a, b, c, d, e, f⟩ := x
  unfold weirkeeperref13_May.f mayB
  simp only [weirkeeperref13_May.j0]
  by_cases h4 : a < 1
  · rw [if_pos h4]
    simp [show ¬ 1 ≤ a by omega]
  · rw [if_neg h4]
    by_cases h5 : a > 2147483647
    · rw [if_pos h5]
      simp [show ¬ a ≤ 2147483647 by omega]
    · rw [if_neg h5]
      by_cases h1 : (b.size : Int) > 16
      · rw [if_pos h1]
        simp [show ¬ b.size ≤ 16 by omega]
      · rw [if_neg h1]
        by_cases h2 : (d.size : Int) > 32
        · rw [if_pos h2]
          simp [show ¬ d.size ≤ 32 by omega]
        · rw [if_neg h2]
          by_cases h3 : (f.size : Int) > 32
          · rw [decide_eq_true h3]
            simp [show ¬ f.size ≤ 32 by omega]
          · rw [decide_eq_false h3]
            have g1 : b.size ≤ 16 := by omega
            have g2 : d.size ≤ 32 := by omega
            have g3 : f.size ≤ 32 := by omega
            have g4 : 1 ≤ a := by omega
            have g5 : a ≤ 2147483647 := by omega
            cases c <;> cases e <;> by_cases h6 : d.toList = [] <;> by_cases h7 : f.toList = [] <;> simp [g1, g2, g3, g4, g5, h6, h7]
open Classical in
theorem refRight_l0 (l : List S30) (hl : l.length ≤ 1000000) (d : Nat) : ∀ (k i : Nat), l.length = i + d → d + 2 ≤ k → weirkeeperref16_Right.l0 k l (i : Int) = some (decide (∀ j h, i ≤ j → Step l j h)) := by
  induction d with
  | zero =>
    intro k i hi hk
    obtain ⟨k, rfl⟩ : ∃ q, k = q + 1 := ⟨k - 1, by omega⟩
    rw [weirkeeperref16_Right.l0, if_neg (by omega), decide_eq_true (fun j h hij => by omega)]
  | succ d ih =>
    intro k i hi hk
    obtain ⟨k, rfl⟩ : ∃ q, k = q + 1 := ⟨k - 1, by omega⟩
    have hil : i < l.length := by omega
    have hnext := ih k (i + 1) (by omega) (by omega)
    rw [weirkeeperref16_Right.l0, if_pos (by omega), if_pos (by omega), rdc_at l i hil, refMay_f l[i] k (by omega), Option.bind_some, wrap_succ i (by omega)]
    by_cases hm : mayB l[i] = true
    · rw [if_pos hm]
      have hstep : ∀ (hs : Step l i hil), (∀ j h, i ≤ j → Step l j h) ↔ (∀ j h, i + 1 ≤ j → Step l j h) := fun hs => ⟨fun h j hj hij => h j hj (by omega), fun h j hj hij => by
        rcases Nat.lt_or_ge i j with h2 | h2
        · exact h j hj (by omega)
        · obtain rfl : i = j := by omega
          exact hs⟩
      by_cases h0 : 0 < i
      · obtain ⟨p, rfl⟩ : ∃ p, i = p + 1 := ⟨i - 1, by omega⟩
        rw [if_pos (by omega), wrap_pred p (by omega), if_pos (by omega), if_pos (by omega), rdc_at l p (by omega)]
        by_cases hlt : l[p].f0 ≥ l[p + 1].f0
        · rw [if_pos hlt, decide_eq_false]
          intro h
          have := (h (p + 1) hil (Nat.le_refl _)).2 (by omega)
          simp only [Nat.add_sub_cancel] at this
          omega
        · rw [if_neg hlt, hnext]
          congr 1
          rw [decide_eq_decide, hstep ⟨hm, fun _ => by simp only [Nat.add_sub_cancel]; omega⟩]
      · obtain rfl : i = 0 := by omega
        rw [if_neg (by omega), hnext]
        congr 1
        rw [decide_eq_decide, hstep ⟨hm, fun h => absurd h h0⟩]
    · rw [if_neg hm, decide_eq_false]
      intro h
      exact hm (h i hil (Nat.le_refl _)).1
theorem refRight_f (l : List S30) (hl : l.length ≤ 1000000) (k : Nat) (hk : l.length + 2 ≤ k) : weirkeeperref16_Right.f k l = some (decide (RightP l)) := by
  classical
  unfold weirkeeperref16_Right.f
  rw [show (0 : Int) = ((0 : Nat) : Int) from rfl, refRight_l0 l hl l.length k 0 (by omega) hk]
  congr 1
  rw [decide_eq_decide, ← right_iff]
  exact ⟨fun h j hj => h j hj (by omega), fun h j hj _ => h j hj⟩
theorem refIn_f (a b : ByteArray) (o : Bool) (k : ByteArray) : weirkeeperref03_In.f a b o k = some (inB a b o k) := by
  unfold weirkeeperref03_In.f inB
  rw [bl_lt, bl_lt]
  by_cases h : k.toList < a.toList <;> cases o <;> simp [h]
theorem rdr_at (l : List S35) (i : Nat) (h : i < l.length) : rd_T35 l (i : Int) = l[i] := by
  unfold rd_T35
  rw [Int.toNat_natCast, List.getD_eq_getElem?_getD, List.getElem?_eq_getElem h]
  rfl
theorem since_l1 (l : List S30) (s most : Int) (rs : List S35) (hrs : rs.length ≤ 1000) (out : List S30) (ho : out.length ≤ 1000) (i : Nat) (hi : i < l.length) (hl : l.length ≤ 1000) (K : Nat) (d : Nat) : ∀ (j : Nat) (b : Bool), rs.length = j + d →
    weirkeeperref16_Since.l1 (d + (K + 1)) l s most rs out (i : Int) b (j : Int) = if (b && (rs.drop j).all fun r => inB r.f0 r.f1 r.f2 l[i].f1) = true then weirkeeperref16_Since.l0 K l s most rs (out ++ [l[i]]) ((i + 1 : Nat) : Int) else weirkeeperref16_Since.l0 K l s most rs out ((i + 1 : Nat) : Int) := by
  induction d with
  | zero =>
    intro j b hj
    rw [Nat.zero_add, weirkeeperref16_Since.l1, if_neg (by omega), List.drop_eq_nil_of_le (by omega), wrap_succ i (by omega)]
    cases b
    · rw [if_neg (by simp), if_neg (by simp)]
    · rw [if_pos rfl, if_pos (by omega), if_pos (by omega), if_pos (by omega), rdc_at l i hi, eta30, if_pos (by simp)]
  | succ d ih =>
    intro j b hj
    have hjl : j < rs.length := by omega
    rw [show d + 1 + (K + 1) = (d + (K + 1)) + 1 by omega, weirkeeperref16_Since.l1, if_pos (by omega), if_pos (by omega), if_pos (by omega), if_pos (by omega), rdr_at rs j hjl, rdc_at l i hi, refIn_f, Option.bind_some, wrap_succ j (by omega), List.drop_eq_getElem_cons hjl, List.all_cons]
    cases b
    · rw [if_neg (by simp), ih (j + 1) _ (by omega)]
      simp
    · rw [if_pos rfl, ih (j + 1) _ (by omega)]
      simp
theorem refSince_l0 (l : List S30) (s most : Int) (rs : List S35) (hrs : rs.length ≤ 100) (hl : l.length ≤ 100) (d : Nat) : ∀ (K i : Nat) (out : List S30), l.length = i + d → d * 200 + 5 ≤ K → out.length ≤ i →
    weirkeeperref16_Since.l0 K l s most rs out (i : Int) = some (out ++ ((l.drop i).filter (above s rs)).take (most.toNat - out.length)) := by
  induction d with
  | zero =>
    intro K i out hi hK ho
    obtain ⟨q, rfl⟩ : ∃ q, K = q + 2 := ⟨K - 2, by omega⟩
    rw [weirkeeperref16_Since.l0, if_neg (by omega), weirkeeperref16_Since.j1, if_neg (by simp), List.drop_eq_nil_of_le (by omega)]
    simp
  | succ d ih =>
    intro K i out hi hK ho
    obtain ⟨q, rfl⟩ : ∃ q, K = (rs.length + (q + 1)) + 2 := ⟨K - rs.length - 3, by omega⟩
    have hil : i < l.length := by omega
    rw [weirkeeperref16_Since.l0, if_pos (by omega)]
    by_cases hm : (out.length : Int) < most
    · have h1 := since_l1 l s most rs (by omega) out (by omega) i hil (by omega) q rs.length 0 (decide (l[i].f0 > s)) (by omega)
      rw [show ((0 : Nat) : Int) = 0 from rfl, List.drop_zero] at h1
      have hab : (decide (l[i].f0 > s) && rs.all fun r => inB r.f0 r.f1 r.f2 l[i].f1) = above s rs l[i] := rfl
      rw [hab] at h1
      rw [decide_eq_true hm, weirkeeperref16_Since.j1, if_pos rfl, if_pos (by omega), if_pos (by omega), rdc_at l i hil, h1, List.drop_eq_getElem_cons hil, List.filter_cons]
      by_cases hq : above s rs l[i] = true
      · rw [if_pos hq, if_pos hq, ih q (i + 1) (out ++ [l[i]]) (by omega) (by omega) (by simp; omega)]
        obtain ⟨n, hn⟩ : ∃ n, most.toNat - out.length = n + 1 := ⟨most.toNat - out.length - 1, by omega⟩
        rw [hn, List.take_succ_cons, List.append_assoc, List.singleton_append, List.length_append, List.length_singleton]
        congr 4
        omega
      · rw [if_neg hq, if_neg hq, ih q (i + 1) out (by omega) (by omega) (by omega)]
    · rw [decide_eq_false hm, weirkeeperref16_Since.j1, if_neg (by simp), show most.toNat - out.length = 0 by omega]
      simp
theorem refSince_f (l : List S30) (hl : l.length ≤ 100) (s most : Int) (rs : List S35) (hrs : rs.length ≤ 100) (k : Nat) (hk : 21000 ≤ k) : weirkeeperref16_Since.f k l s most rs = some ((l.filter (above s rs)).take most.toNat) := by
  unfold weirkeeperref16_Since.f
  have := refSince_l0 l s most rs hrs hl l.length k 0 [] (by omega) (by omega) (by simp)
  simpa using this
theorem refDrop_f (l : List S30) (hl : l.length ≤ 100) (s : Int) (k : Nat) (hk : 21000 ≤ k) : weirkeeperref16_Drop.f k l s = some (l.filter (fun x => decide (s < x.f0))) := by
  unfold weirkeeperref16_Drop.f
  rw [refSince_f l hl s l.length [] (by simp) k hk, Option.bind_some, Int.toNat_natCast, List.take_of_length_le (List.length_filter_le _ _)]
  congr 1
  apply List.filter_congr
  intro x _
  simp [above]
theorem refNewest_l1 (l : List S30) (hl : l.length ≤ 1000) (s : Int) (out : List S30) (ho : out.length ≤ 1000) (i : Nat) (hi : i < l.length) (K : Nat) (d : Nat) : ∀ (j : Nat) (b : Bool), l.length = j + d →
    weirkeeperref16_Newest.l1 (d + (K + 1)) l s out (i : Int) b (j : Int) = if (b || (l.drop j).any fun y => decide (y.f1 = l[i].f1) && decide (y.f0 ≤ s)) = true then weirkeeperref16_Newest.l0 K l s out ((i + 1 : Nat) : Int) else weirkeeperref16_Newest.l0 K l s (out ++ [l[i]]) ((i + 1 : Nat) : Int) := by
  induction d with
  | zero =>
    intro j b hj
    rw [Nat.zero_add, weirkeeperref16_Newest.l1, if_neg (by omega), List.drop_eq_nil_of_le (by omega), wrap_succ i (by omega)]
    cases b
    · rw [if_neg (by simp), if_pos (by omega), if_pos (by omega), if_pos (by omega), rdc_at l i hi, eta30, if_neg (by simp)]
    · rw [if_pos rfl, if_pos (by simp)]
  | succ d ih =>
    intro j b hj
    have hjl : j < l.length := by omega
    rw [show d + 1 + (K + 1) = (d + (K + 1)) + 1 by omega, weirkeeperref16_Newest.l1, if_pos (by omega), if_pos (by omega), if_pos (by omega), if_pos (by omega), rdc_at l j hjl, rdc_at l i hi, wrap_succ j (by omega), List.drop_eq_getElem_cons hjl, List.any_cons]
    by_cases h1 : l[j].f1 = l[i].f1
    · rw [if_pos ((str_iff _ _).2 h1)]
      by_cases h2 : l[j].f0 ≤ s
      · rw [if_pos h2, ih (j + 1) _ (by omega)]
        simp [h1, h2]
      · rw [if_neg h2, ih (j + 1) _ (by omega)]
        simp [h2]
    · rw [if_neg (fun h => h1 ((str_iff _ _).1 h)), ih (j + 1) _ (by omega)]
      simp [h1]
theorem refNewest_l0 (l : List S30) (hl : l.length ≤ 100) (hr : RightP l) (s : Int) (d : Nat) : ∀ (K i : Nat) (out : List S30), l.length = i + d → d * 200 + 5 ≤ K → out.length ≤ i →
    weirkeeperref16_Newest.l0 K l s out (i : Int) = some (out ++ (l.drop i).filter (fun x => !old s l x)) := by
  induction d with
  | zero =>
    intro K i out hi hK ho
    obtain ⟨q, rfl⟩ : ∃ q, K = q + 1 := ⟨K - 1, by omega⟩
    rw [weirkeeperref16_Newest.l0, if_neg (by omega), List.drop_eq_nil_of_le (by omega)]
    simp
  | succ d ih =>
    intro K i out hi hK ho
    obtain ⟨q, rfl⟩ : ∃ q, K = (d + (q + 1)) + 1 := ⟨K - d - 2, by omega⟩
    have hil : i < l.length := by omega
    have h1 := refNewest_l1 l (by omega) s out (by omega) i hil q d (i + 1) false (by omega)
    rw [Bool.false_or, old_at s hr i hil] at h1
    rw [weirkeeperref16_Newest.l0, if_pos (by omega), wrap_succ i (by omega), h1, List.drop_eq_getElem_cons hil, List.filter_cons]
    by_cases hq : old s l l[i] = true
    · rw [if_pos hq, if_neg (by simp [hq]), ih q (i + 1) out (by omega) (by omega) (by omega)]
    · rw [if_neg hq, if_pos (by simp [hq]), ih q (i + 1) (out ++ [l[i]]) (by omega) (by omega) (by simp; omega), List.append_assoc, List.singleton_append]
theorem refNewest_f (l : List S30) (hl : l.length ≤ 100) (hr : RightP l) (s : Int) (k : Nat) (hk : 21000 ≤ k) : weirkeeperref16_Newest.f k l s = some (l.filter (fun x => !old s l x)) := by
  unfold weirkeeperref16_Newest.f
  have := refNewest_l0 l hl hr s l.length k 0 [] (by omega) (by omega) (by simp)
  simpa using this
end Go.Proofs.Ytldccimehioakaa.Pl
