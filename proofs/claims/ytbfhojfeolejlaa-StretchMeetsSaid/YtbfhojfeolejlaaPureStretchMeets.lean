/- StretchMeets, plain: the loop over the ranges, and what they have in common. -/
import Derived.Test.YtbfhojfeolejlaaStateStretchMeets
import Derived.Test.YtbfhojfeolejlaaStretch
namespace Go.Proofs.Ytbfhojfeolejlaa.Pure
open Go Go.RowKit Go.Proofs.Ytbfhojfeolejlaa.X Go.Proofs.Ytbfhojfeolejlaa.Pl Go.Proofs.YtbfhojfeolejlaaW Go.Proofs.YtbfhojfeolejlaaW.PrintWords Go.Proofs.YtbfhojfeolejlaaW.PrintLast Go.Proofs.YtbfhojfeolejlaaW.PrintMore

theorem gtB (x y : ByteArray) : (!Op.bytesLess x.toList y.toList && !(x.toList == y.toList)) = decide (y.toList < x.toList) := by
  rw [bl_lt, Bool.eq_iff_iff]
  simp
  grind
theorem mxs_hi {x y : ByteArray} (h : x.toList < y.toList) : mxs x y = y := mxs_eq (by rw [if_pos h])
theorem mxs_lo {x y : ByteArray} (h : ¬ x.toList < y.toList) : mxs x y = x := mxs_eq (by rw [if_neg h])
theorem mns_lo {x y : ByteArray} (h : y.toList < x.toList) : mns x y = y := toList_inj (by rw [mns_toList, if_pos h])
theorem mns_hi {x y : ByteArray} (h : ¬ y.toList < x.toList) : mns x y = x := toList_inj (by rw [mns_toList, if_neg h])
theorem refMeet_l0 (l : List S25) (hl : l.length ≤ 1000000) (d : Nat) : ∀ (k i : Nat) (o : ByteArray × ByteArray × Bool), l.length = i + d → d < k → weirkeeperref03_Meet.l0 k l (i : Int) o.1 o.2.1 o.2.2 = some ((l.drop i).foldl stepM o) := by
  induction d with
  | zero =>
    intro k i o hi hk
    obtain ⟨k, rfl⟩ : ∃ m, k = m + 1 := ⟨k - 1, by omega⟩
    simp only [weirkeeperref03_Meet.l0]
    rw [if_neg (by omega), List.drop_eq_nil_of_le (by omega)]
    rfl
  | succ d ih =>
    intro k i o hi hk
    obtain ⟨k, rfl⟩ : ∃ m, k = m + 1 := ⟨k - 1, by omega⟩
    have hlt : i < l.length := by omega
    simp only [weirkeeperref03_Meet.l0]
    rw [if_pos (by omega), if_pos (by omega), rd_at l i hlt, wrap_succ i (by omega), drop_at l i hlt, List.foldl_cons, gtB, bl_lt]
    obtain ⟨a, b, c⟩ := o
    have ih2 := fun x y z => ih k (i + 1) (x, y, z) (by omega) (by omega)
    simp only at ih2 ⊢
    generalize l[i] = r at *
    obtain ⟨x, y, z⟩ := r
    by_cases h1 : a.toList < x.toList
    · rw [if_pos (by simpa using h1)]
      cases z
      · rw [if_neg (by simp)]
        cases c
        · rw [if_neg (by simp)]
          by_cases h2 : y.toList < b.toList
          · rw [if_pos (by simpa using h2), ih2]
            simp [stepM, mxs_hi h1, mns_lo h2]
          · rw [if_neg (by simpa using h2), ih2]
            simp [stepM, mxs_hi h1, mns_hi h2]
        · rw [if_pos rfl, ih2]
          simp [stepM, mxs_hi h1]
      · rw [if_pos rfl, ih2]
        simp [stepM, mxs_hi h1]
    · rw [if_neg (by simpa using h1)]
      cases z
      · rw [if_neg (by simp)]
        cases c
        · rw [if_neg (by simp)]
          by_cases h2 : y.toList < b.toList
          · rw [if_pos (by simpa using h2), ih2]
            simp [stepM, mxs_lo h1, mns_lo h2]
          · rw [if_neg (by simpa using h2), ih2]
            simp [stepM, mxs_lo h1, mns_hi h2]
        · rw [if_pos rfl, ih2]
          simp [stepM, mxs_lo h1]
      · rw [if_pos rfl, ih2]
        simp [stepM, mxs_lo h1]
theorem refMeet_f (l : List S25) (hl : l.length ≤ 1000000) (k : Nat) (hk : l.length < k) : weirkeeperref03_Meet.f k l = some (meetB l) := refMeet_l0 l hl l.length k 0 zM (by omega) hk
theorem meets_loop (l : List S25) (key : ByteArray) (hl : l.length ≤ 1000) (d : Nat) : ∀ (k i : Nat) (x : Bool), l.length = i + d → d + l.length + 10 < k → x = ((l.take i).all fun r => inB r.f0 r.f1 r.f2 key) → weirkeeperlaw03_StretchMeets.l0 k l key x l (l.length : Int) (i : Int) = some true := by
  induction d with
  | zero =>
    intro k i x hi hk hx
    obtain ⟨k, rfl⟩ : ∃ m, k = m + 1 := ⟨k - 1, by omega⟩
    simp only [weirkeeperlaw03_StretchMeets.l0]
    rw [if_neg (by omega), Meet_f l (by omega) k (by omega), refMeet_f l (by omega) k (by omega)]
    simp only [Option.bind_some, In_f, beq_self_eq_true, Bool.and_self, if_true]
    rw [in_meet, hx, List.take_of_length_le (by omega)]
    simp only [beq_self_eq_true, if_true]
    rw [awake_f k (by omega)]
    rfl
  | succ d ih =>
    intro k i x hi hk hx
    obtain ⟨k, rfl⟩ : ∃ m, k = m + 1 := ⟨k - 1, by omega⟩
    have hlt : i < l.length := by omega
    have ht : (l.take (i + 1)).all (fun r => inB r.f0 r.f1 r.f2 key) = (x && inB l[i].f0 l[i].f1 l[i].f2 key) := by
      rw [List.take_succ_eq_append_getElem hlt, List.all_append, ← hx]
      simp
    simp only [weirkeeperlaw03_StretchMeets.l0]
    rw [if_pos (by omega), if_pos (by omega), if_pos (by omega), rd_at l i hlt, wrap_succ i (by omega), awake_f k (by omega)]
    unfold weirkeeperlaw03_small.f
    simp only [refIn_f, Option.bind_some]
    split
    · simp only [Option.bind_some]
      split
      · split
        · rename_i hx1
          exact ih k (i + 1) _ (by omega) (by omega) (by rw [ht, hx1, Bool.true_and])
        · rename_i hx1
          exact ih k (i + 1) _ (by omega) (by omega) (by rw [ht]; simp [hx1])
      · rfl
    · rfl
theorem StretchMeets : weirkeeperlaw03_StretchMeets.Pure := by
  intro l key hl hkey
  refine ⟨2000, ?_⟩
  unfold weirkeeperlaw03_StretchMeets.f
  have hj : ∀ x, l.length ≤ 20 ∨ x = true → weirkeeperlaw03_StretchMeets.j0 2000 l key x = some true := by
    intro x hx
    simp only [weirkeeperlaw03_StretchMeets.j0]
    split
    · rw [awake_f _ (by omega)]; rfl
    · rename_i hx1
      rcases hx with hx | hx
      · exact meets_loop l key (by omega) l.length _ 0 true (by omega) (by omega) (by simp)
      · exact absurd hx hx1
  split
  · exact hj _ (.inr rfl)
  · exact hj _ (.inl (by omega))
end Go.Proofs.Ytbfhojfeolejlaa.Pure
