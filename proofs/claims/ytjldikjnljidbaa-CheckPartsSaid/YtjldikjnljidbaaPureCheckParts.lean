/- CheckParts, plain: the sum of parts is the sum of all of them, one behind the other. -/
import Derived.Test.YtjldikjnljidbaaStateCheckParts
import Derived.Test.YtjldikjnljidbaaCheck
namespace Go.Proofs.Ytjldikjnljidbaa.Pure
open Go Go.RowKit Go.Proofs.Ytjldikjnljidbaa.X Go.Proofs.Ytjldikjnljidbaa.Pl Go.Proofs.YtjldikjnljidbaaW Go.Proofs.YtjldikjnljidbaaW.PrintWords Go.Proofs.YtjldikjnljidbaaW.PrintLast Go.Proofs.YtjldikjnljidbaaW.PrintMore

theorem parts_loop (l : List ByteArray) (hl : l.length ≤ 30) (d : Nat) : ∀ (k i : Nat) (all : ByteArray) (b : BitVec 24), l.length = i + d → d + 50 < k → all.size ≤ i * 300 → (∀ s ∈ l.take i, s.size ≤ 300) → b = crc first all → b = sums first (l.take i) →
    weirkeeperlaw02_CheckParts.l0 k l all (num b) l (l.length : Int) (i : Int) = some true := by
  induction d with
  | zero =>
    intro k i all b hi hk ha hs hb hb2
    obtain ⟨k, rfl⟩ : ∃ m, k = m + 1 := ⟨k - 1, by omega⟩
    rw [List.take_of_length_le (by omega)] at hb2 hs
    simp only [weirkeeperlaw02_CheckParts.l0]
    have := num_range (crc first all)
    rw [if_neg (by omega), Sum_f l (by omega) (fun s h => by have := hs s h; omega) k (by omega), Sum_one all (by omega) k (by omega), ← hb2, hb]
    simp only [Option.bind_some, if_true]
    rw [if_pos (by omega)]
    rfl
  | succ d ih =>
    intro k i all b hi hk ha hs hb hb2
    obtain ⟨k, rfl⟩ : ∃ m, k = m + 1 := ⟨k - 1, by omega⟩
    have hlt : i < l.length := by omega
    simp only [weirkeeperlaw02_CheckParts.l0]
    rw [if_pos (by omega), if_pos (by omega), if_pos (by omega), rd_at l i hlt, CrcInt.wrap_succ i (by omega)]
    split
    · rfl
    · rw [if_pos (by omega), More_num b _ (by omega)]
      refine ih k (i + 1) _ _ (by omega) (by omega) ?_ ?_ ?_ ?_
      · rw [ByteArray.size_append]
        omega
      · intro s h
        rw [List.take_succ_eq_append_getElem hlt] at h
        rcases List.mem_append.1 h with h | h
        · exact hs s h
        · simp at h
          rw [h]
          omega
      · rw [crc_append, hb]
      · rw [List.take_succ_eq_append_getElem hlt, hb2]
        unfold sums
        rw [List.foldl_append]
        rfl
theorem CheckParts : weirkeeperlaw02_CheckParts.Pure := by
  intro l hl
  refine ⟨1000, ?_⟩
  unfold weirkeeperlaw02_CheckParts.f
  split
  · rfl
  · rw [Sum_f [] (by simp) (by simp) _ (by simp)]
    exact parts_loop l (by omega) l.length 1000 0 ⟨#[]⟩ first (by omega) (by omega) (by simp [ByteArray.size]) (by simp) (by simp [crc, CrcInt.toList_data, Crc.bytes]) rfl
end Go.Proofs.Ytjldikjnljidbaa.Pure
