/- CheckMore, plain: a text behind another one is both at once. -/
import Derived.Test.YtjldikjnljidbaaStateCheckMore
import Derived.Test.YtjldikjnljidbaaCheck
namespace Go.Proofs.Ytjldikjnljidbaa.Pure
open Go Go.RowKit Go.Proofs.Ytjldikjnljidbaa.X Go.Proofs.Ytjldikjnljidbaa.Pl Go.Proofs.YtjldikjnljidbaaW Go.Proofs.YtjldikjnljidbaaW.PrintWords Go.Proofs.YtjldikjnljidbaaW.PrintLast Go.Proofs.YtjldikjnljidbaaW.PrintMore

theorem more_j0 (n : Int) (s t : ByteArray) (h0 : 0 ≤ n) (h1 : n < 4294967296) (x : Bool) (h : x = false → s.size ≤ 300 ∧ t.size ≤ 300) (k : Nat) : weirkeeperlaw02_CheckMore.j0 (k + 1) n s t x = some true := by
  simp only [weirkeeperlaw02_CheckMore.j0]
  split
  · rfl
  · rename_i hx
    obtain ⟨hs, ht⟩ := h (by simpa using hx)
    have hr := num_range (crc (low n) s)
    have hst : (s ++ t).size ≤ 140737488351232 := by rw [ByteArray.size_append]; omega
    have hs2 : s.size ≤ 140737488351232 := by omega
    have ht2 : t.size ≤ 140737488351232 := by omega
    have hm : s.size + t.size ≤ 9223372036854775807 := by omega
    clear hs ht
    rw [More_f n s h0 h1 hs2, Option.bind_some, More_num _ t ht2, Option.bind_some, if_pos hm, More_f n (s ++ t) h0 h1 hst, crc_append, Option.bind_some, if_pos rfl, Option.bind_some, if_pos hr.2]
    rfl
theorem CheckMore : weirkeeperlaw02_CheckMore.Pure := by
  intro n s t hn hs ht
  obtain ⟨h0, h1⟩ := u32_range hn
  refine ⟨2, ?_⟩
  unfold weirkeeperlaw02_CheckMore.f
  split
  · exact more_j0 n s t h0 h1 true (by simp) 1
  · exact more_j0 n s t h0 h1 _ (fun h => by simp at h; omega) 1
end Go.Proofs.Ytjldikjnljidbaa.Pure
