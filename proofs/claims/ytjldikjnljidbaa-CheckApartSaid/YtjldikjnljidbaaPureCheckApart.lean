/- CheckApart, plain: a byte behind loses nothing of a sum. -/
import Derived.Test.YtjldikjnljidbaaStateCheckApart
import Derived.Test.YtjldikjnljidbaaCheck
namespace Go.Proofs.Ytjldikjnljidbaa.Pure
open Go Go.RowKit Go.Proofs.Ytjldikjnljidbaa.X Go.Proofs.Ytjldikjnljidbaa.Pl Go.Proofs.YtjldikjnljidbaaW Go.Proofs.YtjldikjnljidbaaW.PrintWords Go.Proofs.YtjldikjnljidbaaW.PrintLast Go.Proofs.YtjldikjnljidbaaW.PrintMore

theorem CheckApart : weirkeeperlaw02_CheckApart.Pure := by
  intro n m s hn hm hs
  obtain ⟨h0, h1⟩ := u32_range hn
  obtain ⟨g0, g1⟩ := u32_range hm
  unfold weirkeeperlaw02_CheckApart.f
  split
  · rfl
  · rw [More_f n s h0 h1 hs, More_f m s g0 g1 hs, Int.tmod_eq_emod_of_nonneg h0, Int.tmod_eq_emod_of_nonneg g0]
    simp only [Option.bind_some]
    have e : (num (crc (low n) s) == num (crc (low m) s)) = (n % 16777216 == m % 16777216) := by
      rw [Bool.eq_iff_iff]
      simp only [beq_iff_eq]
      rw [num_inj, ← low_iff n m h0 g0]
      exact Crc.bytes_inj _ _ _
    rw [e]
    simp only [beq_self_eq_true, if_true]
    rfl
end Go.Proofs.Ytjldikjnljidbaa.Pure
