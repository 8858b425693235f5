/- CheckTells, plain: the program's sum and the reference's are the same. -/
import Derived.Test.YtjldikjnljidbaaStateCheckTells
import Derived.Test.YtjldikjnljidbaaCheck
namespace Go.Proofs.Ytjldikjnljidbaa.Pure
open Go Go.RowKit Go.Proofs.Ytjldikjnljidbaa.X Go.Proofs.Ytjldikjnljidbaa.Pl Go.Proofs.YtjldikjnljidbaaW Go.Proofs.YtjldikjnljidbaaW.PrintWords Go.Proofs.YtjldikjnljidbaaW.PrintLast Go.Proofs.YtjldikjnljidbaaW.PrintMore

theorem CheckTells : weirkeeperlaw02_CheckTells.Pure := by
  intro n s hn hs
  refine ⟨10001, ?_⟩
  obtain ⟨h0, h1⟩ := u32_range hn
  unfold weirkeeperlaw02_CheckTells.f
  split
  · rfl
  · rw [Sum_one s hs _ (by omega), refSum_f s (by omega) _ (by omega), More_f n s h0 h1 hs, refMore_f n s (by omega) h0 _ (by omega)]
    simp only [Option.bind_some, if_true]
    rfl
end Go.Proofs.Ytjldikjnljidbaa.Pure
