/- CheckZeros, plain: behind a sum of 0 bytes 0 leave it 0; behind any other one they never do. -/
import Derived.Test.YtjldikjnljidbaaStateCheckZeros
import Derived.Test.YtjldikjnljidbaaCheck
namespace Go.Proofs.Ytjldikjnljidbaa.Pure
open Go Go.RowKit Go.Proofs.Ytjldikjnljidbaa.X Go.Proofs.Ytjldikjnljidbaa.Pl Go.Proofs.YtjldikjnljidbaaW Go.Proofs.YtjldikjnljidbaaW.PrintWords Go.Proofs.YtjldikjnljidbaaW.PrintLast Go.Proofs.YtjldikjnljidbaaW.PrintMore
set_option linter.unusedVariables false
set_option linter.unusedSimpArgs false
theorem u16_range {n : Int} (h : Open.okInt .u16 n) : 0 ≤ n ∧ n < 65536 := by
  unfold Open.okInt at h
  simp [Lit.wf, IntKind.min, IntKind.max, IntKind.signed, IntKind.bits] at h
  omega
theorem zeros_list (n : Nat) : (strOfNums (List.replicate n 0)).toList = List.replicate n 0 := by
  rw [ByteArray.toList_eq]
  simp [strOfNums]
theorem zeros_size (n : Nat) : (strOfNums (List.replicate n 0)).size = n := by simp [strOfNums, ByteArray.size]
theorem crc_zeros (b : BitVec 24) (n : Nat) : crc b (strOfNums (List.replicate n 0)) = Crc.Tn (8 * n) b := by
  unfold crc
  rw [zeros_list, Crc.bytes_zeros]
theorem num_zero (b : BitVec 24) : num b = 0 ↔ b = 0#24 := by
  rw [← num_inj]
  rfl
theorem CheckZeros : weirkeeperlaw02_CheckZeros.Pure := by
  intro n m hn hm
  obtain ⟨h0, h1⟩ := u32_range hn
  obtain ⟨g0, g1⟩ := u16_range hm
  unfold weirkeeperlaw02_CheckZeros.f
  rw [Int.tmod_eq_emod_of_nonneg g0, Int.tmod_eq_emod_of_nonneg h0]
  have hq : (m % 300).toNat < 300 := by omega
  generalize (m % 300).toNat = q at hq ⊢
  rw [if_pos (by omega), if_pos (by omega), Option.bind_some, More_f 0 _ (by omega) (by omega) (by rw [zeros_size]; omega), Option.bind_some, More_f n _ h0 h1 (by rw [zeros_size]; omega), crc_zeros, crc_zeros, Option.bind_some]
  have e0 : num (Crc.Tn (8 * q) (low 0)) = 0 := by
    rw [num_zero]
    exact Crc.Tn_zero _
  rw [if_pos e0]
  have e : (num (Crc.Tn (8 * q) (low n)) == 0) = (n % 16777216 == 0) := by
    rw [Bool.eq_iff_iff]
    simp only [beq_iff_eq]
    rw [num_zero, ← num_low n h0, num_zero]
    constructor
    · exact Crc.Tn_ne _ _
    · intro h
      rw [h]
      exact Crc.Tn_zero _
  rw [e, if_pos (by simp)]
  rfl
end Go.Proofs.Ytjldikjnljidbaa.Pure
