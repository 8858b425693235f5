/- CheckTable, plain: the table has what one byte makes of nothing; two of its numbers, changed by one another, are that at both places changed by one another; none but the first is 0. -/
import Derived.Test.YtjldikjnljidbaaStateCheckTable
import Derived.Test.YtjldikjnljidbaaCheck
namespace Go.Proofs.Ytjldikjnljidbaa.Pure
open Go Go.RowKit Go.Proofs.Ytjldikjnljidbaa.X Go.Proofs.Ytjldikjnljidbaa.Pl Go.Proofs.YtjldikjnljidbaaW Go.Proofs.YtjldikjnljidbaaW.PrintWords Go.Proofs.YtjldikjnljidbaaW.PrintLast Go.Proofs.YtjldikjnljidbaaW.PrintMore
set_option linter.unusedVariables false
set_option linter.unusedSimpArgs false
theorem u8_range {n : Int} (h : Open.okInt .u8 n) : 0 ≤ n ∧ n < 256 := by
  unfold Open.okInt at h
  simp [Lit.wf, IntKind.min, IntKind.max, IntKind.signed, IntKind.bits] at h
  omega
theorem byte_nat {i : Int} (h0 : 0 ≤ i) (h1 : i < 256) : (BitVec.ofNat 8 i.toNat).toNat = i.toNat := by
  rw [BitVec.toNat_ofNat]
  omega
theorem xor_8 {i k : Int} (h0 : 0 ≤ i) (h1 : i < 256) (g0 : 0 ≤ k) (g1 : k < 256) : Go.bits .xor .u8 i k = (((BitVec.ofNat 8 i.toNat ^^^ BitVec.ofNat 8 k.toNat).toNat : Nat) : Int) := by
  have e1 : i = ((i.toNat : Nat) : Int) := by omega
  have e2 : k = ((k.toNat : Nat) : Int) := by omega
  conv => lhs; rw [e1, e2]
  rw [u8_xor_nat _ _ (by omega) (by omega), BitVec.toNat_xor, byte_nat h0 h1, byte_nat g0 g1]
theorem one_list (i : Int) : (strOfNums [i]).toList = [UInt8.ofNat i.toNat] := by
  rw [ByteArray.toList_eq]
  rfl
theorem one_size (i : Int) : (strOfNums [i]).size = 1 := rfl
theorem CheckTable : weirkeeperlaw02_CheckTable.Pure := by
  intro i k n hi hk hn
  obtain ⟨h0, h1⟩ := u8_range hi
  obtain ⟨g0, g1⟩ := u8_range hk
  obtain ⟨n0, n1⟩ := u32_range hn
  have hx := xor_8 h0 h1 g0 g1
  have hxl := (BitVec.ofNat 8 i.toNat ^^^ BitVec.ofNat 8 k.toNat).isLt
  unfold weirkeeperlaw02_CheckTable.f
  refine if_pos ⟨h0, h1, g0, g1, n0, n1, by rw [hx]; omega, by rw [hx]; omega, ?_, ?_, ?_, ?_⟩
  · rw [hx]
    unfold Hand.tabI
    have a1 := (Crc.tb (BitVec.ofNat 8 i.toNat)).isLt
    have a2 := (Crc.tb (BitVec.ofNat 8 k.toNat)).isLt
    rw [u32_xor_nat _ _ (by omega) (by omega), Int.toNat_natCast, BitVec.ofNat_toNat, BitVec.setWidth_eq, Crc.tb_xor, BitVec.toNat_xor]
  · rw [Bool.eq_iff_iff]
    simp only [beq_iff_eq]
    unfold Hand.tabI
    constructor
    · intro h
      have h2 : Crc.tb (BitVec.ofNat 8 i.toNat) = 0#24 := BitVec.eq_of_toNat_eq (by simp; omega)
      have h3 := congrArg BitVec.toNat ((Crc.tb_zero _).1 h2)
      rw [byte_nat h0 h1] at h3
      simp at h3
      omega
    · rintro rfl
      have : Crc.tb (BitVec.ofNat 8 (0 : Int).toNat) = 0#24 := (Crc.tb_zero _).2 rfl
      rw [this]
      rfl
  · rw [More_f 0 _ (by omega) (by omega) (by rw [one_size]; omega)]
    congr 1
    unfold crc num Hand.tabI
    rw [one_list]
    have e : (UInt8.ofNat i.toNat).toBitVec = BitVec.ofNat 8 i.toNat := rfl
    show ((Crc.byte (low 0) (UInt8.ofNat i.toNat).toBitVec).toNat : Int) = _
    rw [e, Crc.tb_byte]
    rfl
  · rw [More_f n _ n0 n1 (by decide), ← num_low n n0]
    congr 2
    unfold crc
    have : (⟨#[]⟩ : ByteArray).toList = [] := by rw [ByteArray.toList_eq]
    rw [this]
    rfl
end Go.Proofs.Ytjldikjnljidbaa.Pure
