/- The printed functions of package check and of its reference, as the plain sum tells them. -/
import Derived.Test.YtjldikjnljidbaaXx1
import Derived.Test.YtjldikjnljidbaaCrc
import Derived.Laws.BitsAllLaws
namespace Go.Proofs.Ytjldikjnljidbaa.CrcInt
open Go Go.RowKit Go.Proofs.Ytjldikjnljidbaa.X Go.Proofs.Ytjldikjnljidbaa.Crc Go.Proofs.YtjldikjnljidbaaW Go.Proofs.YtjldikjnljidbaaW.PrintWords Go.Proofs.YtjldikjnljidbaaW.PrintMore

theorem mask_nat (a : Nat) : a &&& 16777215 = a % 16777216 := Nat.and_two_pow_sub_one_eq_mod a 24
theorem and_mask (a : Nat) (h : a < 4294967296) : Go.bits .and .u32 (a : Int) 16777215 = ((a % 16777216 : Nat) : Int) := by
  rw [show (16777215 : Int) = ((16777215 : Nat) : Int) from rfl, u32_and_nat a _ h (by omega), mask_nat]
theorem and_top (n : BitVec 24) : Go.bits .and .u32 (n.toNat : Int) 8388608 = if n.msb then 8388608 else 0 := by
  have := n.isLt
  rw [show (8388608 : Int) = ((8388608 : Nat) : Int) from rfl, u32_and_nat _ _ (by omega) (by omega)]
  have e : n &&& 0x800000#24 = if n.msb then 0x800000#24 else 0#24 := by
    apply BitVec.eq_of_getLsbD_eq
    intro i hi
    by_cases h : i = 23
    · subst h
      rw [BitVec.getLsbD_and, BitVec.msb_eq_getLsbD_last]
      cases n.getLsbD 23 <;> simp_all
    · have h2 : (0x800000#24).getLsbD i = false := by
        have : ∀ j : Fin 24, j.val ≠ 23 → (0x800000#24).getLsbD j.val = false := by decide
        exact this ⟨i, hi⟩ h
      rw [BitVec.getLsbD_and, h2, Bool.and_false]
      cases n.msb
      · simp
      · exact h2.symm
  have h := congrArg BitVec.toNat e
  rw [BitVec.toNat_and] at h
  rw [show (8388608 : Nat) = (0x800000#24).toNat from rfl, h]
  cases n.msb <;> rfl
theorem shl_toNat (n : BitVec 24) : (n <<< 1).toNat = n.toNat * 2 % 16777216 := by simp [BitVec.toNat_shiftLeft, Nat.shiftLeft_eq]
theorem turn_step (n : BitVec 24) : (if Go.bits .and .u32 (n.toNat : Int) 8388608 > 0 then Go.bits .xor .u32 (Go.bits .and .u32 (((n.toNat : Int) * 2) % 4294967296) 16777215) 8801531 else Go.bits .and .u32 (((n.toNat : Int) * 2) % 4294967296) 16777215) = ((T n).toNat : Int) := by
  have := n.isLt
  have e1 : ((n.toNat : Int) * 2) % 4294967296 = ((n.toNat * 2 : Nat) : Int) := by omega
  rw [e1, and_mask _ (by omega), and_top]
  unfold T
  cases n.msb
  · rw [if_neg (by simp), if_neg (by simp), BitVec.xor_zero, shl_toNat]
  · have e2 := u32_xor_nat (n.toNat * 2 % 16777216) 8801531 (by omega) (by omega)
    simp only [if_true]
    rw [if_pos (by omega), show (8801531 : Int) = ((8801531 : Nat) : Int) from rfl, e2, BitVec.toNat_xor, shl_toNat]
    rfl
theorem wrap_succ (i : Nat) (h : i ≤ 1000000000000) : wrap64 ((i : Int) + 1) = ((i + 1 : Nat) : Int) := by
  unfold wrap64
  omega
theorem turn_l0 (d : Nat) : ∀ (k i : Nat) (n : BitVec 24), i + d = 8 → d < k → check_turn.l0 k (n.toNat : Int) (i : Int) = some ((Tn d n).toNat : Int) := by
  induction d with
  | zero =>
    intro k i n hi hk
    obtain ⟨k, rfl⟩ : ∃ m, k = m + 1 := ⟨k - 1, by omega⟩
    simp only [check_turn.l0]
    rw [if_neg (by omega)]
    rfl
  | succ d ih =>
    intro k i n hi hk
    obtain ⟨k, rfl⟩ : ∃ m, k = m + 1 := ⟨k - 1, by omega⟩
    simp only [check_turn.l0]
    rw [if_pos (by omega), wrap_succ i (by omega)]
    have h := turn_step n
    split
    · rename_i hc
      rw [if_pos hc] at h
      rw [h]
      exact ih k (i + 1) (T n) (by omega) (by omega)
    · rename_i hc
      rw [if_neg hc] at h
      rw [h]
      exact ih k (i + 1) (T n) (by omega) (by omega)
theorem turn_f (n : BitVec 24) : check_turn.f 9 (n.toNat : Int) = some ((Tn 8 n).toNat : Int) := turn_l0 8 9 0 n (by omega) (by omega)
/-- The number that the table has at a place, as check.turn makes it. -/
theorem turn_tb (i : Nat) (h : i < 256) : check_turn.f 9 ((i * 65536 : Nat) : Int) = some ((tb (BitVec.ofNat 8 i)).toNat : Int) := by
  have := turn_f ((BitVec.ofNat 8 i).setWidth 24 <<< 16)
  have e : (((BitVec.ofNat 8 i).setWidth 24 <<< 16 : BitVec 24)).toNat = i * 65536 := by
    simp [BitVec.toNat_shiftLeft, Nat.shiftLeft_eq]
    omega
  rw [e] at this
  exact this
theorem and_width (n : BitVec 32) : Go.bits .and .u32 (n.toNat : Int) 16777215 = ((n.setWidth 24).toNat : Int) := by
  rw [and_mask _ n.isLt]
  simp
/-- A byte behind, as the program reckons it by its table. -/
theorem place_eq (b : BitVec 24) (c : UInt8) : Go.bits .xor .u8 ((b.toNat : Int) / 65536) (c.toNat : Int) = ((((b >>> 16).setWidth 8 ^^^ c.toBitVec).toNat : Nat) : Int) := by
  have h1 := b.isLt
  have h2 : c.toNat < 256 := c.toNat_lt
  have e : (b.toNat : Int) / 65536 = ((b.toNat / 65536 : Nat) : Int) := by omega
  rw [e, u8_xor_nat _ _ (by omega) h2, BitVec.toNat_xor]
  congr 2
  · simp [Nat.shiftRight_eq_div_pow]
    omega
theorem more_step (b : BitVec 24) (c : UInt8) : Go.bits .xor .u32 (Go.bits .and .u32 ((b.toNat : Int) * 256) 16777215) ((tb (BitVec.ofNat 8 (Go.bits .xor .u8 ((b.toNat : Int) / 65536) (c.toNat : Int)).toNat)).toNat : Int) = ((byte b c.toBitVec).toNat : Int) := by
  have h1 := b.isLt
  rw [place_eq, Int.toNat_natCast, BitVec.ofNat_toNat, BitVec.setWidth_eq]
  have e : (b.toNat : Int) * 256 = ((b.toNat * 256 : Nat) : Int) := by omega
  have h3 := (tb ((b >>> 16).setWidth 8 ^^^ c.toBitVec)).isLt
  rw [e, and_mask _ (by omega), u32_xor_nat _ _ (by omega) (by omega), byte_table, BitVec.toNat_xor]
  congr 2
  simp [BitVec.toNat_shiftLeft, Nat.shiftLeft_eq]
theorem toList_data (s : ByteArray) : s.toList = s.data.toList := ByteArray.toList_eq s
theorem toList_length (s : ByteArray) : s.toList.length = s.size := by rw [toList_data]; rfl
theorem take_succ (s : ByteArray) (k : Nat) (h : k < s.size) : s.toList.take (k + 1) = s.toList.take k ++ [s[k]] := by
  rw [toList_data, List.take_succ_eq_append_getElem (by simpa using h)]
  rfl
end Go.Proofs.Ytjldikjnljidbaa.CrcInt
