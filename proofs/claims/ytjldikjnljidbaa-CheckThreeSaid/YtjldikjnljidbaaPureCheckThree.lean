/- CheckThree, plain: of three texts of one length the sums, changed by one another, are the sum of all three, changed by one another. -/
import Derived.Test.YtjldikjnljidbaaStateCheckThree
import Derived.Test.YtjldikjnljidbaaCheck
namespace Go.Proofs.Ytjldikjnljidbaa.Pure
open Go Go.RowKit Go.Proofs.Ytjldikjnljidbaa.X Go.Proofs.Ytjldikjnljidbaa.Pl Go.Proofs.YtjldikjnljidbaaW Go.Proofs.YtjldikjnljidbaaW.PrintWords Go.Proofs.YtjldikjnljidbaaW.PrintLast Go.Proofs.YtjldikjnljidbaaW.PrintMore
set_option linter.unusedVariables false
set_option linter.unusedSimpArgs false
theorem xor_num (a b : BitVec 24) : Go.bits .xor .u32 (num a) (num b) = num (a ^^^ b) := by
  have h1 := a.isLt
  have h2 := b.isLt
  unfold num
  rw [u32_xor_nat _ _ (by omega) (by omega), BitVec.toNat_xor]
theorem xor_byte (a b : UInt8) : Go.bits .xor .u8 (a.toNat : Int) (b.toNat : Int) = ((a ^^^ b).toNat : Int) := by
  rw [u8_xor_nat _ _ a.toNat_lt b.toNat_lt, UInt8.toNat_xor]
theorem extract_list (s : ByteArray) (n : Nat) : (s.extract 0 n).toList = s.toList.take n := by
  rw [ByteArray.toList_eq, ByteArray.toList_eq, ByteArray.data_extract]
  simp
theorem three_list (a b c : ByteArray) (n : Nat) (ha : n ≤ a.size) (hb : n ≤ b.size) (hc : n ≤ c.size) :
    (strOfNums (Three.xs a b c n n)).toList = List.zipWith (· ^^^ ·) (List.zipWith (· ^^^ ·) (a.toList.take n) (b.toList.take n)) (c.toList.take n) := by
  have la : a.data.toList.length = a.size := by simp
  have lb : b.data.toList.length = b.size := by simp
  have lc : c.data.toList.length = c.size := by simp
  rw [ByteArray.toList_eq (strOfNums _), strOfNums_data, ByteArray.toList_eq, ByteArray.toList_eq, ByteArray.toList_eq]
  apply List.ext_getElem
  · simp [Three.xs, la, lb, lc]
    omega
  · intro i h1 h2
    have hi : i < n := by simpa [Three.xs] using h1
    have e : ∀ (s : ByteArray) (h : i < s.data.toList.length), s.data.toList.getD i 0 = s.data.toList[i] := fun s h => by rw [List.getD_eq_getElem?_getD, List.getElem?_eq_getElem h]; rfl
    have hx : (Three.xs a b c n n).map (fun n => UInt8.ofNat n.toNat) = (List.range n).map (fun j => UInt8.ofNat (Three.x3 a b c j).toNat) := by simp [Three.xs]
    have h3 : UInt8.ofNat (Three.x3 a b c i).toNat = (a.data.toList[i]'(by omega) ^^^ b.data.toList[i]'(by omega)) ^^^ c.data.toList[i]'(by omega) := by
      unfold Three.x3
      rw [e a (by omega), e b (by omega), e c (by omega), xor_byte, xor_byte, Int.toNat_natCast, UInt8.ofNat_toNat]
    simp only [hx, List.getElem_map, List.getElem_range, List.getElem_zipWith, List.getElem_take, h3]
theorem CheckThree : weirkeeperlaw02_CheckThree.Pure := by
  intro a b c ha hb hc
  unfold weirkeeperlaw02_CheckThree.f
  have hn : weirkeeperlaw02_CheckThree.n a b c = min (min a.size b.size) c.size := rfl
  generalize weirkeeperlaw02_CheckThree.n a b c = n at hn ⊢
  have na : n ≤ a.size := by omega
  have nb : n ≤ b.size := by omega
  have nc : n ≤ c.size := by omega
  have hs : ∀ s : ByteArray, n ≤ s.size → (s.extract 0 n).size = n := fun s h => by simp; omega
  have hd : (strOfNums (Three.xs a b c n n)).size = n := by rw [strOfNums_size, Three.xs_len _ _ _ _ _ (Nat.le_refl _)]
  rw [if_pos ⟨ha, hb, hc⟩, Sum_one _ (by rw [hd]; omega) 9 (by omega), Option.bind_some, Sum_one _ (by rw [hs a na]; omega) 9 (by omega), Option.bind_some, Sum_one _ (by rw [hs b nb]; omega) 9 (by omega), Option.bind_some, Sum_one _ (by rw [hs c nc]; omega) 9 (by omega), Option.bind_some]
  refine if_pos ?_
  rw [xor_num, xor_num]
  congr 1
  unfold crc
  rw [extract_list, extract_list, extract_list, three_list a b c n na nb nc, ← Crc.bytes_xor, ← Crc.bytes_xor]
  · first | (congr 1; simp; done) | (congr 1; done) | skip
  all_goals (simp [ByteArray.toList_eq]; try omega)
end Go.Proofs.Ytjldikjnljidbaa.Pure
