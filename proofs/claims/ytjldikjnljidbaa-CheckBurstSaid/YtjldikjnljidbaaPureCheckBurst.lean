/- CheckBurst, plain: what is changed in a text, within 24 bits that follow one another, changes the sum. -/
import Derived.Test.YtjldikjnljidbaaStateCheckBurst
import Derived.Test.YtjldikjnljidbaaCheck
namespace Go.Proofs.Ytjldikjnljidbaa.Pure
open Go Go.RowKit Go.Proofs.Ytjldikjnljidbaa.X Go.Proofs.Ytjldikjnljidbaa.Pl Go.Proofs.YtjldikjnljidbaaW Go.Proofs.YtjldikjnljidbaaW.PrintWords Go.Proofs.YtjldikjnljidbaaW.PrintLast Go.Proofs.YtjldikjnljidbaaW.PrintMore
set_option linter.unusedVariables false
set_option linter.unusedSimpArgs false
/-- A bit of a text, the highest of a byte first. -/
def bitAt (M : List UInt8) (p : Nat) : Bool := (M.getD (p / 8) 0).toBitVec.getLsbD (7 - p % 8)
theorem bits_at (c : BitVec 8) (p : Nat) (h : p < 8) : (Crc.bitsOf c)[p]? = some (c.getLsbD (7 - p)) := by
  match p, h with
  | 0, _ => rfl
  | 1, _ => rfl
  | 2, _ => rfl
  | 3, _ => rfl
  | 4, _ => rfl
  | 5, _ => rfl
  | 6, _ => rfl
  | 7, _ => rfl
theorem all_at (M : List UInt8) : ∀ p, p < 8 * M.length → (Crc.allBits M)[p]? = some (bitAt M p) := by
  induction M with
  | nil => intro p h; simp at h
  | cons c r ih =>
    intro p h
    have hl : (Crc.bitsOf c.toBitVec).length = 8 := rfl
    show (Crc.bitsOf c.toBitVec ++ Crc.allBits r)[p]? = _
    by_cases hp : p < 8
    · rw [List.getElem?_append_left (by omega), bits_at _ _ hp]
      unfold bitAt
      rw [show p / 8 = 0 by omega, show p % 8 = p by omega]
      rfl
    · rw [List.getElem?_append_right (by omega), hl, ih (p - 8) (by simp at h; omega)]
      unfold bitAt
      rw [show p / 8 = (p - 8) / 8 + 1 by omega, show p % 8 = (p - 8) % 8 by omega]
      rfl
theorem mask_bit : ∀ a b : Fin 8, ((128 : UInt8) >>> UInt8.ofNat a.val).toBitVec.getLsbD (7 - b.val) = decide (b.val = a.val) := by decide
theorem flip_bit (M : List UInt8) (k p : Nat) (hk : k < 8 * M.length) : bitAt (Burst.flip M k) p = (bitAt M p != decide (p = k)) := by
  unfold bitAt Burst.flip
  by_cases h : p / 8 = k / 8
  · have hg : (M.set (k / 8) (M.getD (k / 8) 0 ^^^ (128 >>> UInt8.ofNat (k % 8)))).getD (p / 8) 0 = M.getD (k / 8) 0 ^^^ (128 >>> UInt8.ofNat (k % 8)) := by
      rw [h, List.getD_eq_getElem?_getD, List.getElem?_set_self (by omega)]
      rfl
    rw [hg, h, UInt8.toBitVec_xor, BitVec.getLsbD_xor, mask_bit ⟨k % 8, Nat.mod_lt _ (by omega)⟩ ⟨p % 8, Nat.mod_lt _ (by omega)⟩]
    have : decide (p % 8 = k % 8) = decide (p = k) := by
      rw [decide_eq_decide]
      omega
    rw [this]
    try (cases (M.getD (k / 8) 0).toBitVec.getLsbD (7 - p % 8) <;> cases decide (p = k) <;> rfl)
  · have hg : (M.set (k / 8) (M.getD (k / 8) 0 ^^^ (128 >>> UInt8.ofNat (k % 8)))).getD (p / 8) 0 = M.getD (p / 8) 0 := by
      rw [List.getD_eq_getElem?_getD, List.getElem?_set_ne (fun e => h e.symm), ← List.getD_eq_getElem?_getD]
    rw [hg, decide_eq_false (fun e => h (by rw [e]))]
    cases (M.getD (p / 8) 0).toBitVec.getLsbD (7 - p % 8) <;> rfl
/-- Which bits are turned. -/
def pat (fr bt j p : Nat) : Bool := decide (fr ≤ p) && (decide (p < fr + j) && bt.testBit (p - fr))
theorem after_bit (L : List UInt8) (fr bt p : Nat) (h : fr + 24 ≤ 8 * L.length) : ∀ j, j ≤ 24 → bitAt (Burst.after L fr bt j) p = (bitAt L p != pat fr bt j p)
  | 0, _ => by
    have : pat fr bt 0 p = false := by
      unfold pat
      by_cases h1 : fr ≤ p
      · rw [decide_eq_false (show ¬ p < fr + 0 by omega)]
        simp
      · rw [decide_eq_false h1]
        rfl
    rw [this]
    show bitAt L p = _
    cases bitAt L p <;> rfl
  | j + 1, hj => by
    have ih := after_bit L fr bt p h j (by omega)
    have hstep : pat fr bt (j + 1) p = (pat fr bt j p != (bt.testBit j && decide (p = fr + j))) := by
      unfold pat
      by_cases h1 : fr ≤ p
      · rw [decide_eq_true h1]
        by_cases h2 : p < fr + j
        · rw [decide_eq_true h2, decide_eq_true (show p < fr + (j + 1) by omega), decide_eq_false (show ¬ p = fr + j by omega)]
          simp
        · by_cases h3 : p = fr + j
          · rw [decide_eq_false h2, decide_eq_true (show p < fr + (j + 1) by omega), decide_eq_true h3, show p - fr = j by omega]
            simp
          · rw [decide_eq_false h2, decide_eq_false (show ¬ p < fr + (j + 1) by omega), decide_eq_false h3]
            simp
      · rw [decide_eq_false h1, decide_eq_false (show ¬ p = fr + j by omega)]
        simp
    rw [Burst.after, hstep]
    by_cases hb : bt.testBit j = true
    · rw [if_pos hb, flip_bit _ _ _ (by rw [Burst.after_len]; omega), ih, hb]
      cases bitAt L p <;> cases pat fr bt j p <;> cases decide (p = fr + j) <;> rfl
    · rw [if_neg hb, ih, Bool.eq_false_iff.2 hb]
      cases bitAt L p <;> cases pat fr bt j p <;> rfl
theorem all_after (L : List UInt8) (fr bt : Nat) (h : fr + 24 ≤ 8 * L.length) : Crc.allBits (Burst.after L fr bt 24) = List.zipWith (· != ·) (Crc.allBits L) ((List.range (8 * L.length)).map (pat fr bt 24)) := by
  apply List.ext_getElem?
  intro p
  by_cases hp : p < 8 * L.length
  · rw [all_at _ p (by rw [Burst.after_len]; exact hp), List.getElem?_zipWith, all_at L p hp, List.getElem?_map, List.getElem?_range hp, after_bit L fr bt p h 24 (Nat.le_refl _)]
    rfl
  · rw [List.getElem?_eq_none (by rw [Crc.allBits_length, Burst.after_len]; omega), List.getElem?_eq_none (by rw [List.length_zipWith, Crc.allBits_length]; simp; omega)]
theorem pat_list (fr bt n : Nat) (h : fr + 24 ≤ n) : (List.range n).map (pat fr bt 24) = List.replicate fr false ++ ((List.range 24).map bt.testBit ++ List.replicate (n - fr - 24) false) := by
  apply List.ext_getElem?
  intro p
  by_cases hp : p < n
  · rw [List.getElem?_map, List.getElem?_range hp]
    by_cases h1 : p < fr
    · rw [List.getElem?_append_left (by simpa using h1), List.getElem?_replicate, if_pos h1]
      simp [pat, show ¬ fr ≤ p by omega]
    · rw [List.getElem?_append_right (by simp; omega), List.length_replicate]
      by_cases h2 : p < fr + 24
      · rw [List.getElem?_append_left (by simp; omega), List.getElem?_map, List.getElem?_range (by omega)]
        simp [pat, show fr ≤ p by omega, h2]
      · rw [List.getElem?_append_right (by simp; omega), List.getElem?_replicate, if_pos (by simp; omega)]
        simp [pat, h2]
  · rw [List.getElem?_eq_none (by simp; omega), List.getElem?_eq_none (by simp; omega)]
theorem burst_ne (fr bt n : Nat) (h : fr + 24 ≤ n) (hb : bt ≠ 0) (hb2 : bt < 16777216) : Crc.bitsFrom 0#24 ((List.range n).map (pat fr bt 24)) ≠ 0#24 := by
  intro he
  rw [pat_list fr bt n h, Crc.bitsFrom_append, Crc.bitsFrom_append, Crc.bitsFrom_zeros 0#24 fr, Crc.Tn_zero, Crc.bitsFrom_zeros] at he
  have h1 := Crc.Tn_ne _ _ he
  rw [Crc.bitsFrom_word _ _ (by simp)] at h1
  have h2 := Crc.Tn_ne _ _ h1
  rw [BitVec.zero_xor] at h2
  have h3 := Crc.W_zero _ (by simp) h2
  apply hb
  apply Nat.eq_of_testBit_eq
  intro i
  rw [Nat.zero_testBit]
  by_cases hi : i < 24
  · exact h3 _ (List.mem_map.2 ⟨i, List.mem_range.2 hi, rfl⟩)
  · exact Nat.testBit_lt_two_pow (Nat.lt_of_lt_of_le hb2 (show 16777216 ≤ 2 ^ i from Nat.pow_le_pow_right (n := 2) (i := 24) (by omega) (by omega)))
theorem nums_list (L : List UInt8) : (strOfNums (Burst.numsOf L)).toList = L := by
  rw [ByteArray.toList_eq, strOfNums_data, Burst.numsOf, List.map_map]
  conv => rhs; rw [← List.map_id L]
  apply List.map_congr_left
  intro b _
  simp
theorem u16_range {n : Int} (h : Open.okInt .u16 n) : 0 ≤ n ∧ n < 65536 := by
  unfold Open.okInt at h
  simp [Lit.wf, IntKind.min, IntKind.max, IntKind.signed, IntKind.bits] at h
  omega
theorem CheckBurst : weirkeeperlaw02_CheckBurst.Pure := by
  intro s at_ bits hs ha hb
  obtain ⟨a0, a1⟩ := u16_range ha
  obtain ⟨b0, b1⟩ := u32_range hb
  unfold weirkeeperlaw02_CheckBurst.f
  rw [if_pos ⟨hs, a0, a1, b0, b1⟩]
  by_cases hc : 300 < s.size ∨ s.size < 3 ∨ bits % 16777216 = 0
  · rw [if_pos hc]
  · have g1 := Int.emod_nonneg at_ (show 8 * (s.size : Int) - 23 ≠ 0 by omega)
    have g2 := Int.emod_lt_of_pos at_ (show 0 < 8 * (s.size : Int) - 23 by omega)
    obtain ⟨fr, hfr⟩ : ∃ fr, fr = (at_ % (8 * (s.size : Int) - 23)).toNat := ⟨_, rfl⟩
    obtain ⟨bt, hbt⟩ : ∃ bt, bt = (bits % 16777216).toNat := ⟨_, rfl⟩
    have h24 : fr + 24 ≤ 8 * s.size := by omega
    have hL : s.data.toList.length = s.size := by simp
    rw [if_neg hc, ← hfr, ← hbt, Sum_one _ (by rw [strOfNums_size, Burst.numsOf, List.length_map, Burst.after_len, hL]; omega) 9 (by omega), Option.bind_some, Sum_one s (by omega) 9 (by omega), Option.bind_some]
    refine if_pos ?_
    rw [bne_iff_ne]
    intro he
    have he2 := (num_inj _ _).1 he
    unfold crc at he2
    rw [nums_list, ByteArray.toList_eq, Crc.bytes_bits, Crc.bytes_bits, all_after _ fr bt (by rw [hL]; exact h24)] at he2
    have hx := Crc.bitsFrom_xor first 0#24 (Crc.allBits s.data.toList) ((List.range (8 * s.data.toList.length)).map (pat fr bt 24)) (by rw [Crc.allBits_length]; simp)
    rw [BitVec.xor_zero] at hx
    rw [hx] at he2
    apply burst_ne fr bt (8 * s.data.toList.length) (by rw [hL]; exact h24) (by omega) (by omega)
    generalize Crc.bitsFrom first (Crc.allBits s.data.toList) = x at he2
    generalize Crc.bitsFrom 0#24 ((List.range (8 * s.data.toList.length)).map (pat fr bt 24)) = y at he2 ⊢
    have : x ^^^ (x ^^^ y) = x ^^^ x := by rw [he2]
    rwa [← BitVec.xor_assoc, BitVec.xor_self, BitVec.zero_xor] at this
end Go.Proofs.Ytjldikjnljidbaa.Pure
