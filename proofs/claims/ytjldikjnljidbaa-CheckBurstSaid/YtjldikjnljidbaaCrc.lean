/- The sum of 24 bits, in plain numbers: turning it eight times, by bits and by bytes; it is linear. No program in sight. -/
import Derived.KernelRfl
namespace Go.Proofs.Ytjldikjnljidbaa.Crc

/-- One turn of the sum. -/
def T (n : BitVec 24) : BitVec 24 := (n <<< 1) ^^^ (if n.msb then 0x864cfb#24 else 0#24)
def Tn : Nat → BitVec 24 → BitVec 24
  | 0, n => n
  | k + 1, n => Tn k (T n)
/-- One byte behind. -/
def byte (n : BitVec 24) (c : BitVec 8) : BitVec 24 := Tn 8 (n ^^^ (c.setWidth 24 <<< 16))
def bytes (n : BitVec 24) (l : List UInt8) : BitVec 24 := l.foldl (fun n c => byte n c.toBitVec) n
/-- One bit behind, and many. -/
def M (b : Bool) : BitVec 24 := if b then 0x800000#24 else 0#24
def bit (n : BitVec 24) (b : Bool) : BitVec 24 := T (n ^^^ M b)
def bitsFrom (n : BitVec 24) (l : List Bool) : BitVec 24 := l.foldl bit n
/-- The table's number at a place. -/
def tb (i : BitVec 8) : BitVec 24 := Tn 8 (i.setWidth 24 <<< 16)

theorem msb_xor (a b : BitVec 24) : (a ^^^ b).msb = (a.msb != b.msb) := by simp [BitVec.msb_xor]
theorem T_xor (a b : BitVec 24) : T (a ^^^ b) = T a ^^^ T b := by
  unfold T
  rw [msb_xor, BitVec.shiftLeft_xor_distrib]
  generalize a <<< 1 = x
  generalize b <<< 1 = y
  cases a.msb <;> cases b.msb
  · simp
  · simp
    ac_rfl
  · simp
    ac_rfl
  · simp only [bne_self_eq_false, Bool.false_eq_true, if_false, if_true]
    rw [show x ^^^ 8801531#24 ^^^ (y ^^^ 8801531#24) = x ^^^ y ^^^ (8801531#24 ^^^ 8801531#24) by ac_rfl, BitVec.xor_self]
theorem T_zero : T 0#24 = 0#24 := by decide
theorem Tn_xor (k : Nat) (a b : BitVec 24) : Tn k (a ^^^ b) = Tn k a ^^^ Tn k b := by
  induction k generalizing a b with
  | zero => rfl
  | succ k ih => simp only [Tn, T_xor, ih]
theorem Tn_zero (k : Nat) : Tn k 0#24 = 0#24 := by
  induction k with
  | zero => rfl
  | succ k ih => simp only [Tn, T_zero, ih]
theorem Tn_add (j k : Nat) (n : BitVec 24) : Tn (j + k) n = Tn k (Tn j n) := by
  induction j generalizing n with
  | zero => simp [Tn]
  | succ j ih => rw [show j + 1 + k = (j + k) + 1 by omega]; simp only [Tn, ih]
/-- A turn loses nothing: the polynomial has a constant term. -/
theorem T_ne (n : BitVec 24) (h : T n = 0#24) : n = 0#24 := by
  unfold T at h
  cases hm : n.msb
  · rw [hm] at h
    simp at h
    have h1 : n.toNat < 2 ^ 23 := by
      rw [BitVec.msb_eq_decide] at hm
      simpa using hm
    have h2 := congrArg BitVec.toNat h
    simp [BitVec.toNat_shiftLeft, Nat.shiftLeft_eq] at h2
    apply BitVec.eq_of_toNat_eq
    simp
    omega
  · rw [hm] at h
    simp at h
    have h2 := congrArg (fun x : BitVec 24 => x.getLsbD 0) h
    simp at h2
theorem Tn_ne (k : Nat) (n : BitVec 24) (h : Tn k n = 0#24) : n = 0#24 := by
  induction k generalizing n with
  | zero => exact h
  | succ k ih => exact T_ne n (ih _ h)
theorem xor_zero_iff (a b : BitVec 24) : a ^^^ b = 0#24 ↔ a = b := by
  constructor
  · intro h
    have : a ^^^ b ^^^ b = 0#24 ^^^ b := by rw [h]
    simpa [BitVec.xor_assoc] using this
  · rintro rfl
    simp
theorem Tn_inj (k : Nat) (a b : BitVec 24) : Tn k a = Tn k b ↔ a = b := by
  constructor
  · intro h
    rw [← xor_zero_iff, ← Tn_xor] at h
    exact (xor_zero_iff a b).1 (Tn_ne k _ h)
  · rintro rfl; rfl
/-- What has nothing in its highest places is turned by a shift alone. -/
theorem Tn_small (k : Nat) (n : BitVec 24) (h : n.toNat * 2 ^ k < 2 ^ 24) : Tn k n = BitVec.ofNat 24 (n.toNat * 2 ^ k) := by
  induction k generalizing n with
  | zero => simp [Tn]
  | succ k ih =>
    have hp : 1 ≤ 2 ^ k := Nat.one_le_two_pow
    rw [Nat.pow_succ] at h
    have h1 : n.toNat * 2 < 2 ^ 24 := by
      have : n.toNat * 2 * 1 ≤ n.toNat * 2 * 2 ^ k := Nat.mul_le_mul_left _ hp
      rw [show n.toNat * (2 ^ k * 2) = n.toNat * 2 * 2 ^ k by ac_rfl] at h
      omega
    have hT : T n = BitVec.ofNat 24 (n.toNat * 2) := by
      unfold T
      have hm : n.msb = false := by
        rw [BitVec.msb_eq_decide]
        simp
        omega
      rw [hm]
      apply BitVec.eq_of_toNat_eq
      simp [BitVec.toNat_shiftLeft, Nat.shiftLeft_eq]
    have e : (T n).toNat = n.toNat * 2 := by rw [hT]; simp; omega
    simp only [Tn]
    rw [ih _ (by rw [e, show n.toNat * 2 * 2 ^ k = n.toNat * (2 ^ k * 2) by ac_rfl]; exact h), e, Nat.pow_succ]
    congr 1
    ac_rfl
/-! ### Bits -/
theorem M_xor (a b : Bool) : M (a != b) = M a ^^^ M b := by cases a <;> cases b <;> decide
theorem bit_xor (n m : BitVec 24) (a b : Bool) : bit (n ^^^ m) (a != b) = bit n a ^^^ bit m b := by
  unfold bit
  rw [M_xor, ← T_xor]
  congr 1
  ac_rfl
theorem bitsFrom_append (n : BitVec 24) (a b : List Bool) : bitsFrom n (a ++ b) = bitsFrom (bitsFrom n a) b := List.foldl_append
theorem bitsFrom_xor (n m : BitVec 24) (a b : List Bool) (h : a.length = b.length) : bitsFrom (n ^^^ m) (List.zipWith (· != ·) a b) = bitsFrom n a ^^^ bitsFrom m b := by
  induction a generalizing n m b with
  | nil => cases b with
    | nil => rfl
    | cons => simp at h
  | cons x a ih => cases b with
    | nil => simp at h
    | cons y b =>
      simp only [List.zipWith_cons_cons, bitsFrom, List.foldl_cons, bit_xor]
      exact ih _ _ _ (by simpa using h)
theorem bitsFrom_zeros (n : BitVec 24) (k : Nat) : bitsFrom n (List.replicate k false) = Tn k n := by
  induction k generalizing n with
  | zero => rfl
  | succ k ih =>
    rw [List.replicate_succ]
    simp only [bitsFrom, List.foldl_cons]
    have : bit n false = T n := by simp [bit, M]
    rw [this]
    exact ih _
/-- Up to 24 bits as a word, the first one highest. -/
def W : List Bool → BitVec 24
  | [] => 0#24
  | b :: l => M b ^^^ (W l >>> 1)
theorem W_low (l : List Bool) (i : Nat) (h : i + l.length < 24) : (W l).getLsbD i = false := by
  induction l generalizing i with
  | nil => simp [W]
  | cons b l ih =>
    simp only [List.length_cons] at h
    simp only [W, BitVec.getLsbD_xor, BitVec.getLsbD_ushiftRight]
    rw [ih (1 + i) (by omega)]
    have hM : (M b).getLsbD i = false := by
      cases b
      · simp [M]
      · have : ∀ j : Fin 24, j.val < 23 → (0x800000#24).getLsbD j.val = false := by decide
        exact this ⟨i, by omega⟩ (by simp; omega)
    rw [hM]
    rfl
theorem T_shift (x : BitVec 24) (h : x.getLsbD 0 = false) : T (x >>> 1) = x := by
  have hm : (x >>> 1).msb = false := by simp [BitVec.msb_ushiftRight]
  unfold T
  rw [hm]
  apply BitVec.eq_of_toNat_eq
  have h0 : x.toNat % 2 = 0 := by
    rw [BitVec.getLsbD, Nat.testBit_zero] at h
    simpa using h
  have := x.isLt
  simp [BitVec.toNat_shiftLeft, BitVec.toNat_ushiftRight, Nat.shiftLeft_eq, Nat.shiftRight_eq_div_pow]
  omega
/-- Up to 24 bits, one behind the other, are as many turns of the sum changed by them all. -/
theorem bitsFrom_word (l : List Bool) (n : BitVec 24) (h : l.length ≤ 24) : bitsFrom n l = Tn l.length (n ^^^ W l) := by
  induction l generalizing n with
  | nil => simp [bitsFrom, Tn, W]
  | cons b l ih =>
    simp only [List.length_cons] at h
    have e : bit n b ^^^ W l = T (n ^^^ W (b :: l)) := by
      have : W l = T (W l >>> 1) := (T_shift _ (W_low l 0 (by omega))).symm
      rw [this, bit, ← T_xor]
      simp only [W]
      congr 1
      rw [BitVec.xor_assoc]
    show bitsFrom (bit n b) l = _
    rw [ih _ (by omega), e]
    rfl
/-- A word of bits is 0 only if each of them is. -/
theorem W_zero (l : List Bool) (h : l.length ≤ 24) (hz : W l = 0#24) : ∀ b ∈ l, b = false := by
  induction l with
  | nil => simp
  | cons b l ih =>
    simp only [List.length_cons] at h
    have h1 : b = false := by
      have := congrArg (fun x : BitVec 24 => x.getLsbD 23) hz
      simp only [W, BitVec.getLsbD_xor, BitVec.getLsbD_ushiftRight] at this
      have h24 : (W l).getLsbD (1 + 23) = false := BitVec.getLsbD_of_ge _ _ (by omega)
      rw [h24] at this
      cases b
      · rfl
      · simp [M] at this
    subst h1
    have h2 : W l = 0#24 := by
      have h3 : W l >>> 1 = 0#24 := by simpa [W, M] using hz
      rw [← T_shift (W l) (W_low l 0 (by omega)), h3, T_zero]
    intro x hx
    rcases List.mem_cons.1 hx with rfl | hx
    · rfl
    · exact ih (by omega) h2 x hx
/-! ### Bytes -/
def bitsOf (c : BitVec 8) : List Bool := [c.getLsbD 7, c.getLsbD 6, c.getLsbD 5, c.getLsbD 4, c.getLsbD 3, c.getLsbD 2, c.getLsbD 1, c.getLsbD 0]
theorem W_bitsOf (c : BitVec 8) : W (bitsOf c) = c.setWidth 24 <<< 16 := by
  revert c
  decide
theorem byte_bits (n : BitVec 24) (c : BitVec 8) : byte n c = bitsFrom n (bitsOf c) := by
  rw [bitsFrom_word _ _ (by simp [bitsOf]), W_bitsOf]
  rfl
def allBits (l : List UInt8) : List Bool := l.flatMap fun c => bitsOf c.toBitVec
theorem bytes_bits (n : BitVec 24) (l : List UInt8) : bytes n l = bitsFrom n (allBits l) := by
  induction l generalizing n with
  | nil => rfl
  | cons c l ih =>
    simp only [allBits, List.flatMap_cons]
    rw [bitsFrom_append, ← byte_bits]
    exact ih _
theorem bytes_append (n : BitVec 24) (a b : List UInt8) : bytes n (a ++ b) = bytes (bytes n a) b := List.foldl_append
theorem allBits_length (l : List UInt8) : (allBits l).length = 8 * l.length := by
  induction l with
  | nil => rfl
  | cons c l ih => simp only [allBits, List.flatMap_cons, List.length_append, List.length_cons] at ih ⊢; rw [ih]; simp [bitsOf]; omega
theorem byte_xor (n m : BitVec 24) (a b : BitVec 8) : byte (n ^^^ m) (a ^^^ b) = byte n a ^^^ byte m b := by
  unfold byte
  rw [← Tn_xor]
  congr 1
  have : (a ^^^ b).setWidth 24 = a.setWidth 24 ^^^ b.setWidth 24 := by simp
  rw [this, BitVec.shiftLeft_xor_distrib]
  generalize a.setWidth 24 <<< 16 = x
  generalize b.setWidth 24 <<< 16 = y
  ac_rfl
theorem bytes_xor (n m : BitVec 24) (a b : List UInt8) (h : a.length = b.length) : bytes (n ^^^ m) (List.zipWith (· ^^^ ·) a b) = bytes n a ^^^ bytes m b := by
  induction a generalizing n m b with
  | nil => cases b with
    | nil => rfl
    | cons => simp at h
  | cons x a ih => cases b with
    | nil => simp at h
    | cons y b =>
      simp only [List.zipWith_cons_cons, bytes, List.foldl_cons]
      have : (x ^^^ y).toBitVec = x.toBitVec ^^^ y.toBitVec := rfl
      rw [this, byte_xor]
      exact ih _ _ _ (by simpa using h)
theorem byte_zero (n : BitVec 24) : byte n 0#8 = Tn 8 n := by simp [byte]
theorem bytes_zeros (n : BitVec 24) (k : Nat) : bytes n (List.replicate k 0) = Tn (8 * k) n := by
  induction k generalizing n with
  | zero => rfl
  | succ k ih =>
    rw [List.replicate_succ, show 8 * (k + 1) = 8 + 8 * k by omega, Tn_add]
    simp only [bytes, List.foldl_cons]
    rw [show (0 : UInt8).toBitVec = 0#8 from rfl, byte_zero]
    exact ih _
/-- Behind one text unlike sums stay unlike. -/
theorem bytes_inj (n m : BitVec 24) (l : List UInt8) : bytes n l = bytes m l ↔ n = m := by
  constructor
  · intro h
    have h1 := bytes_xor n m l l rfl
    rw [h, BitVec.xor_self] at h1
    have h2 : List.zipWith (· ^^^ ·) l l = List.replicate l.length (0 : UInt8) := by
      clear h h1
      induction l with
      | nil => rfl
      | cons c l ih => rw [List.zipWith_cons_cons, ih, UInt8.xor_self]; rfl
    rw [h2, bytes_zeros] at h1
    exact (xor_zero_iff n m).1 (Tn_ne _ _ h1)
  · rintro rfl; rfl
/-- The table: one byte behind a sum is the sum's lower bytes, one place up, changed by the table's number at its highest byte, changed by the byte. -/
theorem byte_table (n : BitVec 24) (c : BitVec 8) : byte n c = (n <<< 8) ^^^ tb ((n >>> 16).setWidth 8 ^^^ c) := by
  have e : n ^^^ (c.setWidth 24 <<< 16) = (n &&& 0xffff#24) ^^^ ((((n >>> 16).setWidth 8 ^^^ c).setWidth 24) <<< 16) := by
    apply BitVec.eq_of_getLsbD_eq
    intro i hi
    simp only [BitVec.getLsbD_xor, BitVec.getLsbD_and, BitVec.getLsbD_shiftLeft, BitVec.getLsbD_setWidth, BitVec.getLsbD_ushiftRight]
    by_cases h : i < 16
    · have : (65535#24).getLsbD i = true := by
        have : ∀ j : Fin 16, (65535#24).getLsbD j.val = true := by decide
        exact this ⟨i, h⟩
      simp [h, this]
    · have h2 : (65535#24).getLsbD i = false := by
        have : ∀ j : Fin 24, 16 ≤ j.val → (65535#24).getLsbD j.val = false := by decide
        exact this ⟨i, hi⟩ (by simpa using h)
      have h3 : 16 + (i - 16) = i := by omega
      rw [h2]
      simp [h, hi, h3, show i - 16 < 24 by omega, show i - 16 < 8 by omega]
  unfold byte tb
  rw [e, Tn_xor]
  congr 1
  have hl : (n &&& 0xffff#24).toNat < 65536 := by
    rw [BitVec.toNat_and]
    exact Nat.lt_of_le_of_lt (Nat.and_le_right) (by decide)
  rw [Tn_small 8 _ (by omega)]
  apply BitVec.eq_of_toNat_eq
  have h2 : (n &&& 0xffff#24).toNat = n.toNat % 65536 := by
    rw [BitVec.toNat_and]
    exact Nat.and_two_pow_sub_one_eq_mod n.toNat 16
  rw [h2]
  have := n.isLt
  simp [BitVec.toNat_shiftLeft, Nat.shiftLeft_eq]
  omega
theorem tb_xor (a b : BitVec 8) : tb (a ^^^ b) = tb a ^^^ tb b := by
  have := byte_xor 0#24 0#24 a b
  simpa [byte, tb] using this
theorem tb_byte (a : BitVec 8) : tb a = byte 0#24 a := by simp [byte, tb]
theorem tb_zero (a : BitVec 8) : tb a = 0#24 ↔ a = 0#8 := by
  constructor
  · intro h
    have h1 := Tn_ne 8 _ h
    have h2 := congrArg BitVec.toNat h1
    have := a.isLt
    simp [BitVec.toNat_shiftLeft, Nat.shiftLeft_eq] at h2
    apply BitVec.eq_of_toNat_eq
    simp
    omega
  · rintro rfl
    decide
end Go.Proofs.Ytjldikjnljidbaa.Crc
