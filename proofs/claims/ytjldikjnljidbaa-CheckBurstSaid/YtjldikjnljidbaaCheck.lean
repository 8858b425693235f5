/- The printed functions of package check, of its reference and of the statements, as the plain sum tells them. -/
import Derived.Test.YtjldikjnljidbaaXx2
import Derived.Test.YtjldikjnljidbaaXx3
import Derived.Test.YtjldikjnljidbaaXx5
import Derived.Test.YtjldikjnljidbaaCrcInt
import Derived.Test.YtjldikjnljidbaaXopen
namespace Go.Proofs.Ytjldikjnljidbaa.Pl
open Go Go.RowKit Go.Proofs.Ytjldikjnljidbaa.X Go.Proofs.Ytjldikjnljidbaa.Crc Go.Proofs.Ytjldikjnljidbaa.CrcInt Go.Proofs.YtjldikjnljidbaaW Go.Proofs.YtjldikjnljidbaaW.PrintWords Go.Proofs.YtjldikjnljidbaaW.PrintMore

def num (b : BitVec 24) : Int := (b.toNat : Int)
theorem num_range (b : BitVec 24) : 0 ≤ num b ∧ num b < 16777216 := by have := b.isLt; unfold num; omega
theorem num_inj (a b : BitVec 24) : num a = num b ↔ a = b := by
  constructor
  · intro h
    unfold num at h
    exact BitVec.eq_of_toNat_eq (by omega)
  · rintro rfl; rfl
/-- A sum that is handed in counts by its lowest 24 bits. -/
def low (n : Int) : BitVec 24 := BitVec.ofNat 24 n.toNat
theorem low_num (b : BitVec 24) : low (num b) = b := by
  unfold low num
  rw [Int.toNat_natCast]
  simp
theorem num_low (n : Int) (h : 0 ≤ n) : num (low n) = n % 16777216 := by
  unfold num low
  rw [BitVec.toNat_ofNat]
  omega
theorem low_iff (n m : Int) (hn : 0 ≤ n) (hm : 0 ≤ m) : low n = low m ↔ n % 16777216 = m % 16777216 := by rw [← num_inj, num_low n hn, num_low m hm]
def crc (b : BitVec 24) (s : ByteArray) : BitVec 24 := Crc.bytes b s.toList
theorem More_f (n : Int) (s : ByteArray) (h0 : 0 ≤ n) (h1 : n < 4294967296) (hs : s.size ≤ 140737488351232) : check_More.f n s = some (num (crc (low n) s)) := by
  unfold check_More.f
  rw [if_pos ⟨h0, h1, hs⟩]
  rfl
theorem More_num (b : BitVec 24) (s : ByteArray) (hs : s.size ≤ 140737488351232) : check_More.f (num b) s = some (num (crc b s)) := by
  have := num_range b
  rw [More_f _ _ (by omega) (by omega) hs, low_num]
def first : BitVec 24 := 0xb704ce#24
def sums (b : BitVec 24) (l : List ByteArray) : BitVec 24 := l.foldl crc b
theorem rd_at (l : List ByteArray) (i : Nat) (h : i < l.length) : rdOf ByteArray.empty l (i : Int) = l[i] := by
  unfold rdOf
  rw [Int.toNat_natCast, List.getD_eq_getElem?_getD, List.getElem?_eq_getElem h]
  rfl
theorem Sum_l0 (l : List ByteArray) (hl : l.length ≤ 1000000) (hs : ∀ s ∈ l, s.size ≤ 140737488351232) (d : Nat) : ∀ (k i : Nat) (b : BitVec 24), l.length = i + d → d < k → check_Sum.l0 k (num b) l (l.length : Int) (i : Int) = some (num (sums b (l.drop i))) := by
  induction d with
  | zero =>
    intro k i b hi hk
    obtain ⟨k, rfl⟩ : ∃ m, k = m + 1 := ⟨k - 1, by omega⟩
    simp only [check_Sum.l0]
    rw [if_neg (by omega), List.drop_eq_nil_of_le (by omega)]
    rfl
  | succ d ih =>
    intro k i b hi hk
    obtain ⟨k, rfl⟩ : ∃ m, k = m + 1 := ⟨k - 1, by omega⟩
    have hlt : i < l.length := by omega
    simp only [check_Sum.l0]
    rw [if_pos (by omega), if_pos (by omega), if_pos (by omega), rd_at l i hlt, More_num b _ (hs _ (List.getElem_mem hlt)), wrap_succ i (by omega), List.drop_eq_getElem_cons hlt]
    exact ih k (i + 1) (crc b l[i]) (by omega) (by omega)
theorem Sum_f (l : List ByteArray) (hl : l.length ≤ 1000000) (hs : ∀ s ∈ l, s.size ≤ 140737488351232) (k : Nat) (hk : l.length < k) : check_Sum.f k l = some (num (sums first l)) :=
  Sum_l0 l hl hs l.length k 0 first (by omega) hk
theorem Sum_one (s : ByteArray) (hs : s.size ≤ 140737488351232) (k : Nat) (hk : 1 < k) : check_Sum.f k [s] = some (num (crc first s)) := by
  rw [Sum_f [s] (by simp) (by simpa using hs) k (by simpa using hk)]
  rfl
/-! ### The reference -/
theorem bit_f (b : BitVec 24) (c : Bool) : weirkeeperref02_bit.f (num b) (if c then 1 else 0) = some (num (Crc.bit b c)) := by
  have h1 := b.isLt
  have hm : (b.toNat / 8388608) = if b.msb then 1 else 0 := by
    have : b.msb = decide (8388608 ≤ b.toNat) := by rw [BitVec.msb_eq_decide]
    rw [this]
    by_cases h : 8388608 ≤ b.toNat
    · simp [h]; omega
    · simp [h]; omega
  have e0 : Int.tdiv (num b) 8388608 = ((b.toNat / 8388608 : Nat) : Int) := by
    unfold num
    rw [Int.tdiv_eq_ediv_of_nonneg (by omega)]
    omega
  have e1 : (((num b * 2) % 4294967296) % 16777216) = ((b.toNat * 2 % 16777216 : Nat) : Int) := by unfold num; omega
  have e3 : ((b ^^^ M c) <<< 1).toNat = b.toNat * 2 % 16777216 := by
    rw [BitVec.shiftLeft_xor_distrib]
    have : M c <<< 1 = 0#24 := by cases c <;> decide
    rw [this, BitVec.xor_zero, shl_toNat]
  have e4 : (b ^^^ M c).msb = (b.msb != c) := by
    rw [msb_xor]
    congr 1
    cases c <;> decide
  unfold weirkeeperref02_bit.f Crc.bit T
  rw [e0, e1, hm, e4]
  cases hb : b.msb <;> cases c <;> simp only [num, BitVec.toNat_xor, e3]
  · rw [if_neg (by decide)]
    simp
  · rw [if_pos (by decide), show (8801531 : Int) = ((8801531 : Nat) : Int) from rfl, u32_xor_nat _ _ (by omega) (by omega)]
    simp
  · rw [if_pos (by decide), show (8801531 : Int) = ((8801531 : Nat) : Int) from rfl, u32_xor_nat _ _ (by omega) (by omega)]
    simp
  · rw [if_neg (by decide)]
    simp
def lowBits (c : UInt8) (j : Nat) : List Bool := (List.range j).reverse.map fun t => c.toBitVec.getLsbD t
theorem lowBits_succ (c : UInt8) (j : Nat) : lowBits c (j + 1) = c.toBitVec.getLsbD j :: lowBits c j := by
  unfold lowBits
  rw [List.range_succ, List.reverse_append]
  rfl
theorem lowBits_all (c : UInt8) : lowBits c 8 = bitsOf c.toBitVec := by
  unfold lowBits bitsOf
  rfl
theorem bt_at' (s : ByteArray) (i : Nat) (h : i < s.size) : bt s (i : Int) = (s[i].toNat : Int) := by
  unfold bt
  simp [h]
theorem bit_val (c : UInt8) (j : Nat) (hj : j < 8) : (Int.tmod (shr .u8 (c.toNat : Int) (IntKind.u64.wrap (j : Int))) 2) % 4294967296 = if c.toBitVec.getLsbD j then 1 else 0 := by
  have hw : IntKind.u64.wrap (j : Int) = (j : Int) := by
    simp [IntKind.wrap, IntKind.bits, IntKind.signed]
    omega
  rw [hw]
  unfold shr
  rw [Int.toNat_natCast, show min j (IntKind.u8.bits) = j from Nat.min_eq_left (by simp [IntKind.bits]; omega)]
  have e : ((c.toNat : Int) / 2 ^ j) = ((c.toNat / 2 ^ j : Nat) : Int) := by simp
  rw [e, Int.tmod_eq_emod_of_nonneg (Int.natCast_nonneg _)]
  have h2 : c.toBitVec.getLsbD j = decide (c.toNat / 2 ^ j % 2 = 1) := by
    rw [BitVec.getLsbD, Nat.testBit_eq_decide_div_mod_eq]
    rfl
  rw [h2]
  generalize c.toNat / 2 ^ j = q
  by_cases h : q % 2 = 1
  · rw [if_pos (by simpa using h)]
    omega
  · rw [if_neg (by simpa using h)]
    omega
theorem refMore_l1 (s : ByteArray) (hs : s.size ≤ 1000000) (i : Nat) (hi : i < s.size) (j : Nat) : ∀ (m : Nat) (b : BitVec 24), j ≤ 8 → weirkeeperref02_More.l1 (m + (j + 1)) (num b) s (i : Int) ((j : Int) - 1) = weirkeeperref02_More.l0 m (num (bitsFrom b (lowBits s[i] j))) s ((i + 1 : Nat) : Int) := by
  induction j with
  | zero =>
    intro m b hj
    simp only [weirkeeperref02_More.l1]
    rw [if_neg (by omega), wrap_succ i (by omega)]
    rfl
  | succ j ih =>
    intro m b hj
    have e : ((j + 1 : Nat) : Int) - 1 = (j : Int) := by omega
    obtain ⟨q, hq⟩ : ∃ q, q = m + (j + 1) := ⟨_, rfl⟩
    rw [e, show m + (j + 1 + 1) = q + 1 by omega]
    simp only [weirkeeperref02_More.l1]
    have hw : IntKind.u64.wrap (j : Int) = (j : Int) := by
      simp [IntKind.wrap, IntKind.bits, IntKind.signed]
      omega
    rw [if_pos (by omega), if_pos (by omega), if_pos (by omega), if_pos (by rw [hw]; omega), bt_at' s i hi, bit_val _ j (by omega), bit_f]
    simp only [Option.bind_some]
    rw [show wrap64 ((j : Int) - 1) = (j : Int) - 1 by unfold wrap64; omega, hq, ih m _ (by omega), lowBits_succ]
    rfl
theorem refMore_l0 (s : ByteArray) (hs : s.size ≤ 1000000) (d : Nat) : ∀ (k i : Nat) (b : BitVec 24), s.size = i + d → 10 * d < k → weirkeeperref02_More.l0 k (num b) s (i : Int) = some (num (Crc.bytes b (s.toList.drop i))) := by
  induction d with
  | zero =>
    intro k i b hi hk
    obtain ⟨k, rfl⟩ : ∃ m, k = m + 1 := ⟨k - 1, by omega⟩
    simp only [weirkeeperref02_More.l0]
    rw [if_neg (by omega), List.drop_eq_nil_of_le (by rw [toList_length]; omega)]
    rfl
  | succ d ih =>
    intro k i b hi hk
    obtain ⟨k, rfl⟩ : ∃ m, k = m + (8 + 1) + 1 := ⟨k - 10, by omega⟩
    have hlt : i < s.size := by omega
    simp only [weirkeeperref02_More.l0]
    rw [if_pos (by omega), show (7 : Int) = ((8 : Nat) : Int) - 1 by omega, refMore_l1 s hs i hlt 8 k b (by omega), ih k (i + 1) _ (by omega) (by omega), lowBits_all, ← byte_bits]
    have hd : s.toList.drop i = s[i] :: s.toList.drop (i + 1) := by
      rw [List.drop_eq_getElem_cons (by rw [toList_length]; exact hlt)]
      congr 1
      simp only [toList_data]
      rfl
    rw [hd]
    rfl
theorem refMore_f (n : Int) (s : ByteArray) (hs : s.size ≤ 1000) (h0 : 0 ≤ n) (k : Nat) (hk : 10001 ≤ k) : weirkeeperref02_More.f k n s = some (num (crc (low n) s)) := by
  unfold weirkeeperref02_More.f
  rw [Int.tmod_eq_emod_of_nonneg h0, ← num_low n h0]
  have := refMore_l0 s (by omega) s.size k 0 (low n) (by omega) (by omega)
  exact this
theorem refSum_f (s : ByteArray) (hs : s.size ≤ 1000) (k : Nat) (hk : 10001 ≤ k) : weirkeeperref02_Sum.f k s = some (num (crc first s)) := by
  unfold weirkeeperref02_Sum.f
  rw [refMore_f _ s hs (by decide) k hk]
  rfl
theorem crc_append (b : BitVec 24) (s t : ByteArray) : crc b (s ++ t) = crc (crc b s) t := by
  unfold crc
  rw [← bytes_append]
  congr 1
  rw [toList_data, toList_data, toList_data, ByteArray.data_append]
  simp
theorem u32_range {n : Int} (h : Open.okInt .u32 n) : 0 ≤ n ∧ n < 4294967296 := by
  unfold Open.okInt at h
  simp [Lit.wf, IntKind.min, IntKind.max, IntKind.signed, IntKind.bits] at h
  omega
end Go.Proofs.Ytjldikjnljidbaa.Pl
