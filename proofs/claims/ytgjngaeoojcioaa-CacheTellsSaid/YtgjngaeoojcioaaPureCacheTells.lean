/- CacheTells, plain: what the cache's functions tell is what the document's tell. -/
import Derived.Test.YtgjngaeoojcioaaStateCacheTells
import Derived.Test.YtgjngaeoojcioaaCacheSame
namespace Go.Proofs.Ytgjngaeoojcioaa.Pl
open Go Go.RowKit Go.Proofs.Ytgjngaeoojcioaa.X Go.Proofs.YtgjngaeoojcioaaW Go.Proofs.YtgjngaeoojcioaaW.PrintWords Go.Proofs.YtgjngaeoojcioaaW.PrintLast Go.Proofs.YtgjngaeoojcioaaW.PrintMore
set_option linter.unusedVariables false
set_option linter.unusedSimpArgs false
theorem Clean_f (m : Int) (l : List S27) (hg : GoodC m l) (k : Nat) (hk : 101 ≤ k) : cache_Clean.f k m l = some (m, l.map Clean.cl, l.filter (fun x => x.f2)) := by
  have hl : l.length ≤ 100 := by have := hg.2.2; omega
  unfold cache_Clean.f
  rw [Right_f m l (by omega) k (by omega), Option.bind_some, decide_eq_true hg, if_pos rfl, if_pos (by omega)]
theorem Clean_bad (m : Int) (l : List S27) (hl : l.length ≤ 1000000) (hg : ¬ GoodC m l) (k : Nat) (hk : l.length < k) : cache_Clean.f k m l = some (m, l, []) := by
  unfold cache_Clean.f
  rw [Right_f m l hl k hk, Option.bind_some, decide_eq_false hg, if_neg (by simp)]
theorem puts_len (m : Int) (items : List S27) : ∀ s : List S27 × List S27, (items.foldl (putStep m) s).2.length ≤ s.2.length + items.length := by
  induction items with
  | nil => intro s; simp
  | cons x r ih =>
    intro s
    rw [List.foldl_cons]
    have h1 := ih (putStep m s x)
    have h2 := putStep_out (m := m) s x
    simp only [List.length_cons]
    omega
open Classical in
theorem rRight_l1 (m : Int) (xs : List S33) (hx : xs.length ≤ 100) (i : Nat) (hi : i < xs.length) (d : Nat) : ∀ (k j : Nat), i = j + d →
    weirkeeperref14_Right.l1 (k + d + 1) (i : Int) (j : Int) m xs = if (∃ q, ∃ h : q < xs.length, j ≤ q ∧ q < i ∧ xs[q].f0 = xs[i].f0) then some false else weirkeeperref14_Right.l0 k ((i + 1 : Nat) : Int) m xs := by
  induction d with
  | zero =>
    intro k j hj
    rw [weirkeeperref14_Right.l1, if_neg (by omega), if_neg (by rintro ⟨q, _, h1, h2, _⟩; omega), wrap_succ i (by omega)]
  | succ d ih =>
    intro k j hj
    have hjl : j < xs.length := by omega
    rw [show k + (d + 1) + 1 = (k + d + 1) + 1 by omega, weirkeeperref14_Right.l1, if_pos (by omega), if_pos (by omega), if_pos (by omega), if_pos (by omega), if_pos (by omega), rd_at33 xs i hi, rd_at33 xs j hjl, wrap_succ j (by omega)]
    by_cases h : xs[i].f0 = xs[j].f0
    · rw [if_pos h, if_pos ⟨j, hjl, Nat.le_refl _, by omega, h.symm⟩]
    · rw [if_neg h, ih k (j + 1) (by omega)]
      by_cases hc : ∃ q, ∃ h : q < xs.length, j + 1 ≤ q ∧ q < i ∧ xs[q].f0 = xs[i].f0
      · obtain ⟨q, hq, h1, h2, h3⟩ := hc
        rw [if_pos ⟨q, hq, h1, h2, h3⟩, if_pos ⟨q, hq, by omega, h2, h3⟩]
      · rw [if_neg hc, if_neg]
        rintro ⟨q, hq, h1, h2, h3⟩
        rcases Nat.eq_or_lt_of_le h1 with rfl | h1
        · exact h h3.symm
        · exact hc ⟨q, hq, h1, h2, h3⟩
open Classical in
theorem rRight_l0 (m : Int) (xs : List S33) (hx : xs.length ≤ 100) (d : Nat) : ∀ (k i : Nat), xs.length = i + d → d * 110 + 1 ≤ k →
    weirkeeperref14_Right.l0 k (i : Int) m xs = some (decide (∀ (q p : Nat) (hq : q < xs.length) (hp : p < xs.length), q < p → i ≤ p → xs[q].f0 ≠ xs[p].f0)) := by
  induction d with
  | zero =>
    intro k i hi hk
    obtain ⟨k, rfl⟩ : ∃ q, k = q + 1 := ⟨k - 1, by omega⟩
    rw [weirkeeperref14_Right.l0, if_neg (by omega), decide_eq_true]
    intro q p hq hp h1 h2
    omega
  | succ d ih =>
    intro k i hi hk
    obtain ⟨k, rfl⟩ : ∃ q, k = q + i + 2 := ⟨k - i - 2, by omega⟩
    have hil : i < xs.length := by omega
    have h1 := rRight_l1 m xs hx i hil i k 0 (by omega)
    rw [show ((0 : Nat) : Int) = 0 from rfl] at h1
    rw [show k + i + 2 = (k + i + 1) + 1 by omega, weirkeeperref14_Right.l0, if_pos (by omega), h1, ih k (i + 1) (by omega) (by omega)]
    by_cases hc : ∃ q, ∃ h : q < xs.length, 0 ≤ q ∧ q < i ∧ xs[q].f0 = xs[i].f0
    · rw [if_pos hc, decide_eq_false]
      intro h
      obtain ⟨q, hq, _, h2, h3⟩ := hc
      exact h q i hq hil h2 (Nat.le_refl _) h3
    · rw [if_neg hc]
      congr 1
      rw [decide_eq_decide]
      constructor
      · intro h q p hq hp hqp hip
        rcases Nat.eq_or_lt_of_le hip with rfl | hlt
        · exact fun he => hc ⟨q, hq, Nat.zero_le _, hqp, he⟩
        · exact h q p hq hp hqp hlt
      · intro h q p hq hp hqp hip
        exact h q p hq hp hqp (by omega)
theorem rRight_f (m : Int) (l : List S27) (hl : l.length ≤ 100) (k : Nat) (hk : 20000 ≤ k) : weirkeeperref14_Right.f k m (l.map re) = some (decide (GoodC m l)) := by
  classical
  obtain ⟨k, rfl⟩ : ∃ q, k = q + 1 := ⟨k - 1, by omega⟩
  unfold weirkeeperref14_Right.f
  by_cases h1 : m < 1
  · rw [if_pos h1, weirkeeperref14_Right.j0, if_pos rfl, decide_eq_false (fun h => by have := h.2.1; omega)]
  by_cases h2 : m > 100
  · rw [if_neg h1, if_pos h2, weirkeeperref14_Right.j0, if_pos rfl, decide_eq_false (fun h => by have := h.2.2.1; omega)]
  rw [if_neg h1, if_neg h2, weirkeeperref14_Right.j0, List.length_map]
  by_cases h3 : (l.length : Int) > m
  · rw [if_pos (decide_eq_true h3), decide_eq_false (fun h => by have := h.2.2.2; omega)]
  · rw [if_neg (by simpa using h3), show (0 : Int) = ((0 : Nat) : Int) from rfl, rRight_l0 m (l.map re) (by simpa using hl) l.length k 0 (by simp) (by omega)]
    congr 1
    rw [decide_eq_decide]
    unfold GoodC
    rw [List.Nodup, List.pairwise_iff_getElem]
    constructor
    · intro h
      refine ⟨fun q p hq hp hqp => ?_, by omega, by omega, by omega⟩
      simp only [List.length_map] at hq hp
      have := h q p (by simpa using hq) (by simpa using hp) hqp (Nat.zero_le _)
      simp only [List.getElem_map] at this ⊢
      exact this
    · rintro ⟨h, _⟩ q p hq hp hqp _
      simp only [List.length_map] at hq hp
      have := h q p (by simpa using hq) (by simpa using hp) hqp
      simp only [List.getElem_map] at this ⊢
      exact this
theorem rfirst_l0 (xs : List S33) (hx : xs.length ≤ 1000000) (a : Int) (b : ByteArray) (c : Bool) (d : Nat) : ∀ (k i : Nat) (acc : List S33), xs.length = i + d → d < k → acc.length ≤ i + 1 →
    weirkeeperref14_first.l0 k xs acc (i : Int) a b c = some (acc ++ (xs.drop i).filter fun y => !(y.f0 == a)) := by
  induction d with
  | zero =>
    intro k i acc hi hk ha
    obtain ⟨k, rfl⟩ : ∃ q, k = q + 1 := ⟨k - 1, by omega⟩
    rw [weirkeeperref14_first.l0, if_neg (by omega), List.drop_eq_nil_of_le (by omega)]
    simp
  | succ d ih =>
    intro k i acc hi hk ha
    obtain ⟨k, rfl⟩ : ∃ q, k = q + 1 := ⟨k - 1, by omega⟩
    have hil : i < xs.length := by omega
    rw [weirkeeperref14_first.l0, if_pos (by omega), if_pos (by omega), rd_at33 xs i hil, wrap_succ i (by omega), List.drop_eq_getElem_cons hil, List.filter_cons]
    by_cases h : xs[i].f0 = a
    · rw [if_pos h, ih k (i + 1) acc (by omega) (by omega) (by omega), if_neg (by simp [h])]
    · rw [if_neg h, if_pos (by omega), ih k (i + 1) _ (by omega) (by omega) (by simp; omega), if_pos (by simp [h]), List.append_assoc]
      rfl
theorem rfirst_f (l : List S27) (hl : l.length ≤ 1000000) (x : S27) (k : Nat) (hk : l.length < k) : weirkeeperref14_first.f k (l.map re) (re x).f0 (re x).f1 (re x).f2 = some ((front l x).map re) := by
  unfold weirkeeperref14_first.f
  rw [show (0 : Int) = ((0 : Nat) : Int) from rfl, rfirst_l0 (l.map re) (by simpa using hl) _ _ _ l.length k 0 _ (by simp) hk (by simp), List.drop_zero, List.filter_map]
  rfl
theorem rGet_none (m : Int) (xs : List S33) (hx : xs.length ≤ 100) (a : Int) (ha : ∀ (q : Nat) (h : q < xs.length), xs[q].f0 ≠ a) (d : Nat) : ∀ (k i : Nat), xs.length = i + d → 2 * d + 1 < k →
    weirkeeperref14_Get.l0 k a true (i : Int) m xs = some (m, xs, 0, ⟨#[]⟩, false, false) := by
  induction d with
  | zero =>
    intro k i hi hk
    obtain ⟨k, rfl⟩ : ∃ q, k = q + 2 := ⟨k - 2, by omega⟩
    rw [weirkeeperref14_Get.l0, if_neg (by omega), weirkeeperref14_Get.j1, if_neg (by simp)]
  | succ d ih =>
    intro k i hi hk
    obtain ⟨k, rfl⟩ : ∃ q, k = q + 2 := ⟨k - 2, by omega⟩
    have hil : i < xs.length := by omega
    rw [weirkeeperref14_Get.l0, if_pos (by omega), weirkeeperref14_Get.j1, if_pos rfl, if_pos (by omega), if_pos (by omega), rd_at33 xs i hil, if_neg (ha i hil), wrap_succ i (by omega), ih k (i + 1) (by omega) (by omega)]
theorem rGet_hit (m : Int) (xs : List S33) (hx : xs.length ≤ 100) (a : Int) (j : Nat) (hj : j < xs.length) (hja : xs[j].f0 = a) (ha : ∀ (q : Nat) (h : q < xs.length), q < j → xs[q].f0 ≠ a) (d : Nat) : ∀ (k i : Nat), j = i + d →
    weirkeeperref14_Get.l0 (k + 2 * d + 2) a true (i : Int) m xs = (weirkeeperref14_first.f k xs xs[j].f0 xs[j].f1 xs[j].f2).bind fun t => some (m, t, xs[j].f0, xs[j].f1, xs[j].f2, true) := by
  induction d with
  | zero =>
    intro k i hi
    obtain rfl : j = i := by omega
    rw [show k + 2 * 0 + 2 = (k + 1) + 1 by omega, weirkeeperref14_Get.l0, if_pos (by omega), weirkeeperref14_Get.j1, if_pos rfl, if_pos (by omega), if_pos (by omega), rd_at33 xs j hj, if_pos hja]
  | succ d ih =>
    intro k i hi
    have hil : i < xs.length := by omega
    rw [show k + 2 * (d + 1) + 2 = (k + 2 * d + 2) + 1 + 1 by omega, weirkeeperref14_Get.l0, if_pos (by omega), weirkeeperref14_Get.j1, if_pos rfl, if_pos (by omega), if_pos (by omega), rd_at33 xs i hil, if_neg (ha i hil (by omega)), wrap_succ i (by omega), ih k (i + 1) (by omega)]
theorem rGet_at (m : Int) (l : List S27) (x : S27) (k : Nat) (hg : GoodC m l) (hk : 30000 ≤ k) (hx : x ∈ l) : weirkeeperref14_Get.f k m (l.map re) x.f0 = some (m, (front l x).map re, x.f0, x.f1, x.f2, true) := by
  have hl : l.length ≤ 100 := by have := hg.2.2; omega
  unfold weirkeeperref14_Get.f
  rw [rRight_f m l hl k (by omega), Option.bind_some, decide_eq_true hg]
  obtain ⟨j, hj, rfl⟩ := List.getElem_of_mem hx
  have hjr : (l.map re)[j]'(by simpa using hj) = re l[j] := by simp
  obtain ⟨q, rfl⟩ : ∃ q, k = q + 2 * j + 2 := ⟨k - 2 * j - 2, by omega⟩
  have h := rGet_hit m (l.map re) (by simpa using hl) l[j].f0 j (by simpa using hj) (by simp [re]) (fun q hq hqj => by
    simp only [List.length_map] at hq
    rw [List.getElem_map]
    have hnd := hg.1
    rw [List.Nodup, List.pairwise_iff_getElem] at hnd
    have := hnd q j (by simpa using hq) (by simpa using hj) hqj
    simpa [re] using this) j q 0 (by omega)
  rw [show ((0 : Nat) : Int) = 0 from rfl] at h
  rw [h, hjr, rfirst_f l (by omega) l[j] q (by omega), Option.bind_some]
  rfl
theorem rGet_no (m : Int) (l : List S27) (hl : l.length ≤ 100) (a : Int) (k : Nat) (hk : 30000 ≤ k) (h : GoodC m l → a ∉ l.map (·.f0)) : weirkeeperref14_Get.f k m (l.map re) a = some (m, l.map re, 0, ⟨#[]⟩, false, false) := by
  unfold weirkeeperref14_Get.f
  rw [rRight_f m l hl k (by omega), Option.bind_some]
  by_cases hg : GoodC m l
  · rw [decide_eq_true hg, show (0 : Int) = ((0 : Nat) : Int) from rfl]
    refine rGet_none m (l.map re) (by simpa using hl) a (fun q hq he => h hg ?_) l.length k 0 (by simp) (by omega)
    simp only [List.length_map] at hq
    rw [List.getElem_map] at he
    exact List.mem_map.2 ⟨l[q], List.getElem_mem _, by simpa [re] using he⟩
  · rw [decide_eq_false hg]
    obtain ⟨k, rfl⟩ : ∃ q, k = q + 2 := ⟨k - 2, by omega⟩
    rw [weirkeeperref14_Get.l0]
    split <;> (rw [weirkeeperref14_Get.j1, if_neg (by simp)])
theorem rPut_l0 (m : Int) (items : List S27) (hi : items.length ≤ 60) (d : Nat) : ∀ (k i : Nat) (s : List S27 × List S27), items.length = i + d → 3 * d + 1000 < k → GoodC m s.1 → s.2.length ≤ i →
    weirkeeperref14_Put.l0 k (items.map re) (s.2.map re) (i : Int) m (s.1.map re) = some (m, ((items.drop i).foldl (putStep m) s).1.map re, ((items.drop i).foldl (putStep m) s).2.map re, true) := by
  induction d with
  | zero =>
    intro k i s hd hk hg ho
    obtain ⟨k, rfl⟩ : ∃ q, k = q + 1 := ⟨k - 1, by omega⟩
    rw [weirkeeperref14_Put.l0, if_neg (by simp; omega), List.drop_eq_nil_of_le (by omega)]
    rfl
  | succ d ih =>
    intro k i s hd hk hg ho
    obtain ⟨k, rfl⟩ : ∃ q, k = q + 3 := ⟨k - 3, by omega⟩
    have hil : i < items.length := by omega
    have hlen : s.1.length ≤ 100 := by have := hg.2.2; omega
    have hir : (items.map re)[i]'(by simpa using hil) = re items[i] := by simp
    rw [weirkeeperref14_Put.l0, if_pos (by simp; omega), if_pos (by omega), rd_at33 (items.map re) i (by simpa using hil), hir, rfirst_f s.1 (by omega) items[i] (k + 2) (by omega), Option.bind_some, List.drop_eq_getElem_cons hil, List.foldl_cons]
    have hg2 := putStep_good hg items[i]
    have ho2 := putStep_out (m := m) s items[i]
    have hst := ih k (i + 1) (putStep m s items[i]) (by omega) (by omega) hg2 (by omega)
    have hst1 := ih (k + 1) (i + 1) (putStep m s items[i]) (by omega) (by omega) hg2 (by omega)
    have hfl := front_len_le s.1 items[i]
    have hf0 : 0 < (front s.1 items[i]).length := by simp [front]
    have hm := hg.2.2.2
    clear hg2 ho2
    generalize hF : front s.1 items[i] = F at hfl hf0 ⊢
    have hw : wrap64 ((F.length : Int) - 1) = ((F.length - 1 : Nat) : Int) := by unfold wrap64; omega
    have hne : F ≠ [] := by intro e; rw [e] at hf0; simp at hf0
    have hlast : rd_T33 (F.map re) ((F.length - 1 : Nat) : Int) = re (F.getLast hne) := by
      rw [rd_at33 (F.map re) (F.length - 1) (by simp; omega), List.getElem_map, List.getLast_eq_getElem]
    have hps : putStep m s items[i] = if ((F.length : Nat) : Int) > m then (F.dropLast, s.2 ++ (if (F.getLast hne).f2 = true then [F.getLast hne] else [])) else (F, s.2) := by
      subst hF
      rfl
    rw [weirkeeperref14_Put.l1, List.length_map]
    by_cases hgt : (F.length : Int) > m
    · rw [if_pos hgt] at hps
      have htk : (F.map re).take (F.length - 1) = (F.dropLast).map re := by rw [← List.map_take, List.dropLast_eq_take]
      have hdl : (F.dropLast).length = F.length - 1 := by simp
      rw [if_pos hgt, hw, if_pos (by omega), if_pos (by omega), hlast, Int.toNat_natCast, htk]
      have hlt : ¬ (((F.dropLast).map re).length : Int) > m := by rw [List.length_map, hdl]; omega
      by_cases hd2 : (F.getLast hne).f2 = true
      · rw [if_pos (show (re (F.getLast hne)).f2 = true from hd2), if_pos (by simp; omega), if_pos (by omega), weirkeeperref14_Put.l1, if_neg hlt, wrap_succ i (by omega)]
        rw [if_pos hd2] at hps
        rw [← hst, hps, List.map_append]
        rfl
      · rw [if_neg (show ¬ (re (F.getLast hne)).f2 = true from hd2), if_pos (by omega), weirkeeperref14_Put.l1, if_neg hlt, wrap_succ i (by omega)]
        rw [if_neg hd2, List.append_nil] at hps
        rw [← hst, hps]
    · rw [if_neg hgt] at hps
      rw [if_neg hgt, wrap_succ i (by omega), ← hst1, hps]
theorem rPut_f (m : Int) (l items : List S27) (hl : l.length ≤ 100) (hi : items.length ≤ 60) (k : Nat) (hk : 30000 ≤ k) :
    weirkeeperref14_Put.f k m (l.map re) (items.map re) = if GoodC m l then some (m, (items.foldl (putStep m) (l, [])).1.map re, (items.foldl (putStep m) (l, [])).2.map re, true) else some (m, l.map re, [], false) := by
  unfold weirkeeperref14_Put.f
  rw [rRight_f m l hl k (by omega), Option.bind_some]
  by_cases hg : GoodC m l
  · rw [if_pos (decide_eq_true hg), if_pos hg, show (0 : Int) = ((0 : Nat) : Int) from rfl]
    exact rPut_l0 m items hi items.length k 0 (l, []) (by omega) (by omega) hg (Nat.le_refl _)
  · rw [if_neg (by simpa using hg), if_neg hg]
theorem rClean_l0 (m : Int) (l : List S27) (hl : l.length ≤ 100) (d : Nat) : ∀ (k i : Nat), l.length = i + d → d < k →
    weirkeeperref14_Clean.l0 k (((l.take i).filter (fun x => x.f2)).map re) (((l.take i).map Clean.cl).map re) (i : Int) m (l.map re) = some (m, (l.map Clean.cl).map re, (l.filter (fun x => x.f2)).map re) := by
  induction d with
  | zero =>
    intro k i hi hk
    obtain ⟨k, rfl⟩ : ∃ q, k = q + 1 := ⟨k - 1, by omega⟩
    rw [weirkeeperref14_Clean.l0, if_neg (by simp; omega), List.take_of_length_le (by omega)]
  | succ d ih =>
    intro k i hi hk
    obtain ⟨k, rfl⟩ : ∃ q, k = q + 1 := ⟨k - 1, by omega⟩
    have hil : i < l.length := by omega
    have hir : (l.map re)[i]'(by simpa using hil) = re l[i] := by simp
    have hfl := List.length_filter_le (fun x : S27 => x.f2) (l.take i)
    rw [List.length_take] at hfl
    rw [weirkeeperref14_Clean.l0, if_pos (by simp; omega), if_pos (by omega), rd_at33 (l.map re) i (by simpa using hil), hir, wrap_succ i (by omega)]
    rw [← ih k (i + 1) (by omega) (by omega), List.take_succ_eq_append_getElem hil, List.map_append, List.map_append, List.filter_append, List.map_append]
    by_cases h : l[i].f2 = true
    · rw [if_pos (show (re l[i]).f2 = true from h), if_pos (by simp; omega), if_pos (by simp; omega), List.filter_cons, if_pos h]
      rfl
    · rw [if_neg (show ¬ (re l[i]).f2 = true from h), if_pos (by simp; omega), List.filter_cons, if_neg h, List.filter_nil, List.map_nil, List.append_nil]
      rfl
theorem rClean_f (m : Int) (l : List S27) (hl : l.length ≤ 100) (k : Nat) (hk : 30000 ≤ k) :
    weirkeeperref14_Clean.f k m (l.map re) = if GoodC m l then some (m, (l.map Clean.cl).map re, (l.filter (fun x => x.f2)).map re) else some (m, l.map re, []) := by
  unfold weirkeeperref14_Clean.f
  rw [rRight_f m l hl k (by omega), Option.bind_some]
  by_cases hg : GoodC m l
  · rw [if_pos (decide_eq_true hg), if_pos hg, show (0 : Int) = ((0 : Nat) : Int) from rfl]
    have := rClean_l0 m l hl l.length k 0 (by omega) (by omega)
    simpa using this
  · rw [if_neg (by simpa using hg), if_neg hg]
end Go.Proofs.Ytgjngaeoojcioaa.Pl
namespace Go.Proofs.Ytgjngaeoojcioaa.Pure
open Go Go.RowKit Go.Proofs.Ytgjngaeoojcioaa.X Go.Proofs.Ytgjngaeoojcioaa.Pl Go.Proofs.YtgjngaeoojcioaaW Go.Proofs.YtgjngaeoojcioaaW.PrintWords Go.Proofs.YtgjngaeoojcioaaW.PrintLast Go.Proofs.YtgjngaeoojcioaaW.PrintMore
set_option linter.unusedVariables false
set_option linter.unusedSimpArgs false
theorem made (a : Int) : ∃ mn n kk, cache_New.f a = some (mn, n, kk) ∧ ((kk = 0 ∧ 1 ≤ a ∧ a ≤ 100 ∧ mn = a ∧ n = []) ∨ (kk = 1 ∧ a < 1) ∨ (kk = 1 ∧ 1 ≤ a ∧ 100 < a)) := by
  unfold cache_New.f
  by_cases h1 : a < 1
  · rw [if_pos h1]
    exact ⟨_, _, _, rfl, .inr (.inl ⟨rfl, h1⟩)⟩
  · by_cases h2 : a > 100
    · rw [if_neg h1, if_pos h2]
      exact ⟨_, _, _, rfl, .inr (.inr ⟨rfl, by omega, h2⟩)⟩
    · rw [if_neg h1, if_neg h2]
      exact ⟨_, _, _, rfl, .inl ⟨rfl, by omega, by omega, rfl, rfl⟩⟩
theorem told (m : Int) (l li : List S27) (h1 : l.length ≤ 100) (h2 : li.length ≤ 60) (at_ : Int) (k : Nat) (hk : 40000 ≤ k) :
    ∃ ma mb md mf mg mh mn mr i0 e kk i1 i2 ok may rt a d out gg dirty n b f went h were rc ri ro rd, CTells.Tells k m l at_ li ma mb md mf mg mh mn mr i0 e kk i1 i2 ok may rt a d out gg dirty n b f went h were rc ri ro rd := by
  obtain ⟨mn, n, kk, hn, hmade⟩ := made at_
  have hrefc := ref_f m l (by omega) k (by omega)
  have hrefsi := refs_f li (by omega) k (by omega)
  have hR := Right_f m l (by omega) k (by omega)
  have hrR := rRight_f m l h1 k (by omega)
  have hP := Put_f m l li (by omega) (by omega) k (by omega) (by omega)
  have hrP := rPut_f m l li h1 h2 k (by omega)
  have hrC := rClean_f m l h1 k (by omega)
  have hsl := same_f m l (by omega) k (by omega)
  have hS0 := Same_f [] [] (by simp) k (by simp; omega) rfl
  have hr0 : weirkeeperlaw14_refs.f k [] = some [] := refs_f [] (by simp) k (by simp; omega)
  by_cases hg : GoodC m l
  · rw [if_pos hg] at hP hrP hrC
    have hC := Clean_f m l hg k (by omega)
    obtain ⟨s, hs⟩ : ∃ s, s = li.foldl (putStep m) (l, []) := ⟨_, rfl⟩
    have hgs : GoodC m s.1 := by rw [hs]; exact puts_good li (l, []) hg
    have hls : s.1.length ≤ 100 := by have := hgs.2.2; omega
    have hos : s.2.length ≤ 60 := by rw [hs]; have := puts_len m li (l, []); simp at this; omega
    rw [← hs] at hP hrP
    have hd1 := List.length_filter_le (fun x : S27 => x.f2) l
    have hs2 := same_f m s.1 (by omega) k (by omega)
    have ho := refs_f s.2 (by omega) k (by omega)
    have hoe := Same_f (s.2.map re) (s.2.map re) (by simp; omega) k (by simp; omega) rfl
    have hs3 := same_f m (l.map Clean.cl) (by simp; omega) k (by simp; omega)
    have hd := refs_f (l.filter (fun x => x.f2)) (by omega) k (by omega)
    have hde := Same_f ((l.filter (fun x => x.f2)).map re) ((l.filter (fun x => x.f2)).map re) (by simp only [List.length_map]; omega) k (by simp only [List.length_map]; omega) rfl
    by_cases ha : at_ ∈ l.map (·.f0)
    · obtain ⟨x, hx, rfl⟩ := List.mem_map.1 ha
      have hfl := front_len hg.1 x ha
      exact ⟨m, m, m, m, m, m, mn, m, x.f0, 0, kk, x.f1, x.f2, true, true, decide (GoodC m l), front l x, s.1, s.2, l.map Clean.cl, l.filter (fun x => x.f2), n, (front l x).map re, s.1.map re, s.2.map re, (l.map Clean.cl).map re, (l.filter (fun x => x.f2)).map re, l.map re, li.map re, s.2.map re, (l.filter (fun x => x.f2)).map re,
        ⟨Get_at m l x k hg (by omega) hx, hrefc, rGet_at m l x k hg (by omega) hx, hP, hrefsi, hrP, hC, hrC, same_f m (front l x) (by omega) k (by omega), hR, hrR, hn, hmade, hs2, ho, hoe, .inl ⟨rfl, rfl⟩, hs3, hd, hde⟩⟩
    · exact ⟨m, m, m, m, m, m, mn, m, 0, 0, kk, ⟨#[]⟩, false, false, true, decide (GoodC m l), l, s.1, s.2, l.map Clean.cl, l.filter (fun x => x.f2), n, l.map re, s.1.map re, s.2.map re, (l.map Clean.cl).map re, (l.filter (fun x => x.f2)).map re, l.map re, li.map re, s.2.map re, (l.filter (fun x => x.f2)).map re,
        ⟨Get_none m l at_ k ha, hrefc, rGet_no m l h1 at_ k (by omega) (fun _ => ha), hP, hrefsi, hrP, hC, hrC, hsl, hR, hrR, hn, hmade, hs2, ho, hoe, .inl ⟨rfl, rfl⟩, hs3, hd, hde⟩⟩
  · rw [if_neg hg] at hP hrP hrC
    exact ⟨m, m, m, m, m, m, mn, m, 0, 1, kk, ⟨#[]⟩, false, false, false, decide (GoodC m l), l, l, [], l, [], n, l.map re, l.map re, [], l.map re, [], l.map re, li.map re, [], [],
      ⟨Get_bad m l at_ k (by omega) (by omega) hg, hrefc, rGet_no m l h1 at_ k (by omega) (fun h => absurd h hg), hP, hrefsi, hrP, Clean_bad m l (by omega) hg k (by omega), hrC, hsl, hR, hrR, hn, hmade, hsl, hr0, hS0, .inr ⟨rfl, rfl⟩, hsl, hr0, hS0⟩⟩
theorem CacheTells : weirkeeperlaw14_CacheTells.Pure := by
  intro m l a li _ _ _
  obtain ⟨K, hK⟩ : ∃ K : Nat, K = 50000 := ⟨_, rfl⟩
  unfold weirkeeperlaw14_CacheTells.f
  refine if_pos ⟨K, awake_f K (by omega), ?_⟩
  by_cases h1 : 100 < l.length
  · exact .inl h1
  by_cases h2 : 60 < li.length
  · exact .inr (.inl ⟨by omega, h2⟩)
  · exact .inr (.inr ⟨by omega, by omega, told m l li (by omega) (by omega) a K (by omega)⟩)
end Go.Proofs.Ytgjngaeoojcioaa.Pure
