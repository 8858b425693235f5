/- CacheMost, plain: a cache that began empty has as many items as there were unlike numbers, but Most at most. -/
import Derived.Test.YtgjngaeoojcioaaStateCacheMost
import Derived.Test.YtgjngaeoojcioaaCache
namespace Go.Proofs.Ytgjngaeoojcioaa.Pure
open Go Go.RowKit Go.Proofs.Ytgjngaeoojcioaa.X Go.Proofs.Ytgjngaeoojcioaa.Pl Go.Proofs.YtgjngaeoojcioaaW Go.Proofs.YtgjngaeoojcioaaW.PrintWords Go.Proofs.YtgjngaeoojcioaaW.PrintLast Go.Proofs.YtgjngaeoojcioaaW.PrintMore
set_option linter.unusedVariables false
set_option linter.unusedSimpArgs false
/-- How many unlike numbers the first i items have. -/
def cnt (l : List S27) : Nat → Nat
  | 0 => 0
  | i + 1 => cnt l i + if (l.getD i z27).f0 ∈ (l.take i).map (·.f0) then 0 else 1
theorem cnt_le (l : List S27) : ∀ i, cnt l i ≤ i
  | 0 => Nat.le_refl _
  | i + 1 => by
    have := cnt_le l i
    unfold cnt
    split <;> omega
theorem again_l1 (x1 : List S27) (x5 x7 x8 : Int) (x30 : List S27) (x31 x32 : Int) (y : List S27) (hy : y.length ≤ 1000) (m : Int) (l : List S27) (a : Int) (b : ByteArray) (c : Bool) (k : Nat) (d : Nat) : ∀ (j : Nat) (ag : Bool), y.length = j + d →
    weirkeeperlaw14_CacheMost.l1 (d + (k + 1)) x1 x5 x7 x8 ag x30 x31 x32 y (y.length : Int) (j : Int) m l a b c = weirkeeperlaw14_CacheMost.j2 k x1 x5 x7 (if (ag || (y.drop j).any (fun q => a == q.f0)) = true then x8 else wrap64 (x8 + 1)) (ag || (y.drop j).any (fun q => a == q.f0)) x30 x31 x32 m l a b c := by
  induction d with
  | zero =>
    intro j ag hj
    rw [Nat.zero_add, weirkeeperlaw14_CacheMost.l1, if_neg (by omega), List.drop_eq_nil_of_le (by omega)]
    cases ag <;> simp
  | succ d ih =>
    intro j ag hj
    have hjl : j < y.length := by omega
    rw [show d + 1 + (k + 1) = (d + (k + 1)) + 1 by omega, weirkeeperlaw14_CacheMost.l1, if_pos (by omega), if_pos (by omega), if_pos (by omega), rd_at y j hjl, wrap_succ j (by omega), List.drop_eq_getElem_cons hjl, List.any_cons]
    cases ag
    · rw [if_neg (by simp), ih (j + 1) _ (by omega)]
      simp
    · rw [if_pos rfl, ih (j + 1) _ (by omega)]
      simp
theorem new_f (n : Int) (h1 : 1 ≤ n) (h2 : n ≤ 100) : cache_New.f n = some (n, [], 0) := by
  unfold cache_New.f
  rw [if_neg (by omega), if_neg (by omega)]
/-- What holds of a cache behind the first i items. -/
structure Inv (n : Nat) (items : List S27) (i : Nat) (l : List S27) : Prop where
  good : GoodC n l
  sub : ∀ a, a ∈ l.map (·.f0) → a ∈ (items.take i).map (·.f0)
  len : l.length = min n (cnt items i)
  all : (∀ a, a ∈ (items.take i).map (·.f0) → a ∈ l.map (·.f0)) ∨ l.length = n
theorem keys_take (items : List S27) (i : Nat) (h : i < items.length) (a : Int) : a ∈ (items.take (i + 1)).map (·.f0) ↔ a ∈ (items.take i).map (·.f0) ∨ a = items[i].f0 := by
  rw [List.take_succ_eq_append_getElem h, List.map_append, List.mem_append]
  simp
theorem cnt_succ (items : List S27) (i : Nat) (h : i < items.length) : cnt items (i + 1) = cnt items i + if items[i].f0 ∈ (items.take i).map (·.f0) then 0 else 1 := by
  rw [cnt, List.getD_eq_getElem?_getD, List.getElem?_eq_getElem h]
  rfl
theorem key_front (l : List S27) (x : S27) (a : Int) : a ∈ (front l x).map (·.f0) ↔ a = x.f0 ∨ a ∈ l.map (·.f0) := by
  unfold front
  rw [List.map_cons, List.mem_cons]
  constructor
  · rintro (h | h)
    · exact .inl h
    · rw [List.mem_map] at h
      obtain ⟨y, hy, rfl⟩ := h
      exact .inr (List.mem_map_of_mem (List.mem_filter.1 hy).1)
  · rintro (h | h)
    · exact .inl h
    · by_cases he : a = x.f0
      · exact .inl he
      · rw [List.mem_map] at h
        obtain ⟨y, hy, rfl⟩ := h
        exact .inr (List.mem_map_of_mem (List.mem_filter.2 ⟨hy, by simpa using he⟩))
theorem inv_step {n : Nat} {items : List S27} {i : Nat} {l : List S27} (h : Inv n items i l) (hi : i < items.length) (hn : 1 ≤ n) (o : List S27) : Inv n items (i + 1) (putStep n (l, o) items[i]).1 := by
  have hg := putStep_good (s := (l, o)) h.good items[i]
  have hln : l.length ≤ n := by have := h.good.2.2.2; omega
  have hc := cnt_succ items i hi
  have hlen := h.len
  by_cases hx : items[i].f0 ∈ l.map (·.f0)
  · have hfl := front_len h.good.1 items[i] hx
    have hst : (putStep n (l, o) items[i]).1 = front l items[i] := by
      unfold putStep
      rw [if_neg (by show ¬ ((front l items[i]).length : Int) > n; omega)]
    rw [if_pos (h.sub _ hx)] at hc
    rw [hst] at hg ⊢
    refine ⟨hg, fun a ha => ?_, by rw [hfl, hc]; exact hlen, ?_⟩
    · rw [keys_take items i hi]
      rcases (key_front l _ a).1 ha with h2 | h2
      · exact .inr h2
      · exact .inl (h.sub a h2)
    · rcases h.all with h2 | h2
      · refine .inl (fun a ha => ?_)
        rw [key_front]
        rcases (keys_take items i hi a).1 ha with h3 | h3
        · exact .inr (h2 a h3)
        · exact .inl h3
      · exact .inr (by rw [hfl]; exact h2)
  · have hfr := front_none items[i] hx
    by_cases hgt : l.length = n
    · have hst : (putStep n (l, o) items[i]).1 = (items[i] :: l).dropLast := by
        unfold putStep
        rw [if_pos (by show ((front l items[i]).length : Int) > n; rw [hfr]; simp; omega)]
        show (front l items[i]).dropLast = _
        rw [hfr]
      rw [hst] at hg ⊢
      have hl2 : (items[i] :: l).dropLast.length = n := by simp; omega
      refine ⟨hg, fun a ha => ?_, by rw [hl2, hc]; omega, .inr hl2⟩
      rw [keys_take items i hi]
      have h2 : a ∈ (items[i] :: l).map (·.f0) := ((List.dropLast_sublist _).map _).subset ha
      rw [List.map_cons, List.mem_cons] at h2
      rcases h2 with h2 | h2
      · exact .inr h2
      · exact .inl (h.sub a h2)
    · have hst : (putStep n (l, o) items[i]).1 = items[i] :: l := by
        unfold putStep
        rw [if_neg (by show ¬ ((front l items[i]).length : Int) > n; rw [hfr]; simp; omega)]
        exact hfr
      have hall := h.all.resolve_right hgt
      rw [if_neg (fun e => hx (hall _ e))] at hc
      rw [hst] at hg ⊢
      refine ⟨hg, fun a ha => ?_, by rw [hc]; simp; omega, .inl (fun a ha => ?_)⟩
      · rw [keys_take items i hi]
        rw [List.map_cons, List.mem_cons] at ha
        rcases ha with h2 | h2
        · exact .inr h2
        · exact .inl (h.sub a h2)
      · rw [List.map_cons, List.mem_cons]
        rcases (keys_take items i hi a).1 ha with h3 | h3
        · exact .inr (hall a h3)
        · exact .inl h3
theorem mn_eq {n c L : Nat} (h : L = min n c) : (L : Int) = mn (n : Int) (c : Int) := by
  unfold mn
  split <;> omega
theorem gt_no {L n : Nat} (h : (L : Int) ≤ n) : ¬ (L : Int) > n := by omega
theorem gt_one {L : Nat} (h : L ≤ 1) : ¬ (L : Int) > 1 := by omega
theorem most_l0 (n : Nat) (hn : 1 ≤ n) (hn2 : n ≤ 20) (items : List S27) (hl : items.length ≤ 60) (d : Nat) : ∀ (k i : Nat) (l : List S27), items.length = i + d → 200 + d * 70 ≤ k → Inv n items i l →
    weirkeeperlaw14_CacheMost.l0 k items (n : Int) 0 (cnt items i : Int) items (items.length : Int) (i : Int) (n : Int) l = some true := by
  induction d with
  | zero =>
    intro k i l hi hk h
    obtain ⟨k, rfl⟩ : ∃ q, k = q + 1 := ⟨k - 1, by omega⟩
    have hlen := h.len
    rw [weirkeeperlaw14_CacheMost.l0, if_neg (by omega), if_pos rfl, if_pos (mn_eq hlen), awake_f k (by omega)]
    rfl
  | succ d ih =>
    intro k i l hi hk h
    have hil : i < items.length := by omega
    obtain ⟨q, rfl⟩ : ∃ q, k = (i + ((q + 1) + 1)) + 1 := ⟨k - i - 3, by omega⟩
    have hln : l.length ≤ 20 := by have := h.good.2.2.2; omega
    have hty : (items.take i).length = i := by rw [List.length_take]; omega
    have hcl := cnt_le items i
    rw [weirkeeperlaw14_CacheMost.l0, if_pos (by omega), if_pos (by omega), if_pos (by omega), if_pos (by omega), Option.bind_some, Int.toNat_natCast]
    have hag := again_l1 items n 0 (cnt items i) items items.length i (items.take i) (by omega) n l (rd_T27 items i).f0 (rd_T27 items i).f1 (rd_T27 items i).f2 (q + 1) i 0 false (by omega)
    simp only [List.drop_zero, Bool.false_or] at hag
    rw [show ((0 : Nat) : Int) = 0 from rfl] at hag
    rw [hag, rd_at items i hil, weirkeeperlaw14_CacheMost.j2, Put_f n l [items[i]] (by omega) (by simp) q (by omega) (by simp; omega), if_pos h.good, Option.bind_some]
    have hs := inv_step h hil hn []
    have ho := putStep_out (m := (n : Int)) (l, []) items[i]
    have hc := cnt_succ items i hil
    simp only [List.foldl_cons, List.foldl_nil]
    obtain ⟨st, hst⟩ : ∃ st, st = putStep (n : Int) (l, []) items[i] := ⟨_, rfl⟩
    rw [← hst] at hs ho
    simp only [← hst]
    have hsl : st.1.length ≤ 20 := by have := hs.good.2.2.2; omega
    have hlen := hs.len
    have hgl := hs.good.2.2.2
    have ho' : st.2.length ≤ 1 := ho
    have hany : (items.take i).any (fun q => items[i].f0 == q.f0) = decide (items[i].f0 ∈ (items.take i).map (·.f0)) := by
      rw [Bool.eq_iff_iff]
      simp only [List.any_eq_true, decide_eq_true_eq, List.mem_map, beq_iff_eq]
      constructor
      · rintro ⟨y, hy, he⟩
        exact ⟨y, hy, he.symm⟩
      · rintro ⟨y, hy, he⟩
        exact ⟨y, hy, he.symm⟩
    rw [hany, if_pos trivial, Right_f n st.1 (by omega) q (by omega), Option.bind_some, if_pos (decide_eq_true hs.good)]
    have hcnt : (if decide (items[i].f0 ∈ (items.take i).map (·.f0)) = true then (cnt items i : Int) else wrap64 ((cnt items i : Int) + 1)) = (cnt items (i + 1) : Int) := by
      rw [hc]
      by_cases hm : items[i].f0 ∈ (items.take i).map (·.f0)
      · rw [if_pos (decide_eq_true hm), if_pos hm]
        rfl
      · rw [if_neg (by simpa using hm), if_neg hm, wrap_succ _ (by omega)]
    rw [hcnt, if_pos (mn_eq hlen), if_neg (gt_no hgl), if_neg (gt_one ho'), wrap_succ i (by omega)]
    exact ih q (i + 1) st.1 (by omega) (by omega) hs
theorem CacheMost : weirkeeperlaw14_CacheMost.Pure := by
  intro a0 items ha _
  have h0 : 0 ≤ a0 ∧ a0 < 256 := by
    unfold Open.okInt at ha
    simp [Lit.wf, IntKind.min, IntKind.max, IntKind.signed, IntKind.bits] at ha
    omega
  obtain ⟨K, hK⟩ : ∃ K : Nat, K = 10000 := ⟨_, rfl⟩
  refine ⟨K, ?_⟩
  unfold weirkeeperlaw14_CacheMost.f
  by_cases hl : (items.length : Int) > 60
  · rw [if_pos hl, awake_f K (by omega)]
    rfl
  · obtain ⟨n, hn1, hn2, hn⟩ : ∃ n : Nat, 1 ≤ n ∧ n ≤ 20 ∧ wrap64 (1 + wrap64 (Int.tmod a0 20)) = (n : Int) := by
      refine ⟨1 + (a0 % 20).toNat, by omega, by omega, ?_⟩
      rw [Int.tmod_eq_emod_of_nonneg h0.1]
      unfold wrap64
      omega
    have h := most_l0 n hn1 hn2 items (by omega) items.length K 0 [] (by omega) (by omega) ⟨⟨by simp, by omega, by omega, by simp⟩, by simp, by simp [cnt], .inl (by simp)⟩
    rw [show (cnt items 0 : Int) = 0 from rfl, show ((0 : Nat) : Int) = 0 from rfl] at h
    rw [if_neg hl, hn, new_f n (by omega) (by omega), Option.bind_some]
    exact h
end Go.Proofs.Ytgjngaeoojcioaa.Pure
