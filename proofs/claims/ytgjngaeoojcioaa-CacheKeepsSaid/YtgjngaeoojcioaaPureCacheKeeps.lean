/- CacheKeeps, plain: of items that are all Dirty each one is still there, or went, just once. -/
import Derived.Test.YtgjngaeoojcioaaStateCacheKeeps
import Derived.Test.YtgjngaeoojcioaaCacheNew
namespace Go.Proofs.Ytgjngaeoojcioaa.Pure
open Go Go.RowKit Go.Proofs.Ytgjngaeoojcioaa.X Go.Proofs.Ytgjngaeoojcioaa.Pl Go.Proofs.YtgjngaeoojcioaaW Go.Proofs.YtgjngaeoojcioaaW.PrintWords Go.Proofs.YtgjngaeoojcioaaW.PrintLast Go.Proofs.YtgjngaeoojcioaaW.PrintMore
set_option linter.unusedVariables false
set_option linter.unusedSimpArgs false
def dirty (n : Int) : S27 := ⟨n, ⟨#[]⟩, true⟩
theorem rdi_at (l : List Int) (i : Nat) (h : i < l.length) : rd l (i : Int) = l[i] := by
  unfold rd
  rw [Int.toNat_natCast, List.getD_eq_getElem?_getD, List.getElem?_eq_getElem h]
  rfl
theorem eq_27 (x y : S27) : (x.f0 == y.f0 && (x.f1.toList == y.f1.toList && (x.f2 == y.f2))) = true ↔ x = y := by
  obtain ⟨a, b, c⟩ := x
  obtain ⟨a', b', c'⟩ := y
  have hb : b.toList = b'.toList ↔ b = b' := ⟨fun h => toList_inj h, fun h => by rw [h]⟩
  simp only [Bool.and_eq_true, beq_iff_eq, hb, S27.mk.injEq]
open Classical in
/-- How often an item is there. -/
noncomputable def many (x : S27) : List S27 → Nat
  | [] => 0
  | y :: r => (if y = x then 1 else 0) + many x r
theorem many_le (x : S27) : ∀ l : List S27, many x l ≤ l.length
  | [] => Nat.le_refl _
  | y :: r => by
    have := many_le x r
    unfold many
    simp only [List.length_cons]
    split <;> omega
theorem many_none {x : S27} : ∀ {l : List S27}, x ∉ l → many x l = 0
  | [], _ => rfl
  | y :: r, h => by
    rw [List.mem_cons, not_or] at h
    unfold many
    rw [if_neg (fun e => h.1 e.symm), many_none h.2]
theorem many_one {x : S27} : ∀ {l : List S27}, l.Nodup → x ∈ l → many x l = 1
  | [], _, h => by cases h
  | y :: r, hn, h => by
    rw [List.nodup_cons] at hn
    unfold many
    by_cases e : y = x
    · rw [if_pos e, many_none (by rw [← e]; exact hn.1)]
    · rw [if_neg e, many_one hn.2 ((List.mem_cons.1 h).resolve_left (fun h => e h.symm))]
theorem many_append (x : S27) (a b : List S27) : many x (a ++ b) = many x a + many x b := by
  induction a with
  | nil => simp [many]
  | cons y r ih => rw [List.cons_append, many, many, ih]; omega
theorem many_reverse (x : S27) (a : List S27) : many x a.reverse = many x a := by
  induction a with
  | nil => rfl
  | cons y r ih => rw [List.reverse_cons, many_append, ih, many, many, many]; omega
/-- What went, and what is there, is all of it. -/
theorem many_all (x : S27) (p : List S27) (m : Nat) : many x (p.take (p.length - m) ++ p.reverse.take m) = many x p := by
  rw [many_append, List.take_reverse, many_reverse, ← many_append, List.take_append_drop]
theorem keeps_l3 (x6 : Int) (x7 : List S27) (x13 : Int) (seen : List S27) (hs : seen.length ≤ 1000) (x79 : List S27) (x80 x81 : Int) (m : Int) (l : List S27) (m2 : Int) (l2 : List S27) (x : S27) (K : Nat) (h : weirkeeperlaw14_CacheKeeps.l2 K x6 x7 x13 seen x79 x80 (wrap64 (x81 + 1)) m l m2 l2 = some true) (d : Nat) : ∀ (j c : Nat), seen.length = j + d → c ≤ j → c + many x (seen.drop j) = 1 →
    weirkeeperlaw14_CacheKeeps.l3 (d + (K + 1)) x6 x7 x13 seen (c : Int) x79 x80 x81 seen (seen.length : Int) (j : Int) m l m2 l2 x.f0 x.f1 x.f2 = some true := by
  induction d with
  | zero =>
    intro j c hj hc hm
    rw [List.drop_eq_nil_of_le (by omega)] at hm
    have hc1 : c = 1 := by simpa [many] using hm
    subst hc1
    rw [Nat.zero_add, weirkeeperlaw14_CacheKeeps.l3, if_neg (by omega), if_pos (by rfl)]
    exact h
  | succ d ih =>
    intro j c hj hc hm
    have hjl : j < seen.length := by omega
    rw [List.drop_eq_getElem_cons hjl, many] at hm
    rw [show d + 1 + (K + 1) = (d + (K + 1)) + 1 by omega, weirkeeperlaw14_CacheKeeps.l3, if_pos (by omega), if_pos (by omega), if_pos (by omega), rd_at seen j hjl, wrap_succ j (by omega)]
    by_cases e : seen[j] = x
    · rw [if_pos e] at hm
      rw [if_pos ((eq_27 _ _).2 e), wrap_succ c (by omega)]
      exact ih (j + 1) (c + 1) (by omega) (by omega) (by omega)
    · rw [if_neg e] at hm
      rw [if_neg (fun h => e ((eq_27 _ _).1 h))]
      exact ih (j + 1) c (by omega) (by omega) (by omega)
theorem keeps_end (all seen : List S27) (hls : seen.length = all.length) (x79 : List S27) (x80 x81 : Int) (hx : ¬ x81 < x80) (m : Int) (l l2 : List S27) (hg : GoodC m l2) (hd : (l2.filter fun x => x.f2) = []) (hl : l2.length = l.length) (q : Nat) (hq : 200 ≤ q) :
    weirkeeperlaw14_CacheKeeps.l2 (q + 1) 0 all 0 seen x79 x80 x81 m l m l2 = some true := by
  rw [weirkeeperlaw14_CacheKeeps.l2, if_neg hx, Clean_f m l2 hg q (by omega), Option.bind_some, if_pos rfl, if_pos rfl, if_pos (by omega)]
  simp only [hd]
  rw [if_pos (by rfl), if_pos (by omega), awake_f q (by omega)]
  rfl
theorem keeps_l2 (all seen : List S27) (hall : all.length ≤ 60) (hls : seen.length = all.length) (hone : ∀ x ∈ all, many x seen = 1) (m : Int) (l l2 : List S27) (hg : GoodC m l2) (hd : (l2.filter fun x => x.f2) = []) (hl : l2.length = l.length) (d : Nat) : ∀ (i K : Nat), all.length = i + d → d * 100 + 300 ≤ K →
    weirkeeperlaw14_CacheKeeps.l2 K 0 all 0 seen all (all.length : Int) (i : Int) m l m l2 = some true := by
  induction d with
  | zero =>
    intro i K hi hK
    obtain ⟨q, rfl⟩ : ∃ q, K = q + 1 := ⟨K - 1, by omega⟩
    exact keeps_end all seen hls all _ _ (by omega) m l l2 hg hd hl q (by omega)
  | succ d ih =>
    intro i K hi hK
    obtain ⟨q, rfl⟩ : ∃ q, K = (seen.length + (q + 1)) + 1 := ⟨K - seen.length - 2, by omega⟩
    have hil : i < all.length := by omega
    rw [weirkeeperlaw14_CacheKeeps.l2, if_pos (by omega), if_pos (by omega), if_pos (by omega), rd_at all i hil]
    refine keeps_l3 0 all 0 seen (by omega) all _ _ m l m l2 all[i] q ?_ seen.length 0 0 (by omega) (by omega) ?_
    · rw [wrap_succ i (by omega)]
      exact ih (i + 1) q (by omega) (by omega)
    · rw [List.drop_zero, hone _ (List.getElem_mem _)]
theorem keeps_l1 (x1 : List Int) (x6 : Int) (x7 : List S27) (hx7 : x7.length ≤ 60) (x9 : Int) (x36 : List Int) (x37 x38 : Int) (y : List Int) (hy : y.length ≤ 60) (n : Int) (K : Nat) (hK : 12 ≤ K) (h : x9 ∉ y → weirkeeperlaw14_CacheKeeps.l0 K x1 x6 (x7 ++ [dirty x9]) x36 x37 (wrap64 (x38 + 1)) n [] = some true) (d : Nat) : ∀ j : Nat, y.length = j + d → x9 ∉ y.take j →
    weirkeeperlaw14_CacheKeeps.l1 (d + (K + 1)) x1 x6 x7 x9 x36 x37 x38 y (y.length : Int) (j : Int) n [] = some true := by
  induction d with
  | zero =>
    intro j hj hn
    rw [List.take_of_length_le (by omega)] at hn
    rw [Nat.zero_add, weirkeeperlaw14_CacheKeeps.l1, if_neg (by omega), if_pos (by omega)]
    exact h hn
  | succ d ih =>
    intro j hj hn
    have hjl : j < y.length := by omega
    rw [show d + 1 + (K + 1) = (d + (K + 1)) + 1 by omega, weirkeeperlaw14_CacheKeeps.l1, if_pos (by omega), if_pos (by omega), if_pos (by omega), rdi_at y j hjl, wrap_succ j (by omega)]
    by_cases e : x9 = y[j]
    · rw [if_pos e, awake_f _ (by omega)]
      rfl
    · rw [if_neg e]
      refine ih (j + 1) (by omega) ?_
      rw [List.take_succ_eq_append_getElem hjl, List.mem_append]
      rintro (h2 | h2)
      · exact hn h2
      · exact e (by simpa using h2)
theorem dirty_nodup {l : List Int} (h : l.Nodup) : ((l.map dirty).map (·.f0)).Nodup := by
  rw [List.map_map]
  have : (fun x : S27 => x.f0) ∘ dirty = id := rfl
  rw [this, List.map_id]
  exact h
theorem keeps_behind (l1 : List Int) (hl : l1.length ≤ 60) (hn : l1.Nodup) (n : Nat) (h1 : 1 ≤ n) (h2 : n ≤ 20) (x36 : List Int) (x37 x38 : Int) (hx : ¬ x38 < x37) (q : Nat) (hq : 10000 ≤ q) : weirkeeperlaw14_CacheKeeps.l0 (q + 1) l1 0 (l1.map dirty) x36 x37 x38 n [] = some true := by
  have hg := good_nil n h1 h2
  have hlen : (l1.map dirty).length ≤ 60 := by simpa using hl
  have hall : ∀ x ∈ l1.map dirty, x.f2 = true := by
    intro x hx
    obtain ⟨y, _, rfl⟩ := List.mem_map.1 hx
    rfl
  have hp := Put_f n [] (l1.map dirty) (by simp) (by omega) q (by simp; omega) (by omega)
  rw [if_pos hg] at hp
  have hg2 := puts_good (l1.map dirty) ([], []) hg
  have hap := puts_apart n h1 _ (dirty_nodup hn) hall
  rw [hap] at hp hg2
  generalize hA : l1.map dirty = A at *
  have hnd : A.Nodup := by
    rw [← hA]
    have h := dirty_nodup hn
    rw [List.Nodup, List.pairwise_map] at h
    exact h.imp (fun h e => h (by rw [e]))
  rw [weirkeeperlaw14_CacheKeeps.l0, if_neg hx, hp, Option.bind_some]
  simp only []
  have hfil : ((A.reverse.take n).filter fun x => x.f2) = A.reverse.take n := by
    rw [List.filter_eq_self]
    intro x hx
    exact hall x (List.mem_reverse.1 (List.mem_of_mem_take hx))
  rw [Clean_f n _ hg2 q (by omega), Option.bind_some]
  simp only [Option.bind_some, List.nil_append, List.length_nil, hfil]
  have hl1 : (A.take (A.length - n)).length ≤ 60 := by rw [List.length_take]; omega
  have hl2 : (A.reverse.take n).length ≤ 20 := by rw [List.length_take]; omega
  rw [if_pos (by omega), if_pos (by omega)]
  have := keeps_l2 A (A.take (A.length - n) ++ A.reverse.take n) hlen (by rw [List.length_append, List.length_take, List.length_take, List.length_reverse]; omega) (fun x hx => by rw [many_all]; exact many_one hnd hx) n (A.reverse.take n) ((A.reverse.take n).map Clean.cl) (good_cl hg2) (cl_clean _) (by simp) A.length 0 q (by omega) (by omega)
  exact this
theorem keeps_l0 (l1 : List Int) (hl : l1.length ≤ 60) (n : Nat) (h1 : 1 ≤ n) (h2 : n ≤ 20) (d : Nat) : ∀ (i K : Nat), l1.length = i + d → d * 100 + 10001 ≤ K → (l1.take i).Nodup →
    weirkeeperlaw14_CacheKeeps.l0 K l1 0 ((l1.take i).map dirty) l1 (l1.length : Int) (i : Int) n [] = some true := by
  induction d with
  | zero =>
    intro i K hi hK hn
    obtain ⟨q, rfl⟩ : ∃ q, K = q + 1 := ⟨K - 1, by omega⟩
    rw [List.take_of_length_le (by omega)] at hn ⊢
    exact keeps_behind l1 hl hn n h1 h2 _ _ _ (by omega) q (by omega)
  | succ d ih =>
    intro i K hi hK hn
    have hil : i < l1.length := by omega
    have htl : (l1.take i).length = i := List.length_take_of_le (by omega)
    obtain ⟨q, rfl⟩ : ∃ q, K = (i + (q + 1)) + 1 := ⟨K - i - 2, by omega⟩
    rw [weirkeeperlaw14_CacheKeeps.l0, if_pos (by omega), if_pos (by omega), if_pos (by omega), if_pos (by omega), rdi_at l1 i hil, Int.toNat_natCast]
    have hk := keeps_l1 l1 0 ((l1.take i).map dirty) (by simp; omega) l1[i] l1 l1.length i (l1.take i) (by omega) n q (by omega) (fun hni => by
      rw [wrap_succ i (by omega)]
      have h := ih (i + 1) q (by omega) (by omega) (by
        rw [List.take_succ_eq_append_getElem hil, List.nodup_append]
        refine ⟨hn, by simp, fun a ha b hb => ?_⟩
        rw [List.mem_singleton] at hb
        subst hb
        exact fun e => hni (e ▸ ha))
      rw [List.take_succ_eq_append_getElem hil, List.map_append] at h
      exact h) i 0 (by omega) (by simp)
    exact hk
theorem CacheKeeps : weirkeeperlaw14_CacheKeeps.Pure := by
  intro a0 l1 ha _
  obtain ⟨n, hn1, hn2, hn⟩ := most_n (u8_range ha).1
  obtain ⟨K, hK⟩ : ∃ K : Nat, K = 20000 := ⟨_, rfl⟩
  refine ⟨K, ?_⟩
  unfold weirkeeperlaw14_CacheKeeps.f
  by_cases hl : (l1.length : Int) > 60
  · rw [if_pos hl, awake_f K (by omega)]
    rfl
  · rw [if_neg hl, hn, new_fc n (by omega) (by omega), Option.bind_some]
    exact keeps_l0 l1 (by omega) n hn1 hn2 l1.length 0 K (by omega) (by omega) (by simp)
end Go.Proofs.Ytgjngaeoojcioaa.Pure
