/- CacheLast, plain: behind any items a cache has the last ones of unlike numbers, the last one first. -/
import Derived.Test.YtgjngaeoojcioaaStateCacheLast
import Derived.Test.YtgjngaeoojcioaaCacheSame
import Derived.Test.YtgjngaeoojcioaaCacheNew
namespace Go.Proofs.Ytgjngaeoojcioaa.Pure
open Go Go.RowKit Go.Proofs.Ytgjngaeoojcioaa.X Go.Proofs.Ytgjngaeoojcioaa.Pl Go.Proofs.YtgjngaeoojcioaaW Go.Proofs.YtgjngaeoojcioaaW.PrintWords Go.Proofs.YtgjngaeoojcioaaW.PrintLast Go.Proofs.YtgjngaeoojcioaaW.PrintMore
set_option linter.unusedVariables false
set_option linter.unusedSimpArgs false
/-- The items that are wanted, beside those that are there, n at most. -/
def W (n : Nat) : List S27 → List S27 → List S27
  | want, [] => want
  | want, x :: q => if want.length < n then (if x.f0 ∈ want.map (·.f0) then W n want q else W n (want ++ [x]) q) else want
theorem W_eq (n : Nat) (q : List S27) : ∀ want : List S27, want.length ≤ n → W n want q = (want ++ (dd q).filter (fun y => decide (y.f0 ∉ want.map (·.f0)))).take n := by
  induction q with
  | nil => intro want h; simp [W, dd, List.take_of_length_le h]
  | cons x q ih =>
    intro want h
    unfold W dd
    by_cases hlt : want.length < n
    · rw [if_pos hlt]
      by_cases hx : x.f0 ∈ want.map (·.f0)
      · rw [if_pos hx, ih want h, List.filter_cons, if_neg (by simpa using hx), List.filter_filter]
        congr 2
        apply List.filter_congr
        intro y _
        by_cases hy : y.f0 ∈ want.map (·.f0)
        · simp [hy]
        · have : y.f0 ≠ x.f0 := fun e => hy (by rw [e]; exact hx)
          simp [hy, this]
      · rw [if_neg hx, ih (want ++ [x]) (by simp; omega), List.filter_cons, if_pos (by simpa using hx), List.append_assoc, List.singleton_append, List.filter_filter]
        congr 3
        apply List.filter_congr
        intro y _
        simp only [List.map_append, List.mem_append, List.map_cons, List.map_nil, List.mem_singleton]
        by_cases hy : y.f0 ∈ want.map (·.f0) <;> by_cases h2 : y.f0 = x.f0 <;> simp [hy, h2]
    · rw [if_neg hlt, List.take_append_of_le_length (by omega), List.take_of_length_le h]
theorem W_puts (n : Nat) (hn : 1 ≤ n) (p : List S27) : W n [] p.reverse = (p.foldl (putStep n) ([], [])).1 := by
  rw [W_eq n _ [] (by simp), puts_last n hn p]
  simp [List.filter_eq_self.2]
theorem in_l1 (x1 : List S27) (x5 x7 x9 : Int) (want : List S27) (hw : want.length ≤ 1000) (i : Nat) (hi : i < x1.length) (n : Int) (l : List S27) (K : Nat) (d : Nat) : ∀ (j : Nat) (b : Bool), want.length = j + d →
    weirkeeperlaw14_CacheLast.l1 (d + (K + 1)) x1 x5 x7 x9 want (i : Int) b want (want.length : Int) (j : Int) n l = if (b || (want.drop j).any (fun q => q.f0 == x1[i].f0)) = true then weirkeeperlaw14_CacheLast.l0 K x1 x5 x7 x9 want (wrap64 ((i : Int) - 1)) n l else weirkeeperlaw14_CacheLast.l0 K x1 x5 x7 x9 (want ++ [x1[i]]) (wrap64 ((i : Int) - 1)) n l := by
  induction d with
  | zero =>
    intro j b hj
    rw [Nat.zero_add, weirkeeperlaw14_CacheLast.l1, if_neg (by omega), List.drop_eq_nil_of_le (by omega)]
    cases b
    · rw [if_neg (by simp), if_pos (by omega), if_pos (by omega), if_pos (by omega), if_neg (by simp), rd_at x1 i hi]
    · rw [if_pos rfl, if_pos (by simp)]
  | succ d ih =>
    intro j b hj
    have hjl : j < want.length := by omega
    rw [show d + 1 + (K + 1) = (d + (K + 1)) + 1 by omega, weirkeeperlaw14_CacheLast.l1, if_pos (by omega), if_pos (by omega), if_pos (by omega), rd_at want j hjl, wrap_succ j (by omega), List.drop_eq_getElem_cons hjl, List.any_cons]
    cases b
    · rw [if_neg (by simp), if_pos (by omega), if_pos (by omega), ih (j + 1) _ (by omega), rd_at x1 i hi]
      simp
    · rw [if_pos rfl, ih (j + 1) _ (by omega)]
      simp
theorem last_end (items : List S27) (n : Nat) (want l : List S27) (hl : want = l) (hlen : l.length ≤ 100) (m : Int) (q : Nat) (hq : 200 ≤ q) (i : Int) : weirkeeperlaw14_CacheLast.j1 (q + 1) items n 0 0 want i false m l = some true := by
  subst hl
  rw [weirkeeperlaw14_CacheLast.j1, if_neg (by simp), if_pos rfl, if_pos rfl, refs_f want (by omega) q (by omega), Option.bind_some]
  rw [Option.bind_some, Same_f _ _ (by simp; omega) q (by simp; omega) rfl, Option.bind_some, if_pos rfl, awake_f q (by omega)]
  rfl
theorem last_l0 (items : List S27) (hit : items.length ≤ 60) (n : Nat) (hn : n ≤ 20) (l : List S27) (hlen : l.length ≤ 100) (m : Int) (i : Nat) : ∀ (K : Nat) (want : List S27), i ≤ items.length → i * 100 + 300 ≤ K → want.length ≤ n → W n want (items.take i).reverse = l →
    weirkeeperlaw14_CacheLast.l0 K items n 0 0 want ((i : Int) - 1) m l = some true := by
  induction i with
  | zero =>
    intro K want hi hK hw hW
    obtain ⟨q, rfl⟩ : ∃ q, K = q + 2 := ⟨K - 2, by omega⟩
    rw [weirkeeperlaw14_CacheLast.l0, if_neg (by omega)]
    exact last_end items n want l (by simpa [W] using hW) hlen m q (by omega) _
  | succ i ih =>
    intro K want hi hK hw hW
    obtain ⟨q, rfl⟩ : ∃ q, K = q + 2 := ⟨K - 2, by omega⟩
    have hil : i < items.length := by omega
    have hrev : (items.take (i + 1)).reverse = items[i] :: (items.take i).reverse := by rw [List.take_succ_eq_append_getElem hil]; simp
    rw [hrev, W] at hW
    rw [weirkeeperlaw14_CacheLast.l0, if_pos (by omega)]
    by_cases hlt : want.length < n
    · rw [if_pos hlt] at hW
      rw [decide_eq_true (show (want.length : Int) < (n : Int) by omega), weirkeeperlaw14_CacheLast.j1, if_pos rfl]
      obtain ⟨K, rfl⟩ : ∃ K, q = want.length + (K + 1) := ⟨q - want.length - 1, by omega⟩
      have hin := in_l1 items n 0 0 want (by omega) i hil m l K want.length 0 false (by omega)
      have hi1 : ((i + 1 : Nat) : Int) - 1 = (i : Int) := by omega
      have hi2 : wrap64 ((i : Int) - 1) = (i : Int) - 1 := by unfold wrap64; omega
      rw [show ((0 : Nat) : Int) = 0 from rfl] at hin
      rw [hi1, hin, hi2]
      have hany : (false || (want.drop 0).any (fun q => q.f0 == items[i].f0)) = decide (items[i].f0 ∈ want.map (·.f0)) := by
        rw [Bool.eq_iff_iff]
        simp
      rw [hany]
      by_cases hm : items[i].f0 ∈ want.map (·.f0)
      · rw [if_pos hm] at hW
        rw [if_pos (decide_eq_true hm)]
        exact ih K want (by omega) (by omega) hw hW
      · rw [if_neg hm] at hW
        rw [if_neg (by simpa using hm)]
        exact ih K (want ++ [items[i]]) (by omega) (by omega) (by simp; omega) hW
    · rw [if_neg hlt] at hW
      rw [decide_eq_false (show ¬ (want.length : Int) < (n : Int) by omega)]
      exact last_end items n want l hW hlen m q (by omega) _
theorem CacheLast : weirkeeperlaw14_CacheLast.Pure := by
  intro a0 items ha _
  obtain ⟨n, hn1, hn2, hn⟩ := most_n (u8_range ha).1
  obtain ⟨K, hK⟩ : ∃ K : Nat, K = 10000 := ⟨_, rfl⟩
  refine ⟨K, ?_⟩
  unfold weirkeeperlaw14_CacheLast.f
  by_cases hl : (items.length : Int) > 60
  · rw [if_pos hl, awake_f K (by omega)]
    rfl
  · have hg := good_nil n hn1 hn2
    have hg2 := puts_good items ([], []) hg
    have hp := Put_f n [] items (by simp) (by omega) K (by simp; omega) (by omega)
    rw [if_pos hg] at hp
    rw [if_neg hl, hn, new_fc n (by omega) (by omega), Option.bind_some]
    simp only []
    rw [hp, Option.bind_some]
    simp only []
    have hlen : (items.foldl (putStep (n : Int)) ([], [])).1.length ≤ 100 := by have := hg2.2.2; omega
    have h := last_l0 items (by omega) n hn2 _ hlen n items.length K [] (Nat.le_refl _) (by omega) (by simp) (by rw [List.take_length]; exact W_puts n hn1 items)
    rw [show wrap64 ((items.length : Int) - 1) = (items.length : Int) - 1 by unfold wrap64; omega]
    exact h
end Go.Proofs.Ytgjngaeoojcioaa.Pure
