/- CacheUses, plain: an item that was just put, or got, is the first one, and is got again, with the others as they stood. -/
import Derived.Test.YtgjngaeoojcioaaStateCacheUses
import Derived.Test.YtgjngaeoojcioaaCacheSame
namespace Go.Proofs.Ytgjngaeoojcioaa.Pure
open Go Go.RowKit Go.Proofs.Ytgjngaeoojcioaa.X Go.Proofs.Ytgjngaeoojcioaa.Pl Go.Proofs.YtgjngaeoojcioaaW Go.Proofs.YtgjngaeoojcioaaW.PrintWords Go.Proofs.YtgjngaeoojcioaaW.PrintLast Go.Proofs.YtgjngaeoojcioaaW.PrintMore
set_option linter.unusedVariables false
set_option linter.unusedSimpArgs false
theorem put_head {m : Int} (h1 : 1 ≤ m) (l : List S27) (x : S27) : ∃ r, (putStep m (l, []) x).1 = x :: r := by
  unfold putStep
  split
  · rename_i hgt
    have hf : front (l, ([] : List S27)).1 x = x :: l.filter fun y => !(y.f0 == x.f0) := rfl
    show ∃ r, (front (l, ([] : List S27)).1 x).dropLast = x :: r
    rw [hf] at hgt ⊢
    generalize l.filter (fun y => !(y.f0 == x.f0)) = r at hgt ⊢
    cases r with
    | nil => simp at hgt; omega
    | cons y r => exact ⟨_, rfl⟩
  · exact ⟨_, rfl⟩
theorem front_head {x : S27} {r : List S27} (h : ((x :: r).map (·.f0)).Nodup) : front (x :: r) x = x :: r := by
  rw [List.map_cons, List.nodup_cons] at h
  unfold front
  rw [List.filter_cons, if_neg (by simp), filter_ne_self h.1]
theorem get_twice (m : Int) (l : List S27) (a : Int) (k : Nat) (hg : GoodC m l) (hk : 101 ≤ k) : ∃ l2 y0 y1 y2 b, cache_Get.f k m l a = some (m, l2, y0, y1, y2, b) ∧ cache_Get.f k m l2 a = some (m, l2, y0, y1, y2, b) ∧ GoodC m l2 := by
  have hl : l.length ≤ 100 := by have := hg.2.2; omega
  by_cases ha : a ∈ l.map (·.f0)
  · obtain ⟨y, hy, rfl⟩ := List.mem_map.1 ha
    have hg2 := front_good hg y ha
    have hl2 : (front l y).length ≤ 100 := by have := hg2.2.2; omega
    refine ⟨front l y, y.f0, y.f1, y.f2, true, Get_at m l y k hg (by omega) hy, ?_, hg2⟩
    have := Get_at m (front l y) y k hg2 (by omega) (by unfold front; exact List.mem_cons_self)
    rwa [front_front] at this
  · exact ⟨l, 0, ⟨#[]⟩, false, false, Get_none m l a k ha, Get_none m l a k ha, hg⟩
theorem uses_j0 (m : Int) (l : List S27) (x : S27) (a : Int) (b : Bool) (h : b = false → GoodC m l) (k : Nat) (hk : 200 ≤ k) : weirkeeperlaw14_CacheUses.j0 (k + 1) a b m l x.f0 x.f1 x.f2 = some true := by
  rw [weirkeeperlaw14_CacheUses.j0]
  cases b
  · have hg := h rfl
    have hl : l.length ≤ 100 := by have := hg.2.2; omega
    have hg1 := putStep_good (s := (l, [])) hg x
    obtain ⟨r, hr⟩ := put_head hg.2.1 l x
    have hl1 : (putStep m (l, []) x).1.length ≤ 100 := by have := hg1.2.2; omega
    obtain ⟨l2, y0, y1, y2, c, e1, e2, hg2⟩ := get_twice m l a k hg (by omega)
    have hl2 : l2.length ≤ 100 := by have := hg2.2.2; omega
    have hp := Put_f m l [x] (by omega) (by simp) k (by omega) (by simp; omega)
    rw [if_pos hg] at hp
    simp only [List.foldl_cons, List.foldl_nil] at hp
    obtain ⟨st, hst⟩ : ∃ st, st = putStep m (l, []) x := ⟨_, rfl⟩
    rw [← hst] at hp hr hg1 hl1
    have hfh := front_head (x := x) (r := r) (by rw [← hr]; exact hg1.1)
    have hget := Get_at m st.1 x k hg1 (by omega) (by rw [hr]; exact List.mem_cons_self)
    rw [hr, hfh, ← hr] at hget
    have hx : (⟨x.f0, x.f1, x.f2⟩ : S27) = x := rfl
    rw [if_neg (by simp), hx, hp, Option.bind_some]
    simp only []
    rw [hget, Option.bind_some]
    simp only []
    rw [e1, Option.bind_some]
    simp only []
    rw [e2, Option.bind_some, if_pos trivial, if_pos trivial, if_pos (by simp), ref_f m st.1 (by omega) k (by omega), Option.bind_some]
    simp only []
    rw [same_f m st.1 (by omega) k (by omega), Option.bind_some, if_pos rfl, if_pos (by simp), if_pos (by simp), ref_f m l2 (by omega) k (by omega), Option.bind_some]
    simp only []
    rw [same_f m l2 (by omega) k (by omega), Option.bind_some, if_pos rfl, Right_f m st.1 (by omega) k (by omega), Option.bind_some, if_pos (decide_eq_true hg1), awake_f k (by omega)]
    rfl
  · rw [if_pos rfl, awake_f k (by omega)]
    rfl
theorem CacheUses : weirkeeperlaw14_CacheUses.Pure := by
  intro m l x0 x1 x2 a _ _ _
  obtain ⟨K, hK⟩ : ∃ K : Nat, K = 200 := ⟨_, rfl⟩
  refine ⟨K + 1, ?_⟩
  unfold weirkeeperlaw14_CacheUses.f
  by_cases hl : (l.length : Int) > 100
  · rw [if_pos hl]
    exact uses_j0 m l ⟨x0, x1, x2⟩ a true (by simp) K (by omega)
  · rw [if_neg hl, Right_f m l (by omega) (K + 1) (by omega), Option.bind_some]
    exact uses_j0 m l ⟨x0, x1, x2⟩ a _ (fun h => by simpa using h) K (by omega)
end Go.Proofs.Ytgjngaeoojcioaa.Pure
