/- CacheParts, plain: two puts one behind the other are one of all the items; what is got changes the order alone. -/
import Derived.Test.YtgjngaeoojcioaaStateCacheParts
import Derived.Test.YtgjngaeoojcioaaCacheFold
import Derived.Test.YtgjngaeoojcioaaCacheSame
namespace Go.Proofs.Ytgjngaeoojcioaa.Pure
open Go Go.RowKit Go.Proofs.Ytgjngaeoojcioaa.X Go.Proofs.Ytgjngaeoojcioaa.Pl Go.Proofs.YtgjngaeoojcioaaW Go.Proofs.YtgjngaeoojcioaaW.PrintWords Go.Proofs.YtgjngaeoojcioaaW.PrintLast Go.Proofs.YtgjngaeoojcioaaW.PrintMore
set_option linter.unusedVariables false
set_option linter.unusedSimpArgs false
theorem parts_all {m : Int} {l : List S27} (hg : GoodC m l) (la lb : List S27) (h2 : la.length ≤ 30) (h3 : lb.length ≤ 30) (at_ : Int) (k : Nat) (hk : 200 ≤ k) :
    ∃ m1 m2 my mz e1 i0 i1 i2 ok x1 out x2 more y all z mr ry ro ra, CParts.Parts k m l la lb at_ m1 m2 my mz e1 i0 i1 i2 ok x1 out x2 more y all z mr ry ro ra := by
  have hl : l.length ≤ 100 := by have := hg.2.2; omega
  obtain ⟨sA, hA⟩ : ∃ s, s = la.foldl (putStep m) (l, []) := ⟨_, rfl⟩
  have hgA : GoodC m sA.1 := by rw [hA]; exact puts_good la (l, []) hg
  have hlA : sA.1.length ≤ 100 := by have := hgA.2.2; omega
  have hoA : sA.2.length ≤ 30 := by rw [hA]; have := puts_len m la (l, []); simp at this; omega
  obtain ⟨sB, hB⟩ : ∃ s, s = lb.foldl (putStep m) (sA.1, []) := ⟨_, rfl⟩
  have hgB : GoodC m sB.1 := by rw [hB]; exact puts_good lb (sA.1, []) hgA
  have hlB : sB.1.length ≤ 100 := by have := hgB.2.2; omega
  have hoB : sB.2.length ≤ 30 := by rw [hB]; have := puts_len m lb (sA.1, []); simp at this; omega
  have p1 : cache_Put.f k m l la = some (m, sA.1, sA.2, 0) := by rw [Put_f m l la (by omega) (by omega) k (by omega) (by omega), if_pos hg, ← hA]
  have p2 : cache_Put.f k m sA.1 lb = some (m, sB.1, sB.2, 0) := by rw [Put_f m sA.1 lb (by omega) (by omega) k (by omega) (by omega), if_pos hgA, ← hB]
  have p3 : cache_Put.f k m l (la ++ lb) = some (m, sB.1, sA.2 ++ sB.2, 0) := by
    rw [Put_f m l (la ++ lb) (by omega) (by simp; omega) k (by omega) (by simp; omega), if_pos hg, puts_append m la lb l, ← hA, ← hB]
  have hrefs := refs_f (sA.2 ++ sB.2) (by simp; omega) k (by simp; omega)
  have hsame := Same_f ((sA.2 ++ sB.2).map re) ((sA.2 ++ sB.2).map re) (by simp; omega) k (by simp; omega) rfl
  have hrefy := ref_f m sB.1 (by omega) k (by omega)
  have hsm := same_f m sB.1 (by omega) k (by omega)
  by_cases ha : at_ ∈ l.map (·.f0)
  · obtain ⟨x, hx, rfl⟩ := List.mem_map.1 ha
    have hfl := front_len hg.1 x ha
    have hgz := front_good hg x ha
    refine ⟨m, m, m, m, 0, x.f0, x.f1, x.f2, true, sA.1, sA.2, sB.1, sB.2, sB.1, sA.2 ++ sB.2, front l x, m, sB.1.map re, (sA.2 ++ sB.2).map re, (sA.2 ++ sB.2).map re, ?_⟩
    exact ⟨p1, p2, p3, Get_at m l x k hg (by omega) hx, by rw [Right_f m (front l x) (by omega) k (by omega), decide_eq_true hgz], fun _ => ⟨hfl, by simp [front], rfl, rfl⟩, fun h => (by cases h), hrefy, hsm, hrefs, hrefs, hsame, by omega⟩
  · refine ⟨m, m, m, m, 0, 0, ⟨#[]⟩, false, false, sA.1, sA.2, sB.1, sB.2, sB.1, sA.2 ++ sB.2, l, m, sB.1.map re, (sA.2 ++ sB.2).map re, (sA.2 ++ sB.2).map re, ?_⟩
    exact ⟨p1, p2, p3, Get_none m l at_ k ha, by rw [Right_f m l (by omega) k (by omega), decide_eq_true hg], fun h => (by cases h), fun _ => ⟨m, l.map re, ref_f m l (by omega) k (by omega), same_f m l (by omega) k (by omega)⟩, hrefy, hsm, hrefs, hrefs, hsame, by omega⟩
theorem CacheParts : weirkeeperlaw14_CacheParts.Pure := by
  intro m l la lb a _ _ _ _
  obtain ⟨K, hK⟩ : ∃ K : Nat, K = 200 := ⟨_, rfl⟩
  unfold weirkeeperlaw14_CacheParts.f
  refine if_pos ⟨K, awake_f K (by omega), ?_⟩
  by_cases h1 : 100 < l.length
  · exact .inl h1
  by_cases h2 : 30 < la.length
  · exact .inr (.inl ⟨by omega, h2⟩)
  by_cases h3 : 30 < lb.length
  · exact .inr (.inr (.inl ⟨by omega, by omega, h3⟩))
  have hR := Right_f m l (by omega) K (by omega)
  by_cases hg : GoodC m l
  · rw [decide_eq_true hg] at hR
    exact .inr (.inr (.inr (.inr ⟨by omega, by omega, by omega, hR, parts_all hg la lb (by omega) (by omega) a K (by omega)⟩)))
  · rw [decide_eq_false hg] at hR
    exact .inr (.inr (.inr (.inl ⟨by omega, by omega, by omega, hR⟩)))
end Go.Proofs.Ytgjngaeoojcioaa.Pure
