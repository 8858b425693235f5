/- What New, Clean and the laws' own numbers answer, plain. -/
import Derived.Test.YtgjngaeoojcioaaCacheFold
import Derived.Test.YtgjngaeoojcioaaXopen
namespace Go.Proofs.Ytgjngaeoojcioaa.Pl
open Go Go.RowKit Go.Proofs.Ytgjngaeoojcioaa.X Go.Proofs.YtgjngaeoojcioaaW Go.Proofs.YtgjngaeoojcioaaW.PrintWords Go.Proofs.YtgjngaeoojcioaaW.PrintLast Go.Proofs.YtgjngaeoojcioaaW.PrintMore
set_option linter.unusedVariables false
set_option linter.unusedSimpArgs false
theorem new_fc (n : Int) (h1 : 1 ≤ n) (h2 : n ≤ 100) : cache_New.f n = some (n, [], 0) := by
  unfold cache_New.f
  rw [if_neg (by omega), if_neg (by omega)]
theorem u8_range {a : Int} (ha : Open.okInt .u8 a) : 0 ≤ a ∧ a < 256 := by
  unfold Open.okInt at ha
  simp [Lit.wf, IntKind.min, IntKind.max, IntKind.signed, IntKind.bits] at ha
  omega
theorem most_n {a0 : Int} (h0 : 0 ≤ a0) : ∃ n : Nat, 1 ≤ n ∧ n ≤ 20 ∧ wrap64 (1 + wrap64 (Int.tmod a0 20)) = (n : Int) := by
  refine ⟨1 + (a0 % 20).toNat, by omega, by omega, ?_⟩
  rw [Int.tmod_eq_emod_of_nonneg h0]
  unfold wrap64
  omega
theorem good_nil (n : Nat) (h1 : 1 ≤ n) (h2 : n ≤ 20) : GoodC n [] := ⟨by simp, by omega, by omega, by simp⟩
theorem cl_keys (l : List S27) : (l.map Clean.cl).map (·.f0) = l.map (·.f0) := by
  rw [List.map_map]
  rfl
theorem good_cl {m : Int} {l : List S27} (h : GoodC m l) : GoodC m (l.map Clean.cl) := by
  unfold GoodC at h ⊢
  rw [cl_keys, List.length_map]
  exact h
theorem Clean_f (m : Int) (l : List S27) (hg : GoodC m l) (k : Nat) (hk : 101 ≤ k) : cache_Clean.f k m l = some (m, l.map Clean.cl, l.filter (fun x => x.f2)) := by
  have hl : l.length ≤ 100 := by have := hg.2.2; omega
  unfold cache_Clean.f
  rw [Right_f m l (by omega) k (by omega), Option.bind_some, decide_eq_true hg, if_pos rfl, if_pos (by omega)]
theorem Clean_bad (m : Int) (l : List S27) (hl : l.length ≤ 1000000) (hg : ¬ GoodC m l) (k : Nat) (hk : l.length < k) : cache_Clean.f k m l = some (m, l, []) := by
  unfold cache_Clean.f
  rw [Right_f m l hl k hk, Option.bind_some, decide_eq_false hg, if_neg (by simp)]
theorem cl_clean (l : List S27) : ((l.map Clean.cl).filter fun x => x.f2) = [] := by
  rw [List.filter_eq_nil_iff]
  intro x hx
  obtain ⟨y, _, rfl⟩ := List.mem_map.1 hx
  simp [Clean.cl]
end Go.Proofs.Ytgjngaeoojcioaa.Pl
