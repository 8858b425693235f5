/- TrailParts, plain: what is told in parts, each behind the last one that was told, is what is told at once. -/
import Derived.Test.YtldccimehioakaaStateTrailParts
import Derived.Test.YtldccimehioakaaTrailMore
namespace Go.Proofs.Ytldccimehioakaa.Pure
open Go Go.RowKit Go.Proofs.Ytldccimehioakaa.X Go.Proofs.Ytldccimehioakaa.Pl Go.Proofs.YtldccimehioakaaW Go.Proofs.YtldccimehioakaaW.PrintWords Go.Proofs.YtldccimehioakaaW.PrintLast Go.Proofs.YtldccimehioakaaW.PrintMore
set_option linter.unusedVariables false
set_option linter.unusedSimpArgs false
/-- The last one's Seq, or that one. -/
def lastOr (s : Int) (T : List S30) : Int := match T.getLast? with | some x => x.f0 | none => s
theorem lastOr_snoc (s : Int) (p : List S30) (x : S30) : lastOr s (p ++ [x]) = x.f0 := by
  have h : (p ++ [x]).getLast? = some x := by simp
  unfold lastOr
  rw [h]
/-- What is above the last one of the first ones is what comes behind them. -/
theorem above_drop {l : List S30} (hr : RightP l) (s : Int) (rs : List S35) (i : Nat) : l.filter (above (lastOr s ((l.filter (above s rs)).take i)) rs) = (l.filter (above s rs)).drop i := by
  have hF : RightP (l.filter (above s rs)) := right_sub hr List.filter_sublist
  have hs : ∀ x ∈ l.filter (above s rs), s < x.f0 := by
    intro x hx
    have h := (List.mem_filter.1 hx).2
    unfold above at h
    simp only [Bool.and_eq_true, decide_eq_true_eq] at h
    exact h.1
  have hsplit : (l.filter (above s rs)).take i ++ (l.filter (above s rs)).drop i = l.filter (above s rs) := List.take_append_drop i _
  have hff : ∀ a, s ≤ a → l.filter (above a rs) = (l.filter (above s rs)).filter (fun x => decide (a < x.f0)) := by
    intro a ha
    rw [List.filter_filter]
    apply List.filter_congr
    intro x _
    unfold above
    by_cases h1 : a < x.f0
    · rw [decide_eq_true h1, decide_eq_true (show s < x.f0 by omega)]
      simp
    · rw [decide_eq_false h1]
      simp
  generalize hD : (l.filter (above s rs)).drop i = D at hsplit ⊢
  generalize hT : (l.filter (above s rs)).take i = T at hsplit ⊢
  induction T using snoc_ind with
  | nil =>
    show l.filter (above s rs) = D
    rw [← hsplit]
    rfl
  | snoc p x _ =>
    rw [lastOr_snoc]
    have hx : x ∈ l.filter (above s rs) := by rw [← hsplit]; simp
    have hsx := hs x hx
    rw [hff x.f0 (by omega)]
    have hp : RightP ((p ++ [x]) ++ D) := by rw [hsplit]; exact hF
    have hpw := List.pairwise_append.1 hp.2
    rw [← hsplit, List.filter_append]
    have h1 : (p ++ [x]).filter (fun y => decide (x.f0 < y.f0)) = [] := by
      rw [List.filter_eq_nil_iff]
      intro y hy
      rcases List.mem_append.1 hy with hy | hy
      · have := (List.pairwise_append.1 hpw.1).2.2 y hy x (by simp)
        simp
        omega
      · rw [List.mem_singleton.1 hy]
        simp
    have h2 : D.filter (fun y => decide (x.f0 < y.f0)) = D := by
      rw [List.filter_eq_self]
      intro y hy
      simpa using hpw.2.2 x (by simp) y hy
    rw [h1, h2]
    rfl
theorem parts_told {l : List S30} (hl : l.length ≤ 60) (hr : RightP l) (s : Int) (N : Nat) (hN : 1 ≤ N) (hN2 : N ≤ 20) (r : S35) (k : Nat) (hk : 200 ≤ k) : ∃ AT ALL PJ m E, Parts.Told k l s (N : Int) r AT ALL PJ m E := by
  obtain ⟨F, hF⟩ : ∃ F, F = l.filter (above s [r]) := ⟨_, rfl⟩
  have hFl : F.length ≤ l.length := by rw [hF]; exact List.length_filter_le _ _
  have hsince : ∀ a m, trail_Since.f k l a m [r] = some ((l.filter (above a [r])).take m.toNat) := by
    intro a m
    rw [Since_f l (by omega) a m [r] (by simp) k (by omega) (by simp; omega)]
    unfold sinceB
    rw [if_pos hr]
  have hab : ∀ i, l.filter (above (lastOr s (F.take i)) [r]) = F.drop i := by
    intro i
    rw [hF]
    exact above_drop hr s [r] i
  obtain ⟨m, hm1, hm2⟩ : ∃ m, F.length ≤ N * m ∧ ∀ j, j < m → N * j < F.length := by
    refine ⟨(F.length + N - 1) / N, ?_, fun j hj => ?_⟩
    · have h1 := Nat.div_add_mod (F.length + N - 1) N
      have h2 := Nat.mod_lt (F.length + N - 1) (show N > 0 by omega)
      omega
    · have h1 : (j + 1) * N ≤ F.length + N - 1 := by
        have := Nat.mul_le_of_le_div N (j + 1) (F.length + N - 1) (by omega)
        exact this
      rw [Nat.add_mul, Nat.one_mul, Nat.mul_comm] at h1
      omega
  have hml : m ≤ F.length := by
    rcases Nat.eq_zero_or_pos m with h | h
    · omega
    · have h1 := hm2 (m - 1) (by omega)
      have h2 : m - 1 ≤ N * (m - 1) := Nat.le_mul_of_pos_left _ (by omega)
      omega
  refine ⟨fun j => lastOr s (F.take (N * j)), fun j => F.take (N * j), fun j => (F.drop (N * j)).take N, m, F, ⟨?_, ?_, fun j => ?_, ?_, by omega, fun j hj => ?_, fun j => ?_, ?_, ?_⟩⟩
  · show lastOr s (F.take (N * 0)) = s
    rw [Nat.mul_zero, List.take_zero]
    rfl
  · show F.take (N * 0) = []
    rw [Nat.mul_zero, List.take_zero]
  · show trail_Since.f k l (lastOr s (F.take (N * j))) (N : Int) [r] = _
    rw [hsince, hab, Int.toNat_natCast]
  · show (F.drop (N * m)).take N = []
    rw [List.drop_eq_nil_of_le hm1, List.take_nil]
  · have h1 := hm2 j hj
    have hlen : ((F.drop (N * j)).take N).length = min N (F.length - N * j) := by rw [List.length_take, List.length_drop]
    obtain ⟨q, hq⟩ : ∃ q, min N (F.length - N * j) = q + 1 := ⟨min N (F.length - N * j) - 1, by omega⟩
    refine ⟨q, by rw [hlen, hq], by rw [hlen]; omega, ?_, ?_, ?_⟩
    · show lastOr s (F.take (N * j)) < (rd_T30 ((F.drop (N * j)).take N) (0 : Int)).f0
      have h0 : 0 < ((F.drop (N * j)).take N).length := by rw [hlen]; omega
      have hrd := rdc_at ((F.drop (N * j)).take N) 0 h0
      rw [show ((0 : Nat) : Int) = 0 from rfl] at hrd
      rw [hrd]
      have hmem : ((F.drop (N * j)).take N)[0] ∈ l.filter (above (lastOr s (F.take (N * j))) [r]) := by
        rw [hab]
        exact List.mem_of_mem_take (List.getElem_mem h0)
      have h2 := (List.mem_filter.1 hmem).2
      unfold above at h2
      simp only [Bool.and_eq_true, decide_eq_true_eq] at h2
      exact h2.1
    · show lastOr s (F.take (N * (j + 1))) = (rd_T30 ((F.drop (N * j)).take N) (q : Int)).f0
      have hqi : q < ((F.drop (N * j)).take N).length := by rw [hlen]; omega
      rw [rdc_at _ q hqi, Nat.mul_add, Nat.mul_one, List.take_add]
      generalize (F.drop (N * j)).take N = P at hlen hqi ⊢
      rw [hq] at hlen
      have hP : P = P.take q ++ [P[q]] := by
        rw [← List.take_succ_eq_append_getElem hqi, List.take_of_length_le (by omega)]
      conv => lhs; rw [hP]
      rw [← List.append_assoc, lastOr_snoc]
    · show F.take (N * (j + 1)) = F.take (N * j) ++ (F.drop (N * j)).take N
      rw [Nat.mul_add, Nat.mul_one, List.take_add]
  · show (F.take (N * j)).length + ((F.drop (N * j)).take N).length ≤ 1000000
    rw [List.length_take, List.length_take]
    omega
  · rw [hsince, ← hF, Int.toNat_natCast, List.take_of_length_le hFl]
  · show weirkeeperref13_Same.f k (F.take (N * m)) F = some true
    exact Same_f _ _ (by rw [List.length_take]; omega) k (by rw [List.length_take]; omega) (List.take_of_length_le hm1)
theorem u8_range {n : Int} (h : Open.okInt .u8 n) : 0 ≤ n ∧ n < 256 := by
  unfold Open.okInt at h
  simp [Lit.wf, IntKind.min, IntKind.max, IntKind.signed, IntKind.bits] at h
  omega
theorem TrailParts : weirkeeperlaw16_TrailParts.Pure := by
  intro l s mo r0 r1 r2 _ _ hmo _
  obtain ⟨m0, m1⟩ := u8_range hmo
  obtain ⟨K, hK⟩ : ∃ K : Nat, K = 200 := ⟨_, rfl⟩
  unfold weirkeeperlaw16_TrailParts.f
  refine if_pos ⟨K, awake_f K (by omega), m0, m1, ?_⟩
  obtain ⟨t, ht, hf⟩ := few_f l K (by omega)
  cases t
  · exact .inl ht
  · obtain ⟨hl, _⟩ := hf rfl
    have hR := Right_f l (by omega) K (by omega)
    by_cases hr : RightP l
    · rw [decide_eq_true hr] at hR
      refine .inr (.inr ⟨ht, hR, by omega, ?_⟩)
      obtain ⟨N, hN⟩ : ∃ N : Nat, 1 + mo % 20 = (N : Int) := ⟨(1 + mo % 20).toNat, by omega⟩
      rw [hN]
      exact parts_told hl hr s N (by omega) (by omega) ⟨r0, r1, r2⟩ K (by omega)
    · rw [decide_eq_false hr] at hR
      exact .inr (.inl ⟨ht, hR⟩)
end Go.Proofs.Ytldccimehioakaa.Pure
