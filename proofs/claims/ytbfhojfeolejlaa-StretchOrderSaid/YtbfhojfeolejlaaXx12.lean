-- Written by a program of this session (wip/tools/xprint.py) out of the translation. Not trusted: Lean checks it.
import Derived.Test.YtbfhojfeolejlaaXx0
import Derived.Test.YtbfhojfeolejlaaXx1
import Derived.Test.YtbfhojfeolejlaaXx3
namespace Go.Proofs.Ytbfhojfeolejlaa.X
open Go.RowKit Go.Proofs.YtbfhojfeolejlaaW.PrintWords Go.Proofs.YtbfhojfeolejlaaW.PrintLast Go.Proofs.YtbfhojfeolejlaaW.PrintMore
attribute [local go_sem] max2_int min2_int max_two min_two max_three min_three max_four min_four max2_str min2_str   -- for this text's walks alone
set_option linter.unusedVariables false
set_option linter.unusedSimpArgs false

attribute [local go_sem high] eqA25
/-! ### weirkeeperlaw03_StretchOrder: function 6 -/
mutual
def weirkeeperlaw03_StretchOrder.j0 : Nat → List (S25) → Int → Bool → Option (Bool)
  | 0, _, _, _ => none
  | k + 1, x0, x1, x16 => if x16 = true then ((weirkeeperlaw03_awake.f k).bind fun t376 => (some t376)) else (weirkeeperlaw03_StretchOrder.l0 k x0 x1 ([] : List (S25)) x0 (x0.length : Int) 0)
def weirkeeperlaw03_StretchOrder.l0 : Nat → List (S25) → Int → List (S25) → List (S25) → Int → Int → Option (Bool)
  | 0, _, _, _, _, _, _ => none
  | k + 1, x0, x1, x5, x18, x19, x20 => if x20 < x19 then (if 0 ≤ x20 then (if x20 < (x18.length : Int) then ((weirkeeperlaw03_small.f ((rd_T25 x18 x20).f0) ((rd_T25 x18 x20).f1) ((rd_T25 x18 x20).f2)).bind fun t379 => (if t379 = true then (if (x0.length : Int) = 0 then (none) else (if 0 ≤ (Int.tmod (wrap64 ((wrap64 ((x0.length : Int) - x20)) + (wrap64 (x1)))) (x0.length : Int)) then (if (Int.tmod (wrap64 ((wrap64 ((x0.length : Int) - x20)) + (wrap64 (x1)))) (x0.length : Int)) < (x0.length : Int) then (if x5.length < 3518437208883 then (weirkeeperlaw03_StretchOrder.l0 k x0 x1 (x5 ++ [(⟨(rd_T25 x0 (Int.tmod (wrap64 ((wrap64 ((x0.length : Int) - x20)) + (wrap64 (x1)))) (x0.length : Int))).f0, (rd_T25 x0 (Int.tmod (wrap64 ((wrap64 ((x0.length : Int) - x20)) + (wrap64 (x1)))) (x0.length : Int))).f1, (rd_T25 x0 (Int.tmod (wrap64 ((wrap64 ((x0.length : Int) - x20)) + (wrap64 (x1)))) (x0.length : Int))).f2⟩ : S25)]) x18 x19 (wrap64 (x20 + 1))) else (none)) else (none)) else (none))) else ((weirkeeperlaw03_awake.f k).bind fun t384 => (some t384)))) else (none)) else (none)) else ((stretch_Meet.f k x0).bind fun bt385 => ((stretch_Meet.f k x5).bind fun bt389 => (if (bt389.1.toList == bt385.1.toList && (bt389.2.1.toList == bt385.2.1.toList && (bt389.2.2 == bt385.2.2))) = true then (if 0 < (x0.length : Int) then (if x5.length < 3518437208883 then ((stretch_Meet.f k (x5 ++ [(⟨(rd_T25 x0 0).f0, (rd_T25 x0 0).f1, (rd_T25 x0 0).f2⟩ : S25)])).bind fun bt396 => (if (bt396.1.toList == bt385.1.toList && (bt396.2.1.toList == bt385.2.1.toList && (bt396.2.2 == bt385.2.2))) = true then ((stretch_Meet.f k (([(⟨bt385.1, bt385.2.1, bt385.2.2⟩ : S25), (⟨bt385.1, bt385.2.1, bt385.2.2⟩ : S25)] : List (S25)))).bind fun bt402 => (if (bt402.1.toList == bt385.1.toList && (bt402.2.1.toList == bt385.2.1.toList && (bt402.2.2 == bt385.2.2))) = true then ((weirkeeperlaw03_awake.f k).bind fun t405 => (some t405)) else (none))) else (none))) else (none)) else (none)) else (none))))
end
def weirkeeperlaw03_StretchOrder.f (k : Nat) (l0 : List (S25)) (a1 : Int) : Option (Bool) := if (l0.length : Int) > 20 then (weirkeeperlaw03_StretchOrder.j0 k l0 a1 true) else (weirkeeperlaw03_StretchOrder.j0 k l0 a1 ((l0.length : Int) == 0))
theorem weirkeeperlaw03_StretchOrder.mono_l : ∀ k, (∀ y0 y1 y2, LeO (weirkeeperlaw03_StretchOrder.j0 k y0 y1 y2) (weirkeeperlaw03_StretchOrder.j0 (k + 1) y0 y1 y2)) ∧ (∀ y0 y1 y2 y3 y4 y5, LeO (weirkeeperlaw03_StretchOrder.l0 k y0 y1 y2 y3 y4 y5) (weirkeeperlaw03_StretchOrder.l0 (k + 1) y0 y1 y2 y3 y4 y5))
  | 0 => ⟨fun _ _ _ r h => by simp [weirkeeperlaw03_StretchOrder.j0] at h, fun _ _ _ _ _ _ r h => by simp [weirkeeperlaw03_StretchOrder.l0] at h⟩
  | k + 1 => by
    obtain ⟨ih0, ih1⟩ := weirkeeperlaw03_StretchOrder.mono_l k
    refine ⟨?_, ?_⟩
    · intro y0 y1 y2
      unfold weirkeeperlaw03_StretchOrder.j0
      repeat' first
      | (with_reducible exact ih0 _ _ _)
      | (with_reducible exact ih1 _ _ _ _ _ _)
      | (with_reducible exact stretch_Meet.mono _ _)
      | (with_reducible exact weirkeeperlaw03_awake.mono _)
      | (with_reducible exact LeO.refl _)
      | (with_reducible exact LeO.none _)
      | (with_reducible refine LeO.ite ?_ ?_)
      | (with_reducible refine LeO.bind ?_ (fun _ => ?_))
      | exact ih0 _ _ _
      | exact ih1 _ _ _ _ _ _
      | exact stretch_Meet.mono _ _
      | exact weirkeeperlaw03_awake.mono _
      | exact LeO.none _
      | refine LeO.ite ?_ ?_
      | refine LeO.bind ?_ (fun _ => ?_)
    · intro y0 y1 y2 y3 y4 y5
      unfold weirkeeperlaw03_StretchOrder.l0
      repeat' first
      | (with_reducible exact ih0 _ _ _)
      | (with_reducible exact ih1 _ _ _ _ _ _)
      | (with_reducible exact stretch_Meet.mono _ _)
      | (with_reducible exact weirkeeperlaw03_awake.mono _)
      | (with_reducible exact LeO.refl _)
      | (with_reducible exact LeO.none _)
      | (with_reducible refine LeO.ite ?_ ?_)
      | (with_reducible refine LeO.bind ?_ (fun _ => ?_))
      | exact ih0 _ _ _
      | exact ih1 _ _ _ _ _ _
      | exact stretch_Meet.mono _ _
      | exact weirkeeperlaw03_awake.mono _
      | exact LeO.none _
      | refine LeO.ite ?_ ?_
      | refine LeO.bind ?_ (fun _ => ?_)
theorem weirkeeperlaw03_StretchOrder.mono : ∀ a0 a1 k, LeO (weirkeeperlaw03_StretchOrder.f k a0 a1) (weirkeeperlaw03_StretchOrder.f (k + 1) a0 a1) := by
  intro a0 a1 k
  obtain ⟨ih0, ih1⟩ := weirkeeperlaw03_StretchOrder.mono_l k
  unfold weirkeeperlaw03_StretchOrder.f
  repeat' first
      | (with_reducible exact ih0 _ _ _)
      | (with_reducible exact ih1 _ _ _ _ _ _)
      | (with_reducible exact stretch_Meet.mono _ _)
      | (with_reducible exact weirkeeperlaw03_awake.mono _)
      | (with_reducible exact LeO.refl _)
      | (with_reducible exact LeO.none _)
      | (with_reducible refine LeO.ite ?_ ?_)
      | (with_reducible refine LeO.bind ?_ (fun _ => ?_))
      | exact ih0 _ _ _
      | exact ih1 _ _ _ _ _ _
      | exact stretch_Meet.mono _ _
      | exact weirkeeperlaw03_awake.mono _
      | exact LeO.none _
      | refine LeO.ite ?_ ?_
      | refine LeO.bind ?_ (fun _ => ?_)
def weirkeeperlaw03_StretchOrder.T12 : Bool × List (List Nat × List Nat) := (true, [([], []), ([0], [0]), ([], []), ([1, 2], [1, 2]), ([3, 1], [3]), ([4], [4]), ([4], [4]), ([6, 4], [4, 6]), ([7, 4], [4, 7]), ([8, 4], [4, 8]), ([5, 9, 4, 4], [4, 5, 9]), ([10, 10, 4], [4, 10]), ([4], [4]), ([11, 12, 4], [4, 11, 12]), ([4, 13], [4, 13]), ([14, 11], [14]), ([15], [15]), ([15], [15]), ([16, 17, 15], [15, 16, 17]), ([18, 15, 15], [15, 18]), ([15], [15]), ([19, 20, 15], [15, 19, 20]), ([15, 21], [15, 21]), ([22, 19], [22]), ([23, 23], [23]), ([23, 24], [23, 24]), ([25, 24, 0, 1, 2, 3, 4, 5, 6, 7, 8, 9, 10, 11, 12, 13, 14, 15, 16, 17, 18, 19, 20, 21, 22, 23, 24, 25], [25])])
def weirkeeperlaw03_StretchOrder.B12 : List Nat := [0, 1, 0, 7, 15, 31, 31, 95, 223, 479, 1023, 2047, 31, 8191, 16383, 32767, 65535, 65535, 262143, 524287, 65535, 2097151, 4194303, 8388607, 16777215, 33554431, 67108863]
theorem weirkeeperlaw03_StretchOrder.tab12 : rtab .any (opsOf Try.f6 12) = weirkeeperlaw03_StretchOrder.T12 := by kernel_rfl
theorem weirkeeperlaw03_StretchOrder.bits12 : waitsOk weirkeeperlaw03_StretchOrder.T12.2 weirkeeperlaw03_StretchOrder.B12 = true := by kernel_rfl
set_option maxHeartbeats 8000000 in
set_option maxRecDepth 100000 in
theorem weirkeeperlaw03_StretchOrder.calls (k : Nat) (A0 : Option Addr) (c0 : Nat) (l0 : List (S25)) (a1 : Int) (r : Bool) (w : World) (hr0 : Kd.C k25 w A0 l0.length l0) (hc0 : l0.length ≤ c0) (h : weirkeeperlaw03_StretchOrder.f k l0 a1 = some r) :
    Calls Try.prog 6 #[.slice A0 l0.length c0, .int .u8 a1] w fun e w' => e = .returned (.bool r) ∧ Below w.heap.size w w' := by
  have hu25 := Try.underlying25
  have HR0 := Aside0.mk hr0
  have HC0 := Aside0.mk hc0
  clear hr0 hc0
  have HB := Aside0.mk (Below.refl w.heap.size w)
  have H : (if (l0.length : Int) > 20 then (weirkeeperlaw03_StretchOrder.j0 k l0 a1 true) else (weirkeeperlaw03_StretchOrder.j0 k l0 a1 ((l0.length : Int) == 0))) = some r := h
  clear h
  have HC3 := Aside0.mk H
  clear H
  go_enter Try.func6, Try.ntmps6
  go_upto_region 1 with (fail)
  go_cut [16] (fun v16 wc => ∃ (kq : Nat) (x16_2 : Bool), v16 = .bool x16_2 ∧ Aside0 (weirkeeperlaw03_StretchOrder.j0 kq l0 a1 x16_2 = some r) ∧ Aside0 (kq ≤ k) ∧ Aside0 (Below w.heap.size w wc))
  case first =>
    have H := HC3.out
    clear HC3
    by_cases c4 : (l0.length : Int) > 20
    · rw [if_pos c4] at H
      have c4b0 : decide (20 < (l0.length : Int)) = true := decide_eq_true c4
      have c4b1 : decide (20 < l0.length) = true := decide_eq_true (by omega)
      clear c4
      (first | rw [c4b0] | (simp only [i64_w, i32_w]; rw [c4b0]) | skip)
      have H' := Aside0.mk H
      clear H
      go_wp2
      go_meet
      case rel => exact ⟨_, (true), (by first | rfl | (simp; done) | (simp [*]; done)), H', ⟨by first | omega | exact Nat.le_refl _⟩, ⟨by repeat (first | (with_reducible first | exact HB.out | apply below_alloc | apply pw_below_drewN | apply below_drew1) | exact HB.out)⟩⟩
    · rw [if_neg c4] at H
      have c4b0 : decide (20 < (l0.length : Int)) = false := decide_eq_false c4
      have c4b1 : decide (20 < l0.length) = false := decide_eq_false (by omega)
      clear c4
      (first | rw [c4b0] | (simp only [i64_w, i32_w]; rw [c4b0]) | skip)
      have H' := Aside0.mk H
      clear H
      go_wp2
      go_meet
      case rel => exact ⟨_, (((l0.length : Int) == 0)), (by first | rfl | (simp; done) | (simp [*]; done)), H', ⟨by first | omega | exact Nat.le_refl _⟩, ⟨by repeat (first | (with_reducible first | exact HB.out | apply below_alloc | apply pw_below_drewN | apply below_drew1) | exact HB.out)⟩⟩
  case rest =>
    clear HC3
    try clear p2
    try clear c4
    try clear c4b0
    try clear c4b1
    obtain ⟨kq, x16_2, rfl, HA, HJ2, HB⟩ := hcut
    cases kq with
    | zero => exact absurd HA.out (by simp [weirkeeperlaw03_StretchOrder.j0])
    | succ kj2 =>
      have H := HA.out
      clear HA
      simp only [weirkeeperlaw03_StretchOrder.j0] at H
      by_cases c5 : x16_2 = true
      · subst c5
        have H1 : ((weirkeeperlaw03_awake.f kj2).bind fun t376 => (some t376)) = some r := by rw [if_pos rfl] at H; exact H
        clear H
        have H := H1
        clear H1
        replace H := Option.bind_eq_some_iff.mp H
        obtain ⟨t376, A60, H⟩ := H
        replace H : (some t376) = some r := H
        have A6 := Aside0.mk A60
        clear A60
        obtain rfl := Option.some.inj H
        go_wp2_with (first | ((with_reducible refine gate_callee (f := 8) rfl ?_); refine goesL_ (some 17) rfl rfl Try.func8 (by kernel_rfl) rfl #[] rfl (by (try simp only [List.map_toArray, List.map_cons, List.map_nil]); first | done | rfl | (simp only [List.length_drop, List.length_take]; rfl)) ?_; (with_reducible refine (weirkeeperlaw03_awake.calls kj2  t376 _ A6.out).mono ?_); rintro e w7 ⟨rfl, hb⟩; refine ⟨_, rfl, ?_⟩; have n0_ := Aside0.mk (below_step (by repeat (first | (with_reducible first | exact HB.out | apply below_alloc | apply pw_below_drewN | apply below_drew1) | exact HB.out)) hb); clear HB; have HB := n0_; clear n0_; (try clear hb); (try clear hb2); (try clear hk); (try clear hi)))
        go_ret
        exact ⟨by first | rfl | (simp [errW_none, errW_some] <;> rfl) | (simp [*, errW_none, errW_some] <;> rfl), by repeat (first | (with_reducible first | exact HB.out | apply below_alloc | apply pw_below_drewN | apply below_drew1) | exact HB.out)⟩
      · replace c5 := Bool.eq_false_iff.mpr c5
        subst c5
        have H1 : (weirkeeperlaw03_StretchOrder.l0 kj2 l0 a1 ([] : List (S25)) l0 (l0.length : Int) 0) = some r := by rw [if_neg (show ¬ (false = true) by decide)] at H; exact H
        clear H
        have H := H1
        clear H1
        have H' := Aside0.mk H
        clear H
        go_wp2
        go_loopg [5, 20] kj2 (fun kq v5 v20 w' => ∃ (x5_2 : List (S25)) (x20_2 : Int), v20 = .int .i64 x20_2 ∧ Aside0 (weirkeeperlaw03_StretchOrder.l0 kq l0 a1 x5_2 l0 (l0.length : Int) x20_2 = some r) ∧ Aside0 (kq ≤ kj2) ∧ Aside0 (Kd.R k25 25 w' w.heap.size (fun _ => True) v5 x5_2) ∧ Aside0 (Below w.heap.size w w'))
        case atStart => exact ⟨(([] : List (S25))), (0), (by first | rfl | (simp; done) | (simp [*]; done)), H', ⟨Nat.le_refl _⟩, ⟨by first | exact Kd.R_nil _ _ _ _ _ | exact Kd.N_nil _ _ _ _ _ | exact Kd.V_nil _ _ _ _ _ | exact Kd.Q_nil _ _ _ _ _ | exact Kd.S_nil _ _ _ _ _⟩, ⟨by repeat (first | (with_reducible first | exact HB.out | apply below_alloc | apply pw_below_drewN | apply below_drew1) | exact HB.out)⟩⟩
        case round =>
          clear H'
          try clear p2
          try clear c4
          try clear c4b0
          try clear c4b1
          try clear c5
          try clear c6
          try clear p2
          obtain ⟨x5_2, x20_2, rfl, HA, HK2, HO_5, HB⟩ := hrel
          cases gk with
          | zero => exact absurd HA.out (by simp [weirkeeperlaw03_StretchOrder.l0])
          | succ k2 =>
            have H := HA.out
            clear HA
            simp only [weirkeeperlaw03_StretchOrder.l0] at H
            by_cases c8 : x20_2 < (l0.length : Int)
            · rw [if_pos c8] at H
              have c8b0 : decide (x20_2 < (l0.length : Int)) = true := decide_eq_true c8
              clear c8
              by_cases c9 : 0 ≤ x20_2
              · rw [if_pos c9] at H
                have c9b0 : decide (0 ≤ x20_2) = true := decide_eq_true c9
                clear c9
                by_cases c10 : x20_2 < (l0.length : Int)
                · rw [if_pos c10] at H
                  have c10b0 : decide (x20_2 < (l0.length : Int)) = true := decide_eq_true c10
                  clear c10
                  replace H := Option.bind_eq_some_iff.mp H
                  obtain ⟨t379, A110, H⟩ := H
                  replace H : (if t379 = true then (if (l0.length : Int) = 0 then (none) else (if 0 ≤ (Int.tmod (wrap64 ((wrap64 ((l0.length : Int) - x20_2)) + (wrap64 (a1)))) (l0.length : Int)) then (if (Int.tmod (wrap64 ((wrap64 ((l0.length : Int) - x20_2)) + (wrap64 (a1)))) (l0.length : Int)) < (l0.length : Int) then (if x5_2.length < 3518437208883 then (weirkeeperlaw03_StretchOrder.l0 k2 l0 a1 (x5_2 ++ [(⟨(rd_T25 l0 (Int.tmod (wrap64 ((wrap64 ((l0.length : Int) - x20_2)) + (wrap64 (a1)))) (l0.length : Int))).f0, (rd_T25 l0 (Int.tmod (wrap64 ((wrap64 ((l0.length : Int) - x20_2)) + (wrap64 (a1)))) (l0.length : Int))).f1, (rd_T25 l0 (Int.tmod (wrap64 ((wrap64 ((l0.length : Int) - x20_2)) + (wrap64 (a1)))) (l0.length : Int))).f2⟩ : S25)]) l0 (l0.length : Int) (wrap64 (x20_2 + 1))) else (none)) else (none)) else (none))) else ((weirkeeperlaw03_awake.f k2).bind fun t384 => (some t384))) = some r := H
                  have A11 := Aside0.mk A110
                  clear A110
                  by_cases c12 : t379 = true
                  · subst c12
                    have H1 : (if (l0.length : Int) = 0 then (none) else (if 0 ≤ (Int.tmod (wrap64 ((wrap64 ((l0.length : Int) - x20_2)) + (wrap64 (a1)))) (l0.length : Int)) then (if (Int.tmod (wrap64 ((wrap64 ((l0.length : Int) - x20_2)) + (wrap64 (a1)))) (l0.length : Int)) < (l0.length : Int) then (if x5_2.length < 3518437208883 then (weirkeeperlaw03_StretchOrder.l0 k2 l0 a1 (x5_2 ++ [(⟨(rd_T25 l0 (Int.tmod (wrap64 ((wrap64 ((l0.length : Int) - x20_2)) + (wrap64 (a1)))) (l0.length : Int))).f0, (rd_T25 l0 (Int.tmod (wrap64 ((wrap64 ((l0.length : Int) - x20_2)) + (wrap64 (a1)))) (l0.length : Int))).f1, (rd_T25 l0 (Int.tmod (wrap64 ((wrap64 ((l0.length : Int) - x20_2)) + (wrap64 (a1)))) (l0.length : Int))).f2⟩ : S25)]) l0 (l0.length : Int) (wrap64 (x20_2 + 1))) else (none)) else (none)) else (none))) = some r := by rw [if_pos rfl] at H; exact H
                    clear H
                    have H := H1
                    clear H1
                    by_cases c13 : (l0.length : Int) = 0
                    · rw [if_pos c13] at H
                      exact absurd H (by simp)
                    · rw [if_neg c13] at H
                      have c13b0 : ((l0.length : Int) == 0) = false := beq_eq_false_iff_ne.mpr c13
                      have c13b1 : ((l0.length : Int) != 0) = true := bne_iff_ne.mpr c13
                      have c13b2 : ¬ (l0 = []) := fun h_ => c13 (by rw [h_]; rfl)
                      obtain ⟨ji14, hji14⟩ : ∃ j_ : Int, (Int.tmod (wrap64 ((wrap64 ((l0.length : Int) - x20_2)) + (wrap64 (a1)))) (l0.length : Int)) = j_ := ⟨_, rfl⟩
                      replace H : (if 0 ≤ (ji14) then (if (ji14) < (l0.length : Int) then (if x5_2.length < 3518437208883 then (weirkeeperlaw03_StretchOrder.l0 k2 l0 a1 (x5_2 ++ [(⟨(rd_T25 l0 (ji14)).f0, (rd_T25 l0 (ji14)).f1, (rd_T25 l0 (ji14)).f2⟩ : S25)]) l0 (l0.length : Int) (wrap64 (x20_2 + 1))) else (none)) else (none)) else (none)) = some r := by first | (rw [hji14] at H; exact H) | (simp only [hji14] at H ⊢; exact H)
                      (try rw [hji14] at A11)
                      by_cases c15 : 0 ≤ (ji14)
                      · rw [if_pos c15] at H
                        have c15b0 : decide (0 ≤ (ji14)) = true := decide_eq_true c15
                        clear c15
                        by_cases c16 : (ji14) < (l0.length : Int)
                        · rw [if_pos c16] at H
                          have c16b0 : decide ((ji14) < (l0.length : Int)) = true := decide_eq_true c16
                          clear c16
                          by_cases c17 : x5_2.length < 3518437208883
                          · rw [if_pos c17] at H
                            have LMc17 := Aside0.mk c17
                            clear c17
                            obtain ⟨y381, hy381⟩ : ∃ y_ : List (S25), y_ = (x5_2 ++ [(⟨(rd_T25 l0 (ji14)).f0, (rd_T25 l0 (ji14)).f1, (rd_T25 l0 (ji14)).f2⟩ : S25)]) := ⟨_, rfl⟩
                            replace H : (weirkeeperlaw03_StretchOrder.l0 k2 l0 a1 y381 l0 (l0.length : Int) (wrap64 (x20_2 + 1))) = some r := by first | (rw [hy381]; with_reducible exact H) | (have H2_ := (Option.bind_some _ _).symm.trans H; rw [hy381]; with_reducible exact H2_) | (have H2_ := (Option.bind_some _ _).symm.trans H; with_reducible exact H2_) | with_reducible exact H | (rw [hy381]; exact H) | exact H
                            have Ny381 := Aside0.mk hy381
                            clear hy381
                            have H' := Aside0.mk H
                            clear H
                            have p377 : 0 ≤ (x20_2 : Int) := of_decide_eq_true (by first | (with_reducible assumption) | assumption)
                            have q377 : x20_2 < (l0.length : Int) := of_decide_eq_true (by first | (with_reducible assumption) | assumption)
                            obtain ⟨ad377, e377, hx377_0, hx377_1, hx377_2⟩ := at_T25 HR0.out x20_2 p377 q377
                            cases e377
                            replace hx377_0 := (HB.out.cell (World.block_lt_of_cell? w _ hx377_0)).trans hx377_0
                            replace hx377_1 := (HB.out.cell (World.block_lt_of_cell? w _ hx377_1)).trans hx377_1
                            replace hx377_2 := (HB.out.cell (World.block_lt_of_cell? w _ hx377_2)).trans hx377_2
                            replace p377 := eq_true p377
                            replace q377 := eq_true q377
                            go_wp2_with (first | ((with_reducible refine gate_dst (N := 7) rfl ?_); (try (refine gate_guard (by rfl) ?_; dsimp only)); refine box_event ?hg (N := 7) ?hd (cs := #[.string (⟨#[]⟩ : ByteArray), .string (⟨#[]⟩ : ByteArray), .bool false]) (t := 25) ?hr ?_; (case hd => rfl); (case hg => rfl); (case hr => first | (go_simp; done) | (go_simp; rfl)); intro gb378 hg w18 hbox hb; have n0_ := Aside0.mk (Kd.R_below (Kd.R_elderB (by (with_reducible repeat (first | apply Kd.R_alloc | apply Kd.R_drewN | apply Kd.R_drew)); exact HO_5.out) gb378 (Nat.le_of_eq hg.symm)) hb); have n1_ := Aside0.mk (below_step (by repeat (first | (with_reducible first | exact HB.out | apply below_alloc | apply pw_below_drewN | apply below_drew1) | exact HB.out)) hb); have n2_ := Aside0.mk (hbox); have n3_ := Aside0.mk ((by rw [hg]; exact (below_size (by repeat (first | (with_reducible first | exact HB.out | apply below_alloc | apply pw_below_drewN | apply below_drew1) | exact HB.out))) : w.heap.size ≤ gb378)); have n4_ := Aside0.mk ((by rw [hg]; exact (below_size (by repeat (first | (with_reducible first | exact HB.out | apply below_alloc | apply pw_below_drewN | apply below_drew1) | exact HB.out))) : w.heap.size ≤ gb378)); clear HO_5; clear HB; have HO_5 := n0_; have HB := n1_; have BK378 := n2_; have GW378 := n3_; have GE378 := n4_; clear n0_ n1_ n2_ n3_ n4_; clear hb hbox hg; have hcz19_0 : w18.cell? ⟨gb378, 0, none⟩ = some (.string (⟨#[]⟩ : ByteArray)) := (blk_cell BK378.out 0).trans rfl; have hcz19_1 : w18.cell? ⟨gb378, 1, none⟩ = some (.string (⟨#[]⟩ : ByteArray)) := (blk_cell BK378.out 1).trans rfl; have hcz19_2 : w18.cell? ⟨gb378, 2, none⟩ = some (.bool false) := (blk_cell BK378.out 2).trans rfl; have hfz19_0 := blk_frozen BK378.out 0; have hfz19_1 := blk_frozen BK378.out 1; have hfz19_2 := blk_frozen BK378.out 2) | ((with_reducible refine gate_callee (f := 9) rfl ?_); refine goesL_ (some 26) rfl rfl Try.func9 (by kernel_rfl) rfl #[.agg #[.string ((rd_T25 l0 x20_2).f0), .string ((rd_T25 l0 x20_2).f1), .bool ((rd_T25 l0 x20_2).f2)]] rfl (by (try simp only [List.map_toArray, List.map_cons, List.map_nil]); first | done | rfl | (simp only [List.length_drop, List.length_take]; rfl)) ?_; (with_reducible refine (weirkeeperlaw03_small.calls ((rd_T25 l0 x20_2).f0) ((rd_T25 l0 x20_2).f1) ((rd_T25 l0 x20_2).f2) true _ A11.out).mono ?_); rintro e w20 ⟨rfl, hb⟩; refine ⟨_, rfl, ?_⟩; have n0_ := Aside0.mk (Kd.R_below (by (with_reducible repeat (first | apply Kd.R_alloc | apply Kd.R_drewN | apply Kd.R_drew)); exact (Kd.R_mono (Kd.R_far (p := ⟨gb378, 2, none⟩) (Kd.R_far (p := ⟨gb378, 1, none⟩) (Kd.R_far (p := ⟨gb378, 0, none⟩) (Kd.R_mono HO_5.out (fun k_ hk => (⟨hk, hk.2⟩ : _ ∧ k_ ≠ gb378))) (fun _ hk => hk.2) (.string ((rd_T25 l0 x20_2).f0))) (fun _ hk => hk.2) (.string ((rd_T25 l0 x20_2).f1))) (fun _ hk => hk.2) (.bool ((rd_T25 l0 x20_2).f2))) (fun _ h_ => h_.1))) hb); have n1_ := Aside0.mk (blk_below (g := gb378) (o := .cells #[.string ((rd_T25 l0 x20_2).f0), .string ((rd_T25 l0 x20_2).f1), .bool ((rd_T25 l0 x20_2).f2)] 25 (0, 0)) (by (with_reducible repeat (first | refine blk_drewN ?_ _ | refine blk_drew ?_ | refine blk_alloc ?_ _)); refine blk_put (cs := #[.string ((rd_T25 l0 x20_2).f0), .string ((rd_T25 l0 x20_2).f1), .bool false]) ?_ 2 _ rfl; (with_reducible repeat (first | refine blk_drewN ?_ _ | refine blk_drew ?_ | refine blk_alloc ?_ _)); refine blk_put (cs := #[.string ((rd_T25 l0 x20_2).f0), .string (⟨#[]⟩ : ByteArray), .bool false]) ?_ 1 _ rfl; (with_reducible repeat (first | refine blk_drewN ?_ _ | refine blk_drew ?_ | refine blk_alloc ?_ _)); refine blk_put (cs := #[.string (⟨#[]⟩ : ByteArray), .string (⟨#[]⟩ : ByteArray), .bool false]) ?_ 0 _ rfl; (with_reducible repeat (first | refine blk_drewN ?_ _ | refine blk_drew ?_ | refine blk_alloc ?_ _)); exact BK378.out) hb); have n2_ := Aside0.mk (below_step (by repeat (first | (with_reducible first | exact HB.out | apply below_alloc | apply pw_below_drewN | apply below_drew1 | refine below_set ?_ GE378.out) | exact HB.out)) hb); clear HO_5; clear BK378; clear HB; have HO_5 := n0_; have BK378 := n1_; have HB := n2_; clear n0_ n1_ n2_; (try clear hb); (try clear hb2); (try clear hk); (try clear hi); have p380 : 0 ≤ ((ji14) : Int) := of_decide_eq_true (by first | (with_reducible assumption) | assumption); have q380 : (ji14) < (l0.length : Int) := of_decide_eq_true (by first | (with_reducible assumption) | assumption); obtain ⟨ad380, e380, hx380_0, hx380_1, hx380_2⟩ := at_T25 HR0.out (ji14) p380 q380; obtain rfl : ad377 = ad380 := (by injection e380); replace hx380_0 := (HB.out.cell (World.block_lt_of_cell? w _ hx380_0)).trans hx380_0; replace hx380_1 := (HB.out.cell (World.block_lt_of_cell? w _ hx380_1)).trans hx380_1; replace hx380_2 := (HB.out.cell (World.block_lt_of_cell? w _ hx380_2)).trans hx380_2; replace p380 := eq_true p380; replace q380 := eq_true q380) | ((with_reducible refine gate_builtin (b := .append) (xs := #[.tmp 29, .tmp 43]) rfl ?_); (try (refine gate_guard (by rfl) ?_; dsimp only)); at_builtin; refine Kd.R_append k25 (w0 := w) w.heap.size rfl (.tmp 29) (.tmp 43) 22 25 (.agg #[(.string ⟨#[]⟩), (.string ⟨#[]⟩), (.bool false)]) 40 rfl Try.underlying22 info25 rfl (by decide) (by omega) u5 x5_2 (⟨(rd_T25 l0 (ji14)).f0, (rd_T25 l0 (ji14)).f1, (rd_T25 l0 (ji14)).f2⟩ : S25) [.string ((rd_T25 l0 (ji14)).f0), .string ((rd_T25 l0 (ji14)).f1), .bool ((rd_T25 l0 (ji14)).f2)] (fun k_ => k_ ≠ gb378) (fun _ => False) rfl rfl ?aP (fun _ hk => hk.elim) ?aF ?aO ?aB ?aS ?aL ?_; (case aP => exact k25_mkM _ _ _ (⟨(rd_T25 l0 (ji14)).f0, (rd_T25 l0 (ji14)).f1, (rd_T25 l0 (ji14)).f2⟩ : S25)); (case aB => exact (by repeat (first | (with_reducible first | exact HB.out | apply below_alloc | apply pw_below_drewN | apply below_drew1 | refine below_set ?_ GE378.out) | exact HB.out))); (case aF => exact (fun k_ hk => Kd.freshB (g := gb378) (o := .cells #[.string ((rd_T25 l0 x20_2).f0), .string ((rd_T25 l0 x20_2).f1), .bool ((rd_T25 l0 x20_2).f2)] 25 (0, 0)) (by (with_reducible repeat (first | refine blk_drewN ?_ _ | refine blk_drew ?_ | refine blk_alloc ?_ _)); exact BK378.out) k_ hk)); (case aO => exact (by (with_reducible repeat (first | apply Kd.R_alloc | apply Kd.R_drewN | apply Kd.R_drew)); exact Kd.R_mono HO_5.out (fun _ hk => hk.2))); (case aS => exact (below_size (by repeat (first | (with_reducible first | exact HB.out | apply below_alloc | apply pw_below_drewN | apply below_drew1 | refine below_set ?_ GE378.out) | exact HB.out)))); (case aL => have := LMc17.out; omega); intro v382 w21 ho hb hg hat; rw [← Ny381.out] at ho; have n0_ := Aside0.mk (blk_grown (g := gb378) (o := .cells #[.string ((rd_T25 l0 x20_2).f0), .string ((rd_T25 l0 x20_2).f1), .bool ((rd_T25 l0 x20_2).f2)] 25 (0, 0)) (by (with_reducible repeat (first | refine blk_drewN ?_ _ | refine blk_drew ?_ | refine blk_alloc ?_ _)); exact BK378.out) hg (Kd.R_away HO_5.out (fun _ hk => hk.2))); have n1_ := Aside0.mk (hb); have n2_ := Aside0.mk (ho); clear BK378; clear HB; clear HO_5; have BK378 := n0_; have HB := n1_; have HO383 := n2_; clear n0_ n1_ n2_; clear ho hb hg hat))
                            go_roundg k2
                            case measure => have := HJ2.out; have := HK2.out; omega
                            case rel => exact ⟨(y381), (wrap64 (x20_2 + 1)), (by first | rfl | (simp; done) | (simp [*]; done)), H', ⟨by have := HJ2.out; have := HK2.out; omega⟩, ⟨by (with_reducible repeat (first | apply Kd.R_alloc | apply Kd.R_drewN | apply Kd.R_drew)); exact Kd.R_mono HO383.out (fun _ hk => trivial)⟩, ⟨by repeat (first | (with_reducible first | exact HB.out | apply below_alloc | apply pw_below_drewN | apply below_drew1 | refine below_set ?_ GE378.out) | exact HB.out)⟩⟩
                          · rw [if_neg c17] at H
                            exact absurd H (by simp)
                        · rw [if_neg c16] at H
                          exact absurd H (by simp)
                      · rw [if_neg c15] at H
                        exact absurd H (by simp)
                  · replace c12 := Bool.eq_false_iff.mpr c12
                    subst c12
                    have H1 : ((weirkeeperlaw03_awake.f k2).bind fun t384 => (some t384)) = some r := by rw [if_neg (show ¬ (false = true) by decide)] at H; exact H
                    clear H
                    have H := H1
                    clear H1
                    replace H := Option.bind_eq_some_iff.mp H
                    obtain ⟨t384, A220, H⟩ := H
                    replace H : (some t384) = some r := H
                    have A22 := Aside0.mk A220
                    clear A220
                    obtain rfl := Option.some.inj H
                    have p377 : 0 ≤ (x20_2 : Int) := of_decide_eq_true (by first | (with_reducible assumption) | assumption)
                    have q377 : x20_2 < (l0.length : Int) := of_decide_eq_true (by first | (with_reducible assumption) | assumption)
                    obtain ⟨ad377, e377, hx377_0, hx377_1, hx377_2⟩ := at_T25 HR0.out x20_2 p377 q377
                    cases e377
                    replace hx377_0 := (HB.out.cell (World.block_lt_of_cell? w _ hx377_0)).trans hx377_0
                    replace hx377_1 := (HB.out.cell (World.block_lt_of_cell? w _ hx377_1)).trans hx377_1
                    replace hx377_2 := (HB.out.cell (World.block_lt_of_cell? w _ hx377_2)).trans hx377_2
                    replace p377 := eq_true p377
                    replace q377 := eq_true q377
                    go_wp2_with (first | ((with_reducible refine gate_dst (N := 7) rfl ?_); (try (refine gate_guard (by rfl) ?_; dsimp only)); refine box_event ?hg (N := 7) ?hd (cs := #[.string (⟨#[]⟩ : ByteArray), .string (⟨#[]⟩ : ByteArray), .bool false]) (t := 25) ?hr ?_; (case hd => rfl); (case hg => rfl); (case hr => first | (go_simp; done) | (go_simp; rfl)); intro gb378 hg w23 hbox hb; have n0_ := Aside0.mk (Kd.R_below (Kd.R_elderB (by (with_reducible repeat (first | apply Kd.R_alloc | apply Kd.R_drewN | apply Kd.R_drew)); exact HO_5.out) gb378 (Nat.le_of_eq hg.symm)) hb); have n1_ := Aside0.mk (below_step (by repeat (first | (with_reducible first | exact HB.out | apply below_alloc | apply pw_below_drewN | apply below_drew1) | exact HB.out)) hb); have n2_ := Aside0.mk (hbox); have n3_ := Aside0.mk ((by rw [hg]; exact (below_size (by repeat (first | (with_reducible first | exact HB.out | apply below_alloc | apply pw_below_drewN | apply below_drew1) | exact HB.out))) : w.heap.size ≤ gb378)); have n4_ := Aside0.mk ((by rw [hg]; exact (below_size (by repeat (first | (with_reducible first | exact HB.out | apply below_alloc | apply pw_below_drewN | apply below_drew1) | exact HB.out))) : w.heap.size ≤ gb378)); clear HO_5; clear HB; have HO_5 := n0_; have HB := n1_; have BK378 := n2_; have GW378 := n3_; have GE378 := n4_; clear n0_ n1_ n2_ n3_ n4_; clear hb hbox hg; have hcz24_0 : w23.cell? ⟨gb378, 0, none⟩ = some (.string (⟨#[]⟩ : ByteArray)) := (blk_cell BK378.out 0).trans rfl; have hcz24_1 : w23.cell? ⟨gb378, 1, none⟩ = some (.string (⟨#[]⟩ : ByteArray)) := (blk_cell BK378.out 1).trans rfl; have hcz24_2 : w23.cell? ⟨gb378, 2, none⟩ = some (.bool false) := (blk_cell BK378.out 2).trans rfl; have hfz24_0 := blk_frozen BK378.out 0; have hfz24_1 := blk_frozen BK378.out 1; have hfz24_2 := blk_frozen BK378.out 2) | ((with_reducible refine gate_callee (f := 9) rfl ?_); refine goesL_ (some 26) rfl rfl Try.func9 (by kernel_rfl) rfl #[.agg #[.string ((rd_T25 l0 x20_2).f0), .string ((rd_T25 l0 x20_2).f1), .bool ((rd_T25 l0 x20_2).f2)]] rfl (by (try simp only [List.map_toArray, List.map_cons, List.map_nil]); first | done | rfl | (simp only [List.length_drop, List.length_take]; rfl)) ?_; (with_reducible refine (weirkeeperlaw03_small.calls ((rd_T25 l0 x20_2).f0) ((rd_T25 l0 x20_2).f1) ((rd_T25 l0 x20_2).f2) false _ A11.out).mono ?_); rintro e w25 ⟨rfl, hb⟩; refine ⟨_, rfl, ?_⟩; have n0_ := Aside0.mk (Kd.R_below (by (with_reducible repeat (first | apply Kd.R_alloc | apply Kd.R_drewN | apply Kd.R_drew)); exact (Kd.R_mono (Kd.R_far (p := ⟨gb378, 2, none⟩) (Kd.R_far (p := ⟨gb378, 1, none⟩) (Kd.R_far (p := ⟨gb378, 0, none⟩) (Kd.R_mono HO_5.out (fun k_ hk => (⟨hk, hk.2⟩ : _ ∧ k_ ≠ gb378))) (fun _ hk => hk.2) (.string ((rd_T25 l0 x20_2).f0))) (fun _ hk => hk.2) (.string ((rd_T25 l0 x20_2).f1))) (fun _ hk => hk.2) (.bool ((rd_T25 l0 x20_2).f2))) (fun _ h_ => h_.1))) hb); have n1_ := Aside0.mk (blk_below (g := gb378) (o := .cells #[.string ((rd_T25 l0 x20_2).f0), .string ((rd_T25 l0 x20_2).f1), .bool ((rd_T25 l0 x20_2).f2)] 25 (0, 0)) (by (with_reducible repeat (first | refine blk_drewN ?_ _ | refine blk_drew ?_ | refine blk_alloc ?_ _)); refine blk_put (cs := #[.string ((rd_T25 l0 x20_2).f0), .string ((rd_T25 l0 x20_2).f1), .bool false]) ?_ 2 _ rfl; (with_reducible repeat (first | refine blk_drewN ?_ _ | refine blk_drew ?_ | refine blk_alloc ?_ _)); refine blk_put (cs := #[.string ((rd_T25 l0 x20_2).f0), .string (⟨#[]⟩ : ByteArray), .bool false]) ?_ 1 _ rfl; (with_reducible repeat (first | refine blk_drewN ?_ _ | refine blk_drew ?_ | refine blk_alloc ?_ _)); refine blk_put (cs := #[.string (⟨#[]⟩ : ByteArray), .string (⟨#[]⟩ : ByteArray), .bool false]) ?_ 0 _ rfl; (with_reducible repeat (first | refine blk_drewN ?_ _ | refine blk_drew ?_ | refine blk_alloc ?_ _)); exact BK378.out) hb); have n2_ := Aside0.mk (below_step (by repeat (first | (with_reducible first | exact HB.out | apply below_alloc | apply pw_below_drewN | apply below_drew1 | refine below_set ?_ GE378.out) | exact HB.out)) hb); clear HO_5; clear BK378; clear HB; have HO_5 := n0_; have BK378 := n1_; have HB := n2_; clear n0_ n1_ n2_; (try clear hb); (try clear hb2); (try clear hk); (try clear hi)) | ((with_reducible refine gate_callee (f := 8) rfl ?_); refine goesL_ (some 28) rfl rfl Try.func8 (by kernel_rfl) rfl #[] rfl (by (try simp only [List.map_toArray, List.map_cons, List.map_nil]); first | done | rfl | (simp only [List.length_drop, List.length_take]; rfl)) ?_; (with_reducible refine (weirkeeperlaw03_awake.calls k2  t384 _ A22.out).mono ?_); rintro e w26 ⟨rfl, hb⟩; refine ⟨_, rfl, ?_⟩; have n0_ := Aside0.mk (Kd.R_below (by (with_reducible repeat (first | apply Kd.R_alloc | apply Kd.R_drewN | apply Kd.R_drew)); exact HO_5.out) hb); have n1_ := Aside0.mk (blk_below (g := gb378) (o := .cells #[.string ((rd_T25 l0 x20_2).f0), .string ((rd_T25 l0 x20_2).f1), .bool ((rd_T25 l0 x20_2).f2)] 25 (0, 0)) (by (with_reducible repeat (first | refine blk_drewN ?_ _ | refine blk_drew ?_ | refine blk_alloc ?_ _)); exact BK378.out) hb); have n2_ := Aside0.mk (below_step (by repeat (first | (with_reducible first | exact HB.out | apply below_alloc | apply pw_below_drewN | apply below_drew1 | refine below_set ?_ GE378.out) | exact HB.out)) hb); clear HO_5; clear BK378; clear HB; have HO_5 := n0_; have BK378 := n1_; have HB := n2_; clear n0_ n1_ n2_; (try clear hb); (try clear hb2); (try clear hk); (try clear hi)))
                    go_ret
                    exact ⟨by first | rfl | (simp [errW_none, errW_some] <;> rfl) | (simp [*, errW_none, errW_some] <;> rfl), by repeat (first | (with_reducible first | exact HB.out | apply below_alloc | apply pw_below_drewN | apply below_drew1 | refine below_set ?_ GE378.out) | exact HB.out)⟩
                · rw [if_neg c10] at H
                  exact absurd H (by simp)
              · rw [if_neg c9] at H
                exact absurd H (by simp)
            · rw [if_neg c8] at H
              have c8b0 : decide (x20_2 < (l0.length : Int)) = false := decide_eq_false c8
              clear c8
              replace H := Option.bind_eq_some_iff.mp H
              obtain ⟨⟨t385, t386, t387⟩, A270, H⟩ := H
              replace H : ((stretch_Meet.f k2 x5_2).bind fun bt389 => (if (bt389.1.toList == t385.toList && (bt389.2.1.toList == t386.toList && (bt389.2.2 == t387))) = true then (if 0 < (l0.length : Int) then (if x5_2.length < 3518437208883 then ((stretch_Meet.f k2 (x5_2 ++ [(⟨(rd_T25 l0 0).f0, (rd_T25 l0 0).f1, (rd_T25 l0 0).f2⟩ : S25)])).bind fun bt396 => (if (bt396.1.toList == t385.toList && (bt396.2.1.toList == t386.toList && (bt396.2.2 == t387))) = true then ((stretch_Meet.f k2 (([(⟨t385, t386, t387⟩ : S25), (⟨t385, t386, t387⟩ : S25)] : List (S25)))).bind fun bt402 => (if (bt402.1.toList == t385.toList && (bt402.2.1.toList == t386.toList && (bt402.2.2 == t387))) = true then ((weirkeeperlaw03_awake.f k2).bind fun t405 => (some t405)) else (none))) else (none))) else (none)) else (none)) else (none))) = some r := H
              have A27 := Aside0.mk A270
              clear A270
              replace H := Option.bind_eq_some_iff.mp H
              obtain ⟨⟨t389, t390, t391⟩, A280, H⟩ := H
              replace H : (if (t389.toList == t385.toList && (t390.toList == t386.toList && (t391 == t387))) = true then (if 0 < (l0.length : Int) then (if x5_2.length < 3518437208883 then ((stretch_Meet.f k2 (x5_2 ++ [(⟨(rd_T25 l0 0).f0, (rd_T25 l0 0).f1, (rd_T25 l0 0).f2⟩ : S25)])).bind fun bt396 => (if (bt396.1.toList == t385.toList && (bt396.2.1.toList == t386.toList && (bt396.2.2 == t387))) = true then ((stretch_Meet.f k2 (([(⟨t385, t386, t387⟩ : S25), (⟨t385, t386, t387⟩ : S25)] : List (S25)))).bind fun bt402 => (if (bt402.1.toList == t385.toList && (bt402.2.1.toList == t386.toList && (bt402.2.2 == t387))) = true then ((weirkeeperlaw03_awake.f k2).bind fun t405 => (some t405)) else (none))) else (none))) else (none)) else (none)) else (none)) = some r := H
              have A28 := Aside0.mk A280
              clear A280
              by_cases c29 : (t389.toList == t385.toList && (t390.toList == t386.toList && (t391 == t387))) = true
              · rw [if_pos c29] at H
                have c29b0 : (t389.toList == t385.toList && (t390.toList == t386.toList && (t391 == t387))) = true := c29
                (try (have c29b1 : decide (t389.toList = t385.toList && (t390.toList == t386.toList && (t391 == t387))) = true := by simpa using c29))
                (try (have c29b2 : (t389.toList == t385.toList && (t390.toList == t386.toList && (t391 == t387))) = true := by simpa using c29))
                clear c29
                by_cases c30 : 0 < (l0.length : Int)
                · rw [if_pos c30] at H
                  have c30b0 : decide (0 < (l0.length : Int)) = true := decide_eq_true c30
                  have c30b1 : decide (0 < l0.length) = true := decide_eq_true (by omega)
                  clear c30
                  by_cases c31 : x5_2.length < 3518437208883
                  · rw [if_pos c31] at H
                    have LMc31 := Aside0.mk c31
                    clear c31
                    obtain ⟨y393, hy393⟩ : ∃ y_ : List (S25), y_ = (x5_2 ++ [(⟨(rd_T25 l0 0).f0, (rd_T25 l0 0).f1, (rd_T25 l0 0).f2⟩ : S25)]) := ⟨_, rfl⟩
                    replace H : ((stretch_Meet.f k2 y393).bind fun bt396 => (if (bt396.1.toList == t385.toList && (bt396.2.1.toList == t386.toList && (bt396.2.2 == t387))) = true then ((stretch_Meet.f k2 (([(⟨t385, t386, t387⟩ : S25), (⟨t385, t386, t387⟩ : S25)] : List (S25)))).bind fun bt402 => (if (bt402.1.toList == t385.toList && (bt402.2.1.toList == t386.toList && (bt402.2.2 == t387))) = true then ((weirkeeperlaw03_awake.f k2).bind fun t405 => (some t405)) else (none))) else (none))) = some r := by first | (rw [hy393]; with_reducible exact H) | (have H2_ := (Option.bind_some _ _).symm.trans H; rw [hy393]; with_reducible exact H2_) | (have H2_ := (Option.bind_some _ _).symm.trans H; with_reducible exact H2_) | with_reducible exact H | (rw [hy393]; exact H) | exact H
                    have Ny393 := Aside0.mk hy393
                    clear hy393
                    replace H := Option.bind_eq_some_iff.mp H
                    obtain ⟨⟨t396, t397, t398⟩, A320, H⟩ := H
                    replace H : (if (t396.toList == t385.toList && (t397.toList == t386.toList && (t398 == t387))) = true then ((stretch_Meet.f k2 (([(⟨t385, t386, t387⟩ : S25), (⟨t385, t386, t387⟩ : S25)] : List (S25)))).bind fun bt402 => (if (bt402.1.toList == t385.toList && (bt402.2.1.toList == t386.toList && (bt402.2.2 == t387))) = true then ((weirkeeperlaw03_awake.f k2).bind fun t405 => (some t405)) else (none))) else (none)) = some r := H
                    have A32 := Aside0.mk A320
                    clear A320
                    by_cases c33 : (t396.toList == t385.toList && (t397.toList == t386.toList && (t398 == t387))) = true
                    · rw [if_pos c33] at H
                      have c33b0 : (t396.toList == t385.toList && (t397.toList == t386.toList && (t398 == t387))) = true := c33
                      (try (have c33b1 : decide (t396.toList = t385.toList && (t397.toList == t386.toList && (t398 == t387))) = true := by simpa using c33))
                      (try (have c33b2 : (t396.toList == t385.toList && (t397.toList == t386.toList && (t398 == t387))) = true := by simpa using c33))
                      clear c33
                      obtain ⟨y399, hy399⟩ : ∃ y_ : List (S25), y_ = (([(⟨t385, t386, t387⟩ : S25), (⟨t385, t386, t387⟩ : S25)] : List (S25))) := ⟨_, rfl⟩
                      replace H : ((stretch_Meet.f k2 y399).bind fun bt402 => (if (bt402.1.toList == t385.toList && (bt402.2.1.toList == t386.toList && (bt402.2.2 == t387))) = true then ((weirkeeperlaw03_awake.f k2).bind fun t405 => (some t405)) else (none))) = some r := by first | (rw [hy399]; with_reducible exact H) | (have H2_ := (Option.bind_some _ _).symm.trans H; rw [hy399]; with_reducible exact H2_) | (have H2_ := (Option.bind_some _ _).symm.trans H; with_reducible exact H2_) | with_reducible exact H | (rw [hy399]; exact H) | exact H
                      have Ny399 := Aside0.mk hy399
                      clear hy399
                      replace H := Option.bind_eq_some_iff.mp H
                      obtain ⟨⟨t402, t403, t404⟩, A340, H⟩ := H
                      replace H : (if (t402.toList == t385.toList && (t403.toList == t386.toList && (t404 == t387))) = true then ((weirkeeperlaw03_awake.f k2).bind fun t405 => (some t405)) else (none)) = some r := H
                      have A34 := Aside0.mk A340
                      clear A340
                      by_cases c35 : (t402.toList == t385.toList && (t403.toList == t386.toList && (t404 == t387))) = true
                      · rw [if_pos c35] at H
                        have c35b0 : (t402.toList == t385.toList && (t403.toList == t386.toList && (t404 == t387))) = true := c35
                        (try (have c35b1 : decide (t402.toList = t385.toList && (t403.toList == t386.toList && (t404 == t387))) = true := by simpa using c35))
                        (try (have c35b2 : (t402.toList == t385.toList && (t403.toList == t386.toList && (t404 == t387))) = true := by simpa using c35))
                        clear c35
                        replace H := Option.bind_eq_some_iff.mp H
                        obtain ⟨t405, A360, H⟩ := H
                        replace H : (some t405) = some r := H
                        have A36 := Aside0.mk A360
                        clear A360
                        obtain rfl := Option.some.inj H
                        try go_wp2_with (first | ((with_reducible refine gate_callee (f := 11) rfl ?_); refine goesL_ (some 47) rfl rfl Try.func11 (by kernel_rfl) rfl #[.slice A0 l0.length c0] rfl (by (try simp only [List.map_toArray, List.map_cons, List.map_nil]); first | done | rfl | (simp only [List.length_drop, List.length_take]; rfl)) ?_; (with_reducible refine (stretch_Meet.calls k2 _ _ l0 t385 t386 t387 _ ?side1 ?side2 A27.out).mono ?_); (case side1 => repeat (first | exact (Kd.C_below HR0.out HB.out) | (with_reducible refine Kd.C_alloc ?_ _) | (with_reducible refine Kd.C_drewN ?_ _) | (with_reducible refine Kd.C_drew ?_))); (case side2 => exact HC0.out); rintro e w37 ⟨rfl, hb⟩; refine ⟨_, rfl, ?_⟩; have n0_ := Aside0.mk (Kd.R_below (by (with_reducible repeat (first | apply Kd.R_alloc | apply Kd.R_drewN | apply Kd.R_drew)); exact HO_5.out) hb); have n1_ := Aside0.mk (below_step (by repeat (first | (with_reducible first | exact HB.out | apply below_alloc | apply pw_below_drewN | apply below_drew1) | exact HB.out)) hb); clear HO_5; clear HB; have HO_5 := n0_; have HB := n1_; clear n0_ n1_; (try clear hb); (try clear hb2); (try clear hk); (try clear hi)) | ((with_reducible refine gate_dst (N := 8) rfl ?_); (try (refine gate_guard (by rfl) ?_; dsimp only)); refine box_event ?hg (N := 8) ?hd (cs := #[.string (⟨#[]⟩ : ByteArray), .string (⟨#[]⟩ : ByteArray), .bool false]) (t := 25) ?hr ?_; (case hd => rfl); (case hg => rfl); (case hr => first | (go_simp; done) | (go_simp; rfl)); intro gb388 hg w38 hbox hb; have n0_ := Aside0.mk (Kd.R_below (Kd.R_elderB (by (with_reducible repeat (first | apply Kd.R_alloc | apply Kd.R_drewN | apply Kd.R_drew)); exact HO_5.out) gb388 (Nat.le_of_eq hg.symm)) hb); have n1_ := Aside0.mk (below_step (by repeat (first | (with_reducible first | exact HB.out | apply below_alloc | apply pw_below_drewN | apply below_drew1) | exact HB.out)) hb); have n2_ := Aside0.mk (hbox); have n3_ := Aside0.mk ((by rw [hg]; exact (below_size (by repeat (first | (with_reducible first | exact HB.out | apply below_alloc | apply pw_below_drewN | apply below_drew1) | exact HB.out))) : w.heap.size ≤ gb388)); have n4_ := Aside0.mk ((by rw [hg]; exact (below_size (by repeat (first | (with_reducible first | exact HB.out | apply below_alloc | apply pw_below_drewN | apply below_drew1) | exact HB.out))) : w.heap.size ≤ gb388)); clear HO_5; clear HB; have HO_5 := n0_; have HB := n1_; have BK388 := n2_; have GW388 := n3_; have GE388 := n4_; clear n0_ n1_ n2_ n3_ n4_; clear hb hbox hg; have hcz39_0 : w38.cell? ⟨gb388, 0, none⟩ = some (.string (⟨#[]⟩ : ByteArray)) := (blk_cell BK388.out 0).trans rfl; have hcz39_1 : w38.cell? ⟨gb388, 1, none⟩ = some (.string (⟨#[]⟩ : ByteArray)) := (blk_cell BK388.out 1).trans rfl; have hcz39_2 : w38.cell? ⟨gb388, 2, none⟩ = some (.bool false) := (blk_cell BK388.out 2).trans rfl; have hfz39_0 := blk_frozen BK388.out 0; have hfz39_1 := blk_frozen BK388.out 1; have hfz39_2 := blk_frozen BK388.out 2))
                        have n0_ : Aside0 (Kd.R k25 25 (((w38.setCell ⟨gb388, 0, none⟩ (.string t385)).setCell ⟨gb388, 1, none⟩ (.string t386)).setCell ⟨gb388, 2, none⟩ (.bool t387)) w.heap.size (fun k_ => k_ ≠ gb388) u5 x5_2) := ⟨by (with_reducible repeat (first | apply Kd.R_alloc | apply Kd.R_drewN | apply Kd.R_drew)); exact Kd.R_mono (Kd.R_far (p := ⟨gb388, 2, none⟩) (Kd.R_far (p := ⟨gb388, 1, none⟩) (Kd.R_far (p := ⟨gb388, 0, none⟩) (Kd.R_mono HO_5.out (fun k_ hk => (⟨hk, hk.2⟩ : _ ∧ k_ ≠ gb388))) (fun _ hk => hk.2) (.string t385)) (fun _ hk => hk.2) (.string t386)) (fun _ hk => hk.2) (.bool t387)) (fun _ hk => hk.1.2)⟩
                        have n1_ : Aside0 ((((w38.setCell ⟨gb388, 0, none⟩ (.string t385)).setCell ⟨gb388, 1, none⟩ (.string t386)).setCell ⟨gb388, 2, none⟩ (.bool t387)).heap[gb388]? = some (.cells #[.string t385, .string t386, .bool t387] 25 (0, 0))) := ⟨by (with_reducible repeat (first | refine blk_drewN ?_ _ | refine blk_drew ?_ | refine blk_alloc ?_ _)); refine blk_put (cs := #[.string t385, .string t386, .bool false]) ?_ 2 _ rfl; (with_reducible repeat (first | refine blk_drewN ?_ _ | refine blk_drew ?_ | refine blk_alloc ?_ _)); refine blk_put (cs := #[.string t385, .string (⟨#[]⟩ : ByteArray), .bool false]) ?_ 1 _ rfl; (with_reducible repeat (first | refine blk_drewN ?_ _ | refine blk_drew ?_ | refine blk_alloc ?_ _)); refine blk_put (cs := #[.string (⟨#[]⟩ : ByteArray), .string (⟨#[]⟩ : ByteArray), .bool false]) ?_ 0 _ rfl; (with_reducible repeat (first | refine blk_drewN ?_ _ | refine blk_drew ?_ | refine blk_alloc ?_ _)); exact BK388.out⟩
                        have n2_ : Aside0 (Below w.heap.size w (((w38.setCell ⟨gb388, 0, none⟩ (.string t385)).setCell ⟨gb388, 1, none⟩ (.string t386)).setCell ⟨gb388, 2, none⟩ (.bool t387))) := ⟨by repeat (first | (with_reducible first | exact HB.out | apply below_alloc | apply pw_below_drewN | apply below_drew1 | refine below_set ?_ GE388.out) | exact HB.out)⟩
                        (try clear HO_5)
                        (try clear BK388)
                        (try clear HB)
                        generalize (((w38.setCell ⟨gb388, 0, none⟩ (.string t385)).setCell ⟨gb388, 1, none⟩ (.string t386)).setCell ⟨gb388, 2, none⟩ (.bool t387)) = w40 at n0_ n1_ n2_ ⊢
                        have HO_5 := n0_
                        have BK388 := n1_
                        have HB := n2_
                        clear n0_ n1_ n2_
                        have n0_ := Aside0.mk (Kd.R_drew HO_5.out)
                        have n1_ := Aside0.mk (blk_drew BK388.out)
                        have n2_ := Aside0.mk (below_drew1 HB.out)
                        clear HO_5
                        clear BK388
                        clear HB
                        have HO_5 := n0_
                        have BK388 := n1_
                        have HB := n2_
                        clear n0_ n1_ n2_
                        obtain ⟨Ao42, co42, eo42⟩ := Kd.R_slice HO_5.out
                        (first | subst eo42 | (injection eo42 with f1_ f2_ f3_; have f4_ := f1_.symm; have f5_ := f3_.symm; clear f1_ f2_ f3_; subst f4_; subst f5_))
                        have p392 : 0 ≤ (0 : Int) := (by omega)
                        have q392 : 0 < (l0.length : Int) := of_decide_eq_true (by first | (with_reducible assumption) | assumption)
                        obtain ⟨ad392, e392, hx392_0, hx392_1, hx392_2⟩ := at_T25 HR0.out 0 p392 q392
                        have hw392_2 := hx392_2
                        (try rw [show ((0 : Int)).toNat = 0 from rfl] at hw392_2)
                        (try rw [show 0 * 3 = 0 from rfl] at hw392_2)
                        (try rw [Addr.add_zero'] at hw392_2)
                        have hw392_1 := hx392_1
                        (try rw [show ((0 : Int)).toNat = 0 from rfl] at hw392_1)
                        (try rw [show 0 * 3 = 0 from rfl] at hw392_1)
                        (try rw [Addr.add_zero'] at hw392_1)
                        have hw392_0 := hx392_0
                        (try rw [show ((0 : Int)).toNat = 0 from rfl] at hw392_0)
                        (try rw [show 0 * 3 = 0 from rfl] at hw392_0)
                        (try rw [Addr.add_zero'] at hw392_0)
                        cases e392
                        have qi392 : (0 < l0.length) = True := eq_true (by omega)
                        (try rw [show ((0 : Int)).toNat = 0 from rfl] at hx392_0)
                        (try rw [show 0 * 3 = 0 from rfl] at hx392_0)
                        (try rw [Addr.add_zero'] at hx392_0)
                        (try rw [show ((0 : Int)).toNat = 0 from rfl] at hx392_1)
                        (try rw [show 0 * 3 = 0 from rfl] at hx392_1)
                        (try rw [Addr.add_zero'] at hx392_1)
                        (try rw [show ((0 : Int)).toNat = 0 from rfl] at hx392_2)
                        (try rw [show 0 * 3 = 0 from rfl] at hx392_2)
                        (try rw [Addr.add_zero'] at hx392_2)
                        replace hx392_0 := (HB.out.cell (World.block_lt_of_cell? w _ hx392_0)).trans hx392_0
                        replace hx392_1 := (HB.out.cell (World.block_lt_of_cell? w _ hx392_1)).trans hx392_1
                        replace hx392_2 := (HB.out.cell (World.block_lt_of_cell? w _ hx392_2)).trans hx392_2
                        replace p392 := eq_true p392
                        replace q392 := eq_true q392
                        refine start_ (n := 27) (S := fun w' => w'.cell? ⟨gb388, 0, none⟩ = some (.string t385) ∧ w'.cell? ⟨gb388, 1, none⟩ = some (.string t386) ∧ w'.cell? ⟨gb388, 2, none⟩ = some (.bool t387) ∧ w'.cell? ad392 = some (.string ((rd_T25 l0 0).f0)) ∧ w'.cell? ⟨ad392.block, ad392.off + 1, none⟩ = some (.string ((rd_T25 l0 0).f1)) ∧ w'.cell? ⟨ad392.block, ad392.off + 2, none⟩ = some (.bool ((rd_T25 l0 0).f2))) (ds := []) #[false, false, false, false, false, false, false, false, false, false, false, false, false, false, false, false, false, false, false, false, false, false, false, false, false, false, false] (by kernel_rfl) rfl rfl ⟨(blk_cell BK388.out 0).trans rfl, (blk_cell BK388.out 1).trans rfl, (blk_cell BK388.out 2).trans rfl, ((HB.out.cell (World.block_lt_of_cell? w _ hw392_0)).trans hw392_0), ((HB.out.cell (World.block_lt_of_cell? w _ hw392_1)).trans hw392_1), ((HB.out.cell (World.block_lt_of_cell? w _ hw392_2)).trans hw392_2)⟩ (fun hHeld => ?_); refine with_tabW weirkeeperlaw03_StretchOrder.tab12 weirkeeperlaw03_StretchOrder.bits12 (fun HT_ HW_ => ?_)
                        generalize w40.drew = w41 at HO_5 BK388 HB hx392_0 hx392_1 hx392_2 hHeld ⊢
                        refine pure_ (i := 0) (N := some 48) (v := ?_) (a' := ?_) #[true, false, false, false, false, false, false, false, false, false, false, false, false, false, false, false, false, false, false, false, false, false, false, false, false, false, false] rfl rfl (any_of HT_.out (by kernel_rfl)) (fun _ _ _ h => h) (Or.inl ⟨by rfl, ?_⟩) ?_ ?_
                        rotate_left
                        · intro w'
                          go_simp
                          with_reducible rfl
                        rotate_left
                        · simp only [Act.put, List.setIfInBounds_toArray, List.set_cons_zero, List.set_cons_succ, i64_w, i32_w]
                          rfl
                        refine take_ (i := 2) (N := some 50) (v := ?_) (a' := ?_) #[true, false, true, false, false, false, false, false, false, false, false, false, false, false, false, false, false, false, false, false, false, false, false, false, false, false, false] rfl rfl (take_ofW HT_.out HW_.out (by kernel_rfl)) (fun _ _ _ h => h) (Or.inl ⟨by rfl, ?_⟩) hHeld ?_ ?_
                        rotate_left
                        · rintro w' ⟨s0, s1, s2, s3, s4, s5⟩
                          go_simp
                          with_reducible rfl
                        rotate_left
                        · simp only [Act.put, List.setIfInBounds_toArray, List.set_cons_zero, List.set_cons_succ, i64_w, i32_w]
                          rfl
                        refine one_ (i := 1) (N := some 49) #[true, true, true, false, false, false, false, false, false, false, false, false, false, false, false, false, false, false, false, false, false, false, false, false, false, false, false] rfl rfl (one_of HT_.out (by kernel_rfl)) (by decide) (fun K hK => ?_)
                        refine goes_ Try.func11 (by kernel_rfl) rfl #[.slice Ao42 x5_2.length co42] (by rfl) rfl rfl (by (try simp only [List.map_toArray, List.map_cons, List.map_nil]); first | done | rfl | (simp only [List.length_drop, List.length_take]; rfl)) ?_
                        with_reducible refine (stretch_Meet.calls k2 _ _ x5_2 t389 t390 t391 _ ?side1 ?side2 A28.out).mono ?_
                        (case side1 => repeat (first | exact (Kd.R_reads' HO_5.out).2.2 | (with_reducible refine Kd.C_alloc ?_ _) | (with_reducible refine Kd.C_drewN ?_ _) | (with_reducible refine Kd.C_drew ?_)))
                        (case side2 => exact (Kd.R_reads' HO_5.out).2.1)
                        rintro e w43 ⟨rfl, hb⟩
                        refine ⟨_, rfl, ?_⟩
                        have n0_ := Aside0.mk (Kd.R_below (by (with_reducible repeat (first | apply Kd.R_alloc | apply Kd.R_drewN | apply Kd.R_drew)); exact HO_5.out) hb)
                        have n1_ := Aside0.mk (blk_below (g := gb388) (o := .cells #[.string t385, .string t386, .bool t387] 25 (0, 0)) (by (with_reducible repeat (first | refine blk_drewN ?_ _ | refine blk_drew ?_ | refine blk_alloc ?_ _)); exact BK388.out) hb)
                        have n2_ := Aside0.mk (below_step (by repeat (first | (with_reducible first | exact HB.out | apply below_alloc | apply pw_below_drewN | apply below_drew1 | refine below_set ?_ GE388.out) | exact HB.out)) hb)
                        clear HO_5
                        clear BK388
                        clear HB
                        have HO_5 := n0_
                        have BK388 := n1_
                        have HB := n2_
                        clear n0_ n1_ n2_
                        (try clear hb)
                        (try clear hb2)
                        (try clear hk)
                        (try clear hi)
                        refine hK.out _ _ ⟨(blk_cell BK388.out 0).trans rfl, (blk_cell BK388.out 1).trans rfl, (blk_cell BK388.out 2).trans rfl, ((HB.out.cell (World.block_lt_of_cell? w _ hw392_0)).trans hw392_0), ((HB.out.cell (World.block_lt_of_cell? w _ hw392_1)).trans hw392_1), ((HB.out.cell (World.block_lt_of_cell? w _ hw392_2)).trans hw392_2)⟩ (fun hHeld => ?_)
                        clear hK K
                        refine norm_ (a' := ?_) ?_ ?_
                        rotate_left
                        · show Act.put _ (some 49) _ = _
                          simp only [Act.put, List.setIfInBounds_toArray, List.set_cons_zero, List.set_cons_succ, i64_w, i32_w]
                          rfl
                        refine pure_ (i := 3) (N := some 51) (v := ?_) (a' := ?_) #[true, true, true, true, false, false, false, false, false, false, false, false, false, false, false, false, false, false, false, false, false, false, false, false, false, false, false] rfl rfl (any_of HT_.out (by kernel_rfl)) (fun _ _ _ h => h) (Or.inl ⟨by rfl, ?_⟩) ?_ ?_
                        rotate_left
                        · intro w'
                          go_simp
                          with_reducible rfl
                        rotate_left
                        · simp only [Act.put, List.setIfInBounds_toArray, List.set_cons_zero, List.set_cons_succ, i64_w, i32_w]
                          rfl
                        refine pure_ (i := 4) (N := some 52) (v := ?_) (a' := ?_) #[true, true, true, true, true, false, false, false, false, false, false, false, false, false, false, false, false, false, false, false, false, false, false, false, false, false, false] rfl rfl (any_of HT_.out (by kernel_rfl)) (fun _ _ _ h => h) (Or.inl ⟨by rfl, ?_⟩) ?_ ?_
                        rotate_left
                        · intro w'
                          go_simp
                          with_reducible rfl
                        rotate_left
                        · simp only [Act.put, List.setIfInBounds_toArray, List.set_cons_zero, List.set_cons_succ, i64_w, i32_w]
                          rfl
                        refine pure_ (i := 5) (N := some 53) (v := ?_) (a' := ?_) #[true, true, true, true, true, true, false, false, false, false, false, false, false, false, false, false, false, false, false, false, false, false, false, false, false, false, false] rfl rfl (any_of HT_.out (by kernel_rfl)) (fun _ _ _ h => h) (Or.inl ⟨by rfl, ?_⟩) ?_ ?_
                        rotate_left
                        · intro w'
                          go_simp
                          with_reducible rfl
                        rotate_left
                        · simp only [Act.put, List.setIfInBounds_toArray, List.set_cons_zero, List.set_cons_succ, i64_w, i32_w]
                          rfl
                        refine pure_ (i := 6) (N := some 54) (v := ?_) (a' := ?_) #[true, true, true, true, true, true, true, false, false, false, false, false, false, false, false, false, false, false, false, false, false, false, false, false, false, false, false] rfl rfl (any_of HT_.out (by kernel_rfl)) (fun _ _ _ h => h) (Or.inl ⟨by rfl, ?_⟩) ?_ ?_
                        rotate_left
                        · intro w'
                          go_simp
                          with_reducible rfl
                        rotate_left
                        · simp only [Act.put, List.setIfInBounds_toArray, List.set_cons_zero, List.set_cons_succ, i64_w, i32_w]
                          rfl
                        refine pure_ (i := 7) (N := some 55) (v := ?_) (a' := ?_) #[true, true, true, true, true, true, true, true, false, false, false, false, false, false, false, false, false, false, false, false, false, false, false, false, false, false, false] rfl rfl (any_of HT_.out (by kernel_rfl)) (fun _ _ _ h => h) (Or.inl ⟨by rfl, ?_⟩) ?_ ?_
                        rotate_left
                        · intro w'
                          go_simp
                          with_reducible rfl
                        rotate_left
                        · simp only [Act.put, List.setIfInBounds_toArray, List.set_cons_zero, List.set_cons_succ, i64_w, i32_w]
                          rfl
                        refine take_ (i := 8) (N := some 56) (v := ?_) (a' := ?_) #[true, true, true, true, true, true, true, true, true, false, false, false, false, false, false, false, false, false, false, false, false, false, false, false, false, false, false] rfl rfl (take_ofW HT_.out HW_.out (by kernel_rfl)) (fun _ _ _ h => h) (Or.inl ⟨by rfl, ?_⟩) hHeld ?_ ?_
                        rotate_left
                        · rintro w' ⟨s0, s1, s2, s3, s4, s5⟩
                          go_simp
                          with_reducible rfl
                        rotate_left
                        · simp only [Act.put, List.setIfInBounds_toArray, List.set_cons_zero, List.set_cons_succ, i64_w, i32_w]
                          rfl
                        refine take_ (i := 12) (N := some 60) (v := ?_) (a' := ?_) #[true, true, true, true, true, true, true, true, true, false, false, false, true, false, false, false, false, false, false, false, false, false, false, false, false, false, false] rfl rfl (take_ofW HT_.out HW_.out (by kernel_rfl)) (fun _ _ _ h => h) (Or.inl ⟨by rfl, ?_⟩) hHeld ?_ ?_
                        rotate_left
                        · rintro w' ⟨s0, s1, s2, s3, s4, s5⟩
                          go_simp
                          with_reducible rfl
                        rotate_left
                        · simp only [Act.put, List.setIfInBounds_toArray, List.set_cons_zero, List.set_cons_succ, i64_w, i32_w]
                          rfl
                        refine one_ (i := 9) (N := some 57) #[true, true, true, true, true, true, true, true, true, true, false, false, true, false, false, false, false, false, false, false, false, false, false, false, false, false, false] rfl rfl (one_of HT_.out (by kernel_rfl)) (by decide) (fun K hK => ?_)
                        refine value_ (w1 := ?_) (v := ?_) (by rfl) rfl ?_ ?_
                        rotate_left 2
                        · go_simp
                          constructor
                          · rfl
                          · rfl
                        refine hK.out _ _ ⟨(blk_cell (blk_alloc BK388.out _) 0).trans rfl, (blk_cell (blk_alloc BK388.out _) 1).trans rfl, (blk_cell (blk_alloc BK388.out _) 2).trans rfl, (World.cell?_alloc_lt _ _ _ (World.block_lt_of_cell? _ _ (((HB.out.cell (World.block_lt_of_cell? w _ hw392_0)).trans hw392_0)))).trans (((HB.out.cell (World.block_lt_of_cell? w _ hw392_0)).trans hw392_0)), (World.cell?_alloc_lt _ _ _ (World.block_lt_of_cell? _ _ (((HB.out.cell (World.block_lt_of_cell? w _ hw392_1)).trans hw392_1)))).trans (((HB.out.cell (World.block_lt_of_cell? w _ hw392_1)).trans hw392_1)), (World.cell?_alloc_lt _ _ _ (World.block_lt_of_cell? _ _ (((HB.out.cell (World.block_lt_of_cell? w _ hw392_2)).trans hw392_2)))).trans (((HB.out.cell (World.block_lt_of_cell? w _ hw392_2)).trans hw392_2))⟩ (fun hHeld => ?_)
                        clear hK K
                        refine norm_ (a' := ?_) ?_ ?_
                        rotate_left
                        · show Act.put _ (some 57) _ = _
                          simp only [Act.put, List.setIfInBounds_toArray, List.set_cons_zero, List.set_cons_succ, i64_w, i32_w]
                          rfl
                        refine one_ (i := 10) (N := some 58) #[true, true, true, true, true, true, true, true, true, true, true, false, true, false, false, false, false, false, false, false, false, false, false, false, false, false, false] rfl rfl (one_of HT_.out (by kernel_rfl)) (by decide) (fun K hK => ?_)
                        refine Kd.R_append_step k25 (w0 := w) w.heap.size (by rfl) (.tmp 53) (.tmp 57) 22 25 (.agg #[(.string ⟨#[]⟩), (.string ⟨#[]⟩), (.bool false)]) 40 rfl Try.underlying22 info25 rfl (by decide) (by omega) (.slice Ao42 x5_2.length co42) x5_2 (⟨(rd_T25 l0 0).f0, (rd_T25 l0 0).f1, (rd_T25 l0 0).f2⟩ : S25) [.string ((rd_T25 l0 0).f0), .string ((rd_T25 l0 0).f1), .bool ((rd_T25 l0 0).f2)] (fun k_ => k_ ≠ gb388) (fun _ => False) rfl rfl ?aP (fun _ hk => hk.elim) ?aF ?aO ?aB ?aS ?aL ?_
                        (case aP => exact k25_mkM _ _ _ (⟨(rd_T25 l0 0).f0, (rd_T25 l0 0).f1, (rd_T25 l0 0).f2⟩ : S25))
                        (case aB => exact (by repeat (first | (with_reducible first | exact HB.out | apply below_alloc | apply pw_below_drewN | apply below_drew1 | refine below_set ?_ GE388.out) | exact HB.out)))
                        (case aF => exact (fun k_ hk => Kd.freshB (g := gb388) (o := .cells #[.string t385, .string t386, .bool t387] 25 (0, 0)) (by (with_reducible repeat (first | refine blk_drewN ?_ _ | refine blk_drew ?_ | refine blk_alloc ?_ _)); exact BK388.out) k_ hk))
                        (case aO => exact (by (with_reducible repeat (first | apply Kd.R_alloc | apply Kd.R_drewN | apply Kd.R_drew)); exact HO_5.out))
                        (case aS => exact (below_size (by repeat (first | (with_reducible first | exact HB.out | apply below_alloc | apply pw_below_drewN | apply below_drew1 | refine below_set ?_ GE388.out) | exact HB.out))))
                        (case aL => have := LMc31.out; omega)
                        intro v394 w44 ho hb hg hat
                        rw [← Ny393.out] at ho
                        have n0_ := Aside0.mk (blk_grown (g := gb388) (o := .cells #[.string t385, .string t386, .bool t387] 25 (0, 0)) (by (with_reducible repeat (first | refine blk_drewN ?_ _ | refine blk_drew ?_ | refine blk_alloc ?_ _)); exact BK388.out) hg (Kd.R_away HO_5.out (fun _ hk => hk)))
                        have n1_ := Aside0.mk (hb)
                        have n2_ := Aside0.mk (ho)
                        clear BK388
                        clear HB
                        clear HO_5
                        have BK388 := n0_
                        have HB := n1_
                        have HO395 := n2_
                        clear n0_ n1_ n2_
                        clear ho hb hg hat
                        obtain ⟨Ao45, co45, eo45⟩ := Kd.R_slice HO395.out
                        (first | subst eo45 | (injection eo45 with f1_ f2_ f3_; have f4_ := f1_.symm; have f5_ := f3_.symm; clear f1_ f2_ f3_; subst f4_; subst f5_))
                        refine hK.out _ _ ⟨(blk_cell BK388.out 0).trans rfl, (blk_cell BK388.out 1).trans rfl, (blk_cell BK388.out 2).trans rfl, ((HB.out.cell (World.block_lt_of_cell? w _ hw392_0)).trans hw392_0), ((HB.out.cell (World.block_lt_of_cell? w _ hw392_1)).trans hw392_1), ((HB.out.cell (World.block_lt_of_cell? w _ hw392_2)).trans hw392_2)⟩ (fun hHeld => ?_)
                        clear hK K
                        refine norm_ (a' := ?_) ?_ ?_
                        rotate_left
                        · show Act.put _ (some 58) _ = _
                          simp only [Act.put, List.setIfInBounds_toArray, List.set_cons_zero, List.set_cons_succ, i64_w, i32_w]
                          rfl
                        refine one_ (i := 11) (N := some 59) #[true, true, true, true, true, true, true, true, true, true, true, true, true, false, false, false, false, false, false, false, false, false, false, false, false, false, false] rfl rfl (one_of HT_.out (by kernel_rfl)) (by decide) (fun K hK => ?_)
                        refine goes_ Try.func11 (by kernel_rfl) rfl #[.slice Ao45 y393.length co45] (by rfl) rfl rfl (by (try simp only [List.map_toArray, List.map_cons, List.map_nil]); first | done | rfl | (simp only [List.length_drop, List.length_take]; rfl)) ?_
                        with_reducible refine (stretch_Meet.calls k2 _ _ y393 t396 t397 t398 _ ?side1 ?side2 A32.out).mono ?_
                        (case side1 => repeat (first | exact (Kd.R_reads' HO395.out).2.2 | (with_reducible refine Kd.C_alloc ?_ _) | (with_reducible refine Kd.C_drewN ?_ _) | (with_reducible refine Kd.C_drew ?_)))
                        (case side2 => exact (Kd.R_reads' HO395.out).2.1)
                        rintro e w46 ⟨rfl, hb⟩
                        refine ⟨_, rfl, ?_⟩
                        have n0_ := Aside0.mk (Kd.R_below (by (with_reducible repeat (first | apply Kd.R_alloc | apply Kd.R_drewN | apply Kd.R_drew)); exact HO395.out) hb)
                        have n1_ := Aside0.mk (blk_below (g := gb388) (o := .cells #[.string t385, .string t386, .bool t387] 25 (0, 0)) (by (with_reducible repeat (first | refine blk_drewN ?_ _ | refine blk_drew ?_ | refine blk_alloc ?_ _)); exact BK388.out) hb)
                        have n2_ := Aside0.mk (below_step (by repeat (first | (with_reducible first | exact HB.out | apply below_alloc | apply pw_below_drewN | apply below_drew1 | refine below_set ?_ GE388.out) | exact HB.out)) hb)
                        clear HO395
                        clear BK388
                        clear HB
                        have HO395 := n0_
                        have BK388 := n1_
                        have HB := n2_
                        clear n0_ n1_ n2_
                        (try clear hb)
                        (try clear hb2)
                        (try clear hk)
                        (try clear hi)
                        refine hK.out _ _ ⟨(blk_cell BK388.out 0).trans rfl, (blk_cell BK388.out 1).trans rfl, (blk_cell BK388.out 2).trans rfl, ((HB.out.cell (World.block_lt_of_cell? w _ hw392_0)).trans hw392_0), ((HB.out.cell (World.block_lt_of_cell? w _ hw392_1)).trans hw392_1), ((HB.out.cell (World.block_lt_of_cell? w _ hw392_2)).trans hw392_2)⟩ (fun hHeld => ?_)
                        clear hK K
                        refine norm_ (a' := ?_) ?_ ?_
                        rotate_left
                        · show Act.put _ (some 59) _ = _
                          simp only [Act.put, List.setIfInBounds_toArray, List.set_cons_zero, List.set_cons_succ, i64_w, i32_w]
                          rfl
                        refine pure_ (i := 13) (N := some 61) (v := ?_) (a' := ?_) #[true, true, true, true, true, true, true, true, true, true, true, true, true, true, false, false, false, false, false, false, false, false, false, false, false, false, false] rfl rfl (any_of HT_.out (by kernel_rfl)) (fun _ _ _ h => h) (Or.inl ⟨by rfl, ?_⟩) ?_ ?_
                        rotate_left
                        · intro w'
                          go_simp
                          with_reducible rfl
                        rotate_left
                        · simp only [Act.put, List.setIfInBounds_toArray, List.set_cons_zero, List.set_cons_succ, i64_w, i32_w]
                          rfl
                        refine pure_ (i := 14) (N := some 62) (v := ?_) (a' := ?_) #[true, true, true, true, true, true, true, true, true, true, true, true, true, true, true, false, false, false, false, false, false, false, false, false, false, false, false] rfl rfl (any_of HT_.out (by kernel_rfl)) (fun _ _ _ h => h) (Or.inl ⟨by rfl, ?_⟩) ?_ ?_
                        rotate_left
                        · intro w'
                          go_simp
                          with_reducible rfl
                        rotate_left
                        · simp only [Act.put, List.setIfInBounds_toArray, List.set_cons_zero, List.set_cons_succ, i64_w, i32_w]
                          rfl
                        refine pure_ (i := 15) (N := some 63) (v := ?_) (a' := ?_) #[true, true, true, true, true, true, true, true, true, true, true, true, true, true, true, true, false, false, false, false, false, false, false, false, false, false, false] rfl rfl (any_of HT_.out (by kernel_rfl)) (fun _ _ _ h => h) (Or.inl ⟨by rfl, ?_⟩) ?_ ?_
                        rotate_left
                        · intro w'
                          go_simp
                          with_reducible rfl
                        rotate_left
                        · simp only [Act.put, List.setIfInBounds_toArray, List.set_cons_zero, List.set_cons_succ, i64_w, i32_w]
                          rfl
                        refine take_ (i := 16) (N := some 64) (v := ?_) (a' := ?_) #[true, true, true, true, true, true, true, true, true, true, true, true, true, true, true, true, true, false, false, false, false, false, false, false, false, false, false] rfl rfl (take_ofW HT_.out HW_.out (by kernel_rfl)) (fun _ _ _ h => h) (Or.inl ⟨by rfl, ?_⟩) hHeld ?_ ?_
                        rotate_left
                        · rintro w' ⟨s0, s1, s2, s3, s4, s5⟩
                          go_simp
                          with_reducible rfl
                        rotate_left
                        · simp only [Act.put, List.setIfInBounds_toArray, List.set_cons_zero, List.set_cons_succ, i64_w, i32_w]
                          rfl
                        refine take_ (i := 17) (N := some 65) (v := ?_) (a' := ?_) #[true, true, true, true, true, true, true, true, true, true, true, true, true, true, true, true, true, true, false, false, false, false, false, false, false, false, false] rfl rfl (take_ofW HT_.out HW_.out (by kernel_rfl)) (fun _ _ _ h => h) (Or.inl ⟨by rfl, ?_⟩) hHeld ?_ ?_
                        rotate_left
                        · rintro w' ⟨s0, s1, s2, s3, s4, s5⟩
                          go_simp
                          with_reducible rfl
                        rotate_left
                        · simp only [Act.put, List.setIfInBounds_toArray, List.set_cons_zero, List.set_cons_succ, i64_w, i32_w]
                          rfl
                        refine take_ (i := 20) (N := some 68) (v := ?_) (a' := ?_) #[true, true, true, true, true, true, true, true, true, true, true, true, true, true, true, true, true, true, false, false, true, false, false, false, false, false, false] rfl rfl (take_ofW HT_.out HW_.out (by kernel_rfl)) (fun _ _ _ h => h) (Or.inl ⟨by rfl, ?_⟩) hHeld ?_ ?_
                        rotate_left
                        · rintro w' ⟨s0, s1, s2, s3, s4, s5⟩
                          go_simp
                          with_reducible rfl
                        rotate_left
                        · simp only [Act.put, List.setIfInBounds_toArray, List.set_cons_zero, List.set_cons_succ, i64_w, i32_w]
                          rfl
                        refine one_ (i := 18) (N := some 66) #[true, true, true, true, true, true, true, true, true, true, true, true, true, true, true, true, true, true, true, false, true, false, false, false, false, false, false] rfl rfl (one_of HT_.out (by kernel_rfl)) (by decide) (fun K hK => ?_)
                        refine Kd.R_lit_step k25 _ 25 ?hg (N := 66) ?hd (xs := ([(⟨t385, t386, t387⟩ : S25), (⟨t385, t386, t387⟩ : S25)] : List (S25))) (inner := [.string t385, .string t386, .bool t387, .string t385, .string t386, .bool t387]) (ok := fun _ => True) (okp := fun _ => True) ?hr ?hp (fun _ hk => hk) trivial (Below.refl _ _) (Nat.le_refl _) (by simp) ?_; (case hd => rfl); (case hg => rfl); (case hr => first | (go_simp; done) | (go_simp; rfl)); (case hp => exact (Reps.c3 (show Kd.M k25 _ _ _ (⟨t385, t386, t387⟩ : S25) [.string t385, .string t386, .bool t387] from (k25_mkM _ _ _ (⟨t385, t386, t387⟩ : S25) )) (Reps.c3 (show Kd.M k25 _ _ _ (⟨t385, t386, t387⟩ : S25) [.string t385, .string t386, .bool t387] from (k25_mkM _ _ _ (⟨t385, t386, t387⟩ : S25) )) (Reps.none _ _))))
                        intro v400 w47 ho48 hb hg_ hnew_
                        clear hg_ hnew_
                        (first | rw [← Ny399.out] at ho48 | (simp only [Int.reduceToNat] at ho48; rw [← Ny399.out] at ho48))
                        have n0_ := Aside0.mk (Kd.R_elder' (by (with_reducible repeat (first | apply Kd.R_alloc | apply Kd.R_drewN | apply Kd.R_drew)); exact HO395.out) (Kd.R_base ho48) hb)
                        have n1_ := Aside0.mk (Kd.R_lower (Kd.R_newB (Kd.R_new' ho48 (Kd.R_lt (by (with_reducible repeat (first | apply Kd.R_alloc | apply Kd.R_drewN | apply Kd.R_drew)); exact HO395.out))) (g := gb388) (o := .cells #[.string t385, .string t386, .bool t387] 25 (0, 0)) (by (with_reducible repeat (first | refine blk_drewN ?_ _ | refine blk_drew ?_ | refine blk_alloc ?_ _)); exact BK388.out)) (below_size (by repeat (first | (with_reducible first | exact HB.out | apply below_alloc | apply pw_below_drewN | apply below_drew1 | refine below_set ?_ GE388.out) | exact HB.out))))
                        have n2_ := Aside0.mk (blk_below (g := gb388) (o := .cells #[.string t385, .string t386, .bool t387] 25 (0, 0)) (by (with_reducible repeat (first | refine blk_drewN ?_ _ | refine blk_drew ?_ | refine blk_alloc ?_ _)); exact BK388.out) hb)
                        have n3_ := Aside0.mk (below_step (by repeat (first | (with_reducible first | exact HB.out | apply below_alloc | apply pw_below_drewN | apply below_drew1 | refine below_set ?_ GE388.out) | exact HB.out)) hb)
                        clear HO395
                        clear BK388
                        clear HB
                        have HO395 := n0_
                        have HO401 := n1_
                        have BK388 := n2_
                        have HB := n3_
                        clear n0_ n1_ n2_ n3_
                        clear hb ho48
                        obtain ⟨Ao49, co49, eo49⟩ := Kd.R_slice HO401.out
                        (first | subst eo49 | (injection eo49 with f1_ f2_ f3_; have f4_ := f1_.symm; have f5_ := f3_.symm; clear f1_ f2_ f3_; subst f4_; subst f5_))
                        refine hK.out _ _ ⟨(blk_cell BK388.out 0).trans rfl, (blk_cell BK388.out 1).trans rfl, (blk_cell BK388.out 2).trans rfl, ((HB.out.cell (World.block_lt_of_cell? w _ hw392_0)).trans hw392_0), ((HB.out.cell (World.block_lt_of_cell? w _ hw392_1)).trans hw392_1), ((HB.out.cell (World.block_lt_of_cell? w _ hw392_2)).trans hw392_2)⟩ (fun hHeld => ?_)
                        clear hK K
                        refine norm_ (a' := ?_) ?_ ?_
                        rotate_left
                        · show Act.put _ (some 66) _ = _
                          simp only [Act.put, List.setIfInBounds_toArray, List.set_cons_zero, List.set_cons_succ, i64_w, i32_w]
                          rfl
                        refine one_ (i := 19) (N := some 67) #[true, true, true, true, true, true, true, true, true, true, true, true, true, true, true, true, true, true, true, true, true, false, false, false, false, false, false] rfl rfl (one_of HT_.out (by kernel_rfl)) (by decide) (fun K hK => ?_)
                        refine goes_ Try.func11 (by kernel_rfl) rfl #[.slice Ao49 y399.length co49] (by rfl) rfl rfl (by (try simp only [List.map_toArray, List.map_cons, List.map_nil]); first | done | rfl | (simp only [List.length_drop, List.length_take]; rfl)) ?_
                        with_reducible refine (stretch_Meet.calls k2 _ _ y399 t402 t403 t404 _ ?side1 ?side2 A34.out).mono ?_
                        (case side1 => repeat (first | exact (Kd.R_reads' HO401.out).2.2 | (with_reducible refine Kd.C_alloc ?_ _) | (with_reducible refine Kd.C_drewN ?_ _) | (with_reducible refine Kd.C_drew ?_)))
                        (case side2 => exact (Kd.R_reads' HO401.out).2.1)
                        rintro e w50 ⟨rfl, hb⟩
                        refine ⟨_, rfl, ?_⟩
                        have n0_ := Aside0.mk (Kd.R_below (by (with_reducible repeat (first | apply Kd.R_alloc | apply Kd.R_drewN | apply Kd.R_drew)); exact HO395.out) hb)
                        have n1_ := Aside0.mk (Kd.R_below (by (with_reducible repeat (first | apply Kd.R_alloc | apply Kd.R_drewN | apply Kd.R_drew)); exact HO401.out) hb)
                        have n2_ := Aside0.mk (blk_below (g := gb388) (o := .cells #[.string t385, .string t386, .bool t387] 25 (0, 0)) (by (with_reducible repeat (first | refine blk_drewN ?_ _ | refine blk_drew ?_ | refine blk_alloc ?_ _)); exact BK388.out) hb)
                        have n3_ := Aside0.mk (below_step (by repeat (first | (with_reducible first | exact HB.out | apply below_alloc | apply pw_below_drewN | apply below_drew1 | refine below_set ?_ GE388.out) | exact HB.out)) hb)
                        clear HO395
                        clear HO401
                        clear BK388
                        clear HB
                        have HO395 := n0_
                        have HO401 := n1_
                        have BK388 := n2_
                        have HB := n3_
                        clear n0_ n1_ n2_ n3_
                        (try clear hb)
                        (try clear hb2)
                        (try clear hk)
                        (try clear hi)
                        refine hK.out _ _ ⟨(blk_cell BK388.out 0).trans rfl, (blk_cell BK388.out 1).trans rfl, (blk_cell BK388.out 2).trans rfl, ((HB.out.cell (World.block_lt_of_cell? w _ hw392_0)).trans hw392_0), ((HB.out.cell (World.block_lt_of_cell? w _ hw392_1)).trans hw392_1), ((HB.out.cell (World.block_lt_of_cell? w _ hw392_2)).trans hw392_2)⟩ (fun hHeld => ?_)
                        clear hK K
                        refine norm_ (a' := ?_) ?_ ?_
                        rotate_left
                        · show Act.put _ (some 67) _ = _
                          simp only [Act.put, List.setIfInBounds_toArray, List.set_cons_zero, List.set_cons_succ, i64_w, i32_w]
                          rfl
                        refine pure_ (i := 21) (N := some 69) (v := ?_) (a' := ?_) #[true, true, true, true, true, true, true, true, true, true, true, true, true, true, true, true, true, true, true, true, true, true, false, false, false, false, false] rfl rfl (any_of HT_.out (by kernel_rfl)) (fun _ _ _ h => h) (Or.inl ⟨by rfl, ?_⟩) ?_ ?_
                        rotate_left
                        · intro w'
                          go_simp
                          with_reducible rfl
                        rotate_left
                        · simp only [Act.put, List.setIfInBounds_toArray, List.set_cons_zero, List.set_cons_succ, i64_w, i32_w]
                          rfl
                        refine pure_ (i := 22) (N := some 70) (v := ?_) (a' := ?_) #[true, true, true, true, true, true, true, true, true, true, true, true, true, true, true, true, true, true, true, true, true, true, true, false, false, false, false] rfl rfl (any_of HT_.out (by kernel_rfl)) (fun _ _ _ h => h) (Or.inl ⟨by rfl, ?_⟩) ?_ ?_
                        rotate_left
                        · intro w'
                          go_simp
                          with_reducible rfl
                        rotate_left
                        · simp only [Act.put, List.setIfInBounds_toArray, List.set_cons_zero, List.set_cons_succ, i64_w, i32_w]
                          rfl
                        refine pure_ (i := 23) (N := some 71) (v := ?_) (a' := ?_) #[true, true, true, true, true, true, true, true, true, true, true, true, true, true, true, true, true, true, true, true, true, true, true, true, false, false, false] rfl rfl (any_of HT_.out (by kernel_rfl)) (fun _ _ _ h => h) (Or.inl ⟨by rfl, ?_⟩) ?_ ?_
                        rotate_left
                        · intro w'
                          go_simp
                          with_reducible rfl
                        rotate_left
                        · simp only [Act.put, List.setIfInBounds_toArray, List.set_cons_zero, List.set_cons_succ, i64_w, i32_w]
                          rfl
                        refine one_ (i := 24) (N := some 72) #[true, true, true, true, true, true, true, true, true, true, true, true, true, true, true, true, true, true, true, true, true, true, true, true, true, false, false] rfl rfl (one_of HT_.out (by kernel_rfl)) (by decide) (fun K hK => ?_)
                        refine goes_ Try.func8 (by kernel_rfl) rfl #[] (by rfl) rfl rfl (by (try simp only [List.map_toArray, List.map_cons, List.map_nil]); first | done | rfl | (simp only [List.length_drop, List.length_take]; rfl)) ?_
                        with_reducible refine (weirkeeperlaw03_awake.calls k2  t405 _ A36.out).mono ?_
                        rintro e w51 ⟨rfl, hb⟩
                        refine ⟨_, rfl, ?_⟩
                        have n0_ := Aside0.mk (Kd.R_below (by (with_reducible repeat (first | apply Kd.R_alloc | apply Kd.R_drewN | apply Kd.R_drew)); exact HO395.out) hb)
                        have n1_ := Aside0.mk (Kd.R_below (by (with_reducible repeat (first | apply Kd.R_alloc | apply Kd.R_drewN | apply Kd.R_drew)); exact HO401.out) hb)
                        have n2_ := Aside0.mk (blk_below (g := gb388) (o := .cells #[.string t385, .string t386, .bool t387] 25 (0, 0)) (by (with_reducible repeat (first | refine blk_drewN ?_ _ | refine blk_drew ?_ | refine blk_alloc ?_ _)); exact BK388.out) hb)
                        have n3_ := Aside0.mk (below_step (by repeat (first | (with_reducible first | exact HB.out | apply below_alloc | apply pw_below_drewN | apply below_drew1 | refine below_set ?_ GE388.out) | exact HB.out)) hb)
                        clear HO395
                        clear HO401
                        clear BK388
                        clear HB
                        have HO395 := n0_
                        have HO401 := n1_
                        have BK388 := n2_
                        have HB := n3_
                        clear n0_ n1_ n2_ n3_
                        (try clear hb)
                        (try clear hb2)
                        (try clear hk)
                        (try clear hi)
                        refine hK.out _ _ ⟨(blk_cell BK388.out 0).trans rfl, (blk_cell BK388.out 1).trans rfl, (blk_cell BK388.out 2).trans rfl, ((HB.out.cell (World.block_lt_of_cell? w _ hw392_0)).trans hw392_0), ((HB.out.cell (World.block_lt_of_cell? w _ hw392_1)).trans hw392_1), ((HB.out.cell (World.block_lt_of_cell? w _ hw392_2)).trans hw392_2)⟩ (fun hHeld => ?_)
                        clear hK K
                        refine norm_ (a' := ?_) ?_ ?_
                        rotate_left
                        · show Act.put _ (some 72) _ = _
                          simp only [Act.put, List.setIfInBounds_toArray, List.set_cons_zero, List.set_cons_succ, i64_w, i32_w]
                          rfl
                        refine pure_ (i := 25) (N := some 73) (v := ?_) (a' := ?_) #[true, true, true, true, true, true, true, true, true, true, true, true, true, true, true, true, true, true, true, true, true, true, true, true, true, true, false] rfl rfl (any_of HT_.out (by kernel_rfl)) (fun _ _ _ h => h) (Or.inl ⟨by rfl, ?_⟩) ?_ ?_
                        rotate_left
                        · intro w'
                          go_simp
                          with_reducible rfl
                        rotate_left
                        · simp only [Act.put, List.setIfInBounds_toArray, List.set_cons_zero, List.set_cons_succ, i64_w, i32_w]
                          rfl
                        refine pure_ (i := 26) (N := some 4) (v := ?_) (a' := ?_) #[true, true, true, true, true, true, true, true, true, true, true, true, true, true, true, true, true, true, true, true, true, true, true, true, true, true, true] rfl rfl (any_of HT_.out (by kernel_rfl)) (fun _ _ _ h => h) (Or.inl ⟨by rfl, ?_⟩) ?_ ?_
                        rotate_left
                        · intro w'
                          go_simp
                          with_reducible rfl
                        rotate_left
                        · simp only [Act.put, List.setIfInBounds_toArray, List.set_cons_zero, List.set_cons_succ, i64_w, i32_w]
                          rfl
                        refine done_ (done_of HT_.out (by kernel_rfl)) ?_
                        try go_wp2
                        go_ret
                        exact ⟨by first | rfl | (simp [errW_none, errW_some] <;> rfl) | (simp [*, errW_none, errW_some] <;> rfl), by repeat (first | (with_reducible first | exact HB.out | apply below_alloc | apply pw_below_drewN | apply below_drew1 | refine below_set ?_ GE388.out) | exact HB.out)⟩
                      · rw [if_neg c35] at H
                        exact absurd H (by simp)
                    · rw [if_neg c33] at H
                      exact absurd H (by simp)
                  · rw [if_neg c31] at H
                    exact absurd H (by simp)
                · rw [if_neg c30] at H
                  exact absurd H (by simp)
              · rw [if_neg c29] at H
                exact absurd H (by simp)

-- NOT PRINTED: function 23 (api_Pair_23)

-- NOT PRINTED: function 20 (api_Pair_20)

-- NOT PRINTED: function 21 (api_Pair_21)

-- NOT PRINTED: function 17 (stretch_Pick)

end Go.Proofs.Ytbfhojfeolejlaa.X
