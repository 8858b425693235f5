-- Written by a program of this session (wip/tools/xprint.py) out of the translation. Not trusted: Lean checks it.
import Derived.Test.YtgjngaeoojcioaaXx0
import Derived.Test.YtgjngaeoojcioaaXx5
import Derived.Test.YtgjngaeoojcioaaXx9
import Derived.Test.YtgjngaeoojcioaaXx11
namespace Go.Proofs.Ytgjngaeoojcioaa.X
open Go.RowKit Go.Proofs.YtgjngaeoojcioaaW.PrintWords Go.Proofs.YtgjngaeoojcioaaW.PrintLast Go.Proofs.YtgjngaeoojcioaaW.PrintMore
attribute [local go_sem] max2_int min2_int max_two min_two max_three min_three max_four min_four max2_str min2_str   -- for this text's walks alone
set_option linter.unusedVariables false
set_option linter.unusedSimpArgs false

/-! ### weirkeeperlaw14_CacheMost: function 8 -/
mutual
def weirkeeperlaw14_CacheMost.l0 : Nat → List (S27) → Int → Int → Int → List (S27) → Int → Int → Int → List (S27) → Option (Bool)
  | 0, _, _, _, _, _, _, _, _, _ => none
  | k + 1, x1, x5, x7, x8, x30, x31, x32, x602000, x602001 => if x32 < x31 then (if 0 ≤ x32 then (if x32 < (x30.length : Int) then (if x32 ≤ (x1.length : Int) then ((some (x1.take (x32 : Int).toNat : List (S27))).bind fun y605 => (weirkeeperlaw14_CacheMost.l1 k x1 x5 x7 x8 false x30 x31 x32 y605 (y605.length : Int) 0 x602000 x602001 ((rd_T27 x30 x32).f0) ((rd_T27 x30 x32).f1) ((rd_T27 x30 x32).f2))) else (none)) else (none)) else (none)) else (if x7 = 0 then (if (x602001.length : Int) = (mn x5 x8) then ((weirkeeperlaw14_awake.f k).bind fun t602 => (some t602)) else (none)) else (none))
def weirkeeperlaw14_CacheMost.l1 : Nat → List (S27) → Int → Int → Int → Bool → List (S27) → Int → Int → List (S27) → Int → Int → Int → List (S27) → Int → ByteArray → Bool → Option (Bool)
  | 0, _, _, _, _, _, _, _, _, _, _, _, _, _, _, _, _ => none
  | k + 1, x1, x5, x7, x8, x11, x30, x31, x32, x39, x40, x41, x602000, x602001, x605000, x605001, x605002 => if x41 < x40 then (if 0 ≤ x41 then (if x41 < (x39.length : Int) then (if x11 = true then (weirkeeperlaw14_CacheMost.l1 k x1 x5 x7 x8 true x30 x31 x32 x39 x40 (wrap64 (x41 + 1)) x602000 x602001 x605000 x605001 x605002) else (weirkeeperlaw14_CacheMost.l1 k x1 x5 x7 x8 (x605000 == ((rd_T27 x39 x41).f0)) x30 x31 x32 x39 x40 (wrap64 (x41 + 1)) x602000 x602001 x605000 x605001 x605002)) else (none)) else (none)) else (if x11 = true then (weirkeeperlaw14_CacheMost.j2 k x1 x5 x7 x8 x11 x30 x31 x32 x602000 x602001 x605000 x605001 x605002) else (weirkeeperlaw14_CacheMost.j2 k x1 x5 x7 (wrap64 (x8 + 1)) x11 x30 x31 x32 x602000 x602001 x605000 x605001 x605002))
def weirkeeperlaw14_CacheMost.j2 : Nat → List (S27) → Int → Int → Int → Bool → List (S27) → Int → Int → Int → List (S27) → Int → ByteArray → Bool → Option (Bool)
  | 0, _, _, _, _, _, _, _, _, _, _, _, _, _ => none
  | k + 1, x1, x5, x7, x8, x11, x30, x31, x32, x602000, x602001, x605000, x605001, x605002 => (cache_Put.f k x602000 x602001 (([(⟨x605000, x605001, x605002⟩ : S27)] : List (S27)))).bind fun bt614 => (if bt614.2.2.2 = 0 then ((cache_Right.f k bt614.1 bt614.2.1).bind fun t623 => (if t623 = true then (if (bt614.2.1.length : Int) = (mn x5 x8) then (if (bt614.2.1.length : Int) > x5 then (none) else (if (bt614.2.2.1.length : Int) > 1 then (none) else (weirkeeperlaw14_CacheMost.l0 k x1 x5 x7 x8 x30 x31 (wrap64 (x32 + 1)) bt614.1 bt614.2.1))) else (if x11 = true then (if (bt614.2.1.length : Int) > x5 then (none) else (if (bt614.2.2.1.length : Int) > 1 then (none) else (weirkeeperlaw14_CacheMost.l0 k x1 x5 x7 x8 x30 x31 (wrap64 (x32 + 1)) bt614.1 bt614.2.1))) else (none))) else (none))) else (none))
end
def weirkeeperlaw14_CacheMost.f (k : Nat) (a0 : Int) (l1 : List (S27)) : Option (Bool) := if (l1.length : Int) > 60 then ((weirkeeperlaw14_awake.f k).bind fun t595 => (some t595)) else ((cache_New.f (wrap64 (1 + (wrap64 (Int.tmod a0 20))))).bind fun bt596 => (weirkeeperlaw14_CacheMost.l0 k l1 (wrap64 (1 + (wrap64 (Int.tmod a0 20)))) bt596.2.2 0 l1 (l1.length : Int) 0 bt596.1 bt596.2.1))
theorem weirkeeperlaw14_CacheMost.mono_l : ∀ k, (∀ y0 y1 y2 y3 y4 y5 y6 y7 y8, LeO (weirkeeperlaw14_CacheMost.l0 k y0 y1 y2 y3 y4 y5 y6 y7 y8) (weirkeeperlaw14_CacheMost.l0 (k + 1) y0 y1 y2 y3 y4 y5 y6 y7 y8)) ∧ (∀ y0 y1 y2 y3 y4 y5 y6 y7 y8 y9 y10 y11 y12 y13 y14 y15, LeO (weirkeeperlaw14_CacheMost.l1 k y0 y1 y2 y3 y4 y5 y6 y7 y8 y9 y10 y11 y12 y13 y14 y15) (weirkeeperlaw14_CacheMost.l1 (k + 1) y0 y1 y2 y3 y4 y5 y6 y7 y8 y9 y10 y11 y12 y13 y14 y15)) ∧ (∀ y0 y1 y2 y3 y4 y5 y6 y7 y8 y9 y10 y11 y12, LeO (weirkeeperlaw14_CacheMost.j2 k y0 y1 y2 y3 y4 y5 y6 y7 y8 y9 y10 y11 y12) (weirkeeperlaw14_CacheMost.j2 (k + 1) y0 y1 y2 y3 y4 y5 y6 y7 y8 y9 y10 y11 y12))
  | 0 => ⟨fun _ _ _ _ _ _ _ _ _ r h => by simp [weirkeeperlaw14_CacheMost.l0] at h, fun _ _ _ _ _ _ _ _ _ _ _ _ _ _ _ _ r h => by simp [weirkeeperlaw14_CacheMost.l1] at h, fun _ _ _ _ _ _ _ _ _ _ _ _ _ r h => by simp [weirkeeperlaw14_CacheMost.j2] at h⟩
  | k + 1 => by
    obtain ⟨ih0, ih1, ih2⟩ := weirkeeperlaw14_CacheMost.mono_l k
    refine ⟨?_, ?_, ?_⟩
    · intro y0 y1 y2 y3 y4 y5 y6 y7 y8
      unfold weirkeeperlaw14_CacheMost.l0
      repeat' first
      | (with_reducible exact ih0 _ _ _ _ _ _ _ _ _)
      | (with_reducible exact ih1 _ _ _ _ _ _ _ _ _ _ _ _ _ _ _ _)
      | (with_reducible exact ih2 _ _ _ _ _ _ _ _ _ _ _ _ _)
      | (with_reducible exact cache_Put.mono _ _ _ _)
      | (with_reducible exact cache_Right.mono _ _ _)
      | (with_reducible exact weirkeeperlaw14_awake.mono _)
      | (with_reducible exact LeO.refl _)
      | (with_reducible exact LeO.none _)
      | (with_reducible refine LeO.ite ?_ ?_)
      | (with_reducible refine LeO.bind ?_ (fun _ => ?_))
      | exact ih0 _ _ _ _ _ _ _ _ _
      | exact ih1 _ _ _ _ _ _ _ _ _ _ _ _ _ _ _ _
      | exact ih2 _ _ _ _ _ _ _ _ _ _ _ _ _
      | exact cache_Put.mono _ _ _ _
      | exact cache_Right.mono _ _ _
      | exact weirkeeperlaw14_awake.mono _
      | exact LeO.none _
      | refine LeO.ite ?_ ?_
      | refine LeO.bind ?_ (fun _ => ?_)
    · intro y0 y1 y2 y3 y4 y5 y6 y7 y8 y9 y10 y11 y12 y13 y14 y15
      unfold weirkeeperlaw14_CacheMost.l1
      repeat' first
      | (with_reducible exact ih0 _ _ _ _ _ _ _ _ _)
      | (with_reducible exact ih1 _ _ _ _ _ _ _ _ _ _ _ _ _ _ _ _)
      | (with_reducible exact ih2 _ _ _ _ _ _ _ _ _ _ _ _ _)
      | (with_reducible exact cache_Put.mono _ _ _ _)
      | (with_reducible exact cache_Right.mono _ _ _)
      | (with_reducible exact weirkeeperlaw14_awake.mono _)
      | (with_reducible exact LeO.refl _)
      | (with_reducible exact LeO.none _)
      | (with_reducible refine LeO.ite ?_ ?_)
      | (with_reducible refine LeO.bind ?_ (fun _ => ?_))
      | exact ih0 _ _ _ _ _ _ _ _ _
      | exact ih1 _ _ _ _ _ _ _ _ _ _ _ _ _ _ _ _
      | exact ih2 _ _ _ _ _ _ _ _ _ _ _ _ _
      | exact cache_Put.mono _ _ _ _
      | exact cache_Right.mono _ _ _
      | exact weirkeeperlaw14_awake.mono _
      | exact LeO.none _
      | refine LeO.ite ?_ ?_
      | refine LeO.bind ?_ (fun _ => ?_)
    · intro y0 y1 y2 y3 y4 y5 y6 y7 y8 y9 y10 y11 y12
      unfold weirkeeperlaw14_CacheMost.j2
      repeat' first
      | (with_reducible exact ih0 _ _ _ _ _ _ _ _ _)
      | (with_reducible exact ih1 _ _ _ _ _ _ _ _ _ _ _ _ _ _ _ _)
      | (with_reducible exact ih2 _ _ _ _ _ _ _ _ _ _ _ _ _)
      | (with_reducible exact cache_Put.mono _ _ _ _)
      | (with_reducible exact cache_Right.mono _ _ _)
      | (with_reducible exact weirkeeperlaw14_awake.mono _)
      | (with_reducible exact LeO.refl _)
      | (with_reducible exact LeO.none _)
      | (with_reducible refine LeO.ite ?_ ?_)
      | (with_reducible refine LeO.bind ?_ (fun _ => ?_))
      | exact ih0 _ _ _ _ _ _ _ _ _
      | exact ih1 _ _ _ _ _ _ _ _ _ _ _ _ _ _ _ _
      | exact ih2 _ _ _ _ _ _ _ _ _ _ _ _ _
      | exact cache_Put.mono _ _ _ _
      | exact cache_Right.mono _ _ _
      | exact weirkeeperlaw14_awake.mono _
      | exact LeO.none _
      | refine LeO.ite ?_ ?_
      | refine LeO.bind ?_ (fun _ => ?_)
theorem weirkeeperlaw14_CacheMost.mono : ∀ a0 a1 k, LeO (weirkeeperlaw14_CacheMost.f k a0 a1) (weirkeeperlaw14_CacheMost.f (k + 1) a0 a1) := by
  intro a0 a1 k
  obtain ⟨ih0, ih1, ih2⟩ := weirkeeperlaw14_CacheMost.mono_l k
  unfold weirkeeperlaw14_CacheMost.f
  repeat' first
      | (with_reducible exact ih0 _ _ _ _ _ _ _ _ _)
      | (with_reducible exact ih1 _ _ _ _ _ _ _ _ _ _ _ _ _ _ _ _)
      | (with_reducible exact ih2 _ _ _ _ _ _ _ _ _ _ _ _ _)
      | (with_reducible exact cache_Put.mono _ _ _ _)
      | (with_reducible exact cache_Right.mono _ _ _)
      | (with_reducible exact weirkeeperlaw14_awake.mono _)
      | (with_reducible exact LeO.refl _)
      | (with_reducible exact LeO.none _)
      | (with_reducible refine LeO.ite ?_ ?_)
      | (with_reducible refine LeO.bind ?_ (fun _ => ?_))
      | exact ih0 _ _ _ _ _ _ _ _ _
      | exact ih1 _ _ _ _ _ _ _ _ _ _ _ _ _ _ _ _
      | exact ih2 _ _ _ _ _ _ _ _ _ _ _ _ _
      | exact cache_Put.mono _ _ _ _
      | exact cache_Right.mono _ _ _
      | exact weirkeeperlaw14_awake.mono _
      | exact LeO.none _
      | refine LeO.ite ?_ ?_
      | refine LeO.bind ?_ (fun _ => ?_)
set_option maxHeartbeats 8000000 in
set_option maxRecDepth 100000 in
theorem weirkeeperlaw14_CacheMost.calls (k : Nat) (a0 : Int) (A1 : Option Addr) (c1 : Nat) (l1 : List (S27)) (r : Bool) (w : World) (hr1 : Kd.C k27 w A1 l1.length l1) (hc1 : l1.length ≤ c1) (h : weirkeeperlaw14_CacheMost.f k a0 l1 = some r) :
    Calls Try.prog 8 #[.int .u8 a0, .slice A1 l1.length c1] w fun e w' => e = .returned (.bool r) ∧ Below w.heap.size w w' := by
  have hu24 := Try.underlying24
  have hu27 := Try.underlying27
  have HR1 := Aside0.mk hr1
  have HC1 := Aside0.mk hc1
  clear hr1 hc1
  have HB := Aside0.mk (Below.refl w.heap.size w)
  have H : (if (l1.length : Int) > 60 then ((weirkeeperlaw14_awake.f k).bind fun t595 => (some t595)) else ((cache_New.f (wrap64 (1 + (wrap64 (Int.tmod a0 20))))).bind fun bt596 => (weirkeeperlaw14_CacheMost.l0 k l1 (wrap64 (1 + (wrap64 (Int.tmod a0 20)))) bt596.2.2 0 l1 (l1.length : Int) 0 bt596.1 bt596.2.1))) = some r := h
  clear h
  by_cases c3 : (l1.length : Int) > 60
  · rw [if_pos c3] at H
    have c3b0 : decide (60 < (l1.length : Int)) = true := decide_eq_true c3
    have c3b1 : decide (60 < l1.length) = true := decide_eq_true (by omega)
    clear c3
    replace H := Option.bind_eq_some_iff.mp H
    obtain ⟨t595, A40, H⟩ := H
    replace H : (some t595) = some r := H
    have A4 := Aside0.mk A40
    clear A40
    obtain rfl := Option.some.inj H
    go_enter Try.func8, Try.ntmps8
    go_wp2_with (first | ((with_reducible refine gate_callee (f := 9) rfl ?_); refine goesL_ (some 20) rfl rfl Try.func9 (by kernel_rfl) rfl #[] rfl (by (try simp only [List.map_toArray, List.map_cons, List.map_nil]); first | done | rfl | (simp only [List.length_drop, List.length_take]; rfl)) ?_; (with_reducible refine (weirkeeperlaw14_awake.calls k  t595 _ A4.out).mono ?_); rintro e w5 ⟨rfl, hb⟩; refine ⟨_, rfl, ?_⟩; have n0_ := Aside0.mk (below_step (by repeat (first | (with_reducible first | exact HB.out | apply below_alloc | apply pw_below_drewN | apply below_drew1) | exact HB.out)) hb); clear HB; have HB := n0_; clear n0_; (try clear hb); (try clear hb2); (try clear hk); (try clear hi)))
    go_ret
    exact ⟨by first | rfl | (simp [errW_none, errW_some] <;> rfl) | (simp [*, errW_none, errW_some] <;> rfl), by repeat (first | (with_reducible first | exact HB.out | apply below_alloc | apply pw_below_drewN | apply below_drew1) | exact HB.out)⟩
  · rw [if_neg c3] at H
    have c3b0 : decide (60 < (l1.length : Int)) = false := decide_eq_false c3
    have c3b1 : decide (60 < l1.length) = false := decide_eq_false (by omega)
    clear c3
    replace H := Option.bind_eq_some_iff.mp H
    obtain ⟨⟨t596, t597, t600⟩, A60, H⟩ := H
    replace H : (weirkeeperlaw14_CacheMost.l0 k l1 (wrap64 (1 + (wrap64 (Int.tmod a0 20)))) t600 0 l1 (l1.length : Int) 0 t596 t597) = some r := H
    have A6 := Aside0.mk A60
    clear A60
    have H' := Aside0.mk H
    clear H
    go_enter Try.func8, Try.ntmps8
    go_wp2_with (first | ((with_reducible refine gate_callee (f := 21) rfl ?_); refine goesL_ (some 27) rfl rfl Try.func21 (by kernel_rfl) rfl #[.int .i64 (wrap64 (1 + (wrap64 (Int.tmod a0 20))))] rfl (by (try simp only [List.map_toArray, List.map_cons, List.map_nil]); first | done | rfl | (simp only [List.length_drop, List.length_take]; rfl)) ?_; (with_reducible refine (cache_New.calls (wrap64 (1 + (wrap64 (Int.tmod a0 20)))) t596 t597 t600 _ A6.out).mono ?_); rintro e w7 ⟨v598, rfl, ho0, hb⟩; refine ⟨_, rfl, ?_⟩; have n0_ := Aside0.mk (Kd.R_lower ho0 (below_size (by repeat (first | (with_reducible first | exact HB.out | apply below_alloc | apply pw_below_drewN | apply below_drew1) | exact HB.out)))); have n1_ := Aside0.mk (below_step (by repeat (first | (with_reducible first | exact HB.out | apply below_alloc | apply pw_below_drewN | apply below_drew1) | exact HB.out)) hb); clear HB; have HO599 := n0_; have HB := n1_; clear n0_ n1_; (try clear hb); (try clear hb2); (try clear hk); (try clear hi); (try clear ho0)) | ((with_reducible refine gate_dst (N := 6) rfl ?_); (try (refine gate_guard (by rfl) ?_; dsimp only)); refine box_event ?hg (N := 6) ?hd (cs := #[.int .i64 0, .slice none 0 0]) (t := 24) ?hr ?_; (case hd => rfl); (case hg => rfl); (case hr => first | (go_simp; done) | (go_simp; rfl)); intro gb601 hg w8 hbox hb; have n0_ := Aside0.mk (Kd.R_below (by (with_reducible repeat (first | apply Kd.R_alloc | apply Kd.R_drewN | apply Kd.R_drew)); exact HO599.out) hb); have n1_ := Aside0.mk (below_step (by repeat (first | (with_reducible first | exact HB.out | apply below_alloc | apply pw_below_drewN | apply below_drew1) | exact HB.out)) hb); have n2_ := Aside0.mk (hbox); have n3_ := Aside0.mk ((by rw [hg]; exact (below_size (by repeat (first | (with_reducible first | exact HB.out | apply below_alloc | apply pw_below_drewN | apply below_drew1) | exact HB.out))) : w.heap.size ≤ gb601)); have n4_ := Aside0.mk ((by rw [hg]; exact (below_size (by repeat (first | (with_reducible first | exact HB.out | apply below_alloc | apply pw_below_drewN | apply below_drew1) | exact HB.out))) : w.heap.size ≤ gb601)); clear HO599; clear HB; have HO599 := n0_; have HB := n1_; have BK601 := n2_; have GW601 := n3_; have GE601 := n4_; clear n0_ n1_ n2_ n3_ n4_; clear hb hbox hg; have hcz9_0 : w8.cell? ⟨gb601, 0, none⟩ = some (.int .i64 0) := (blk_cell BK601.out 0).trans rfl; have hcz9_1 : w8.cell? ⟨gb601, 1, none⟩ = some (.slice none 0 0) := (blk_cell BK601.out 1).trans rfl; have hfz9_0 := blk_frozen BK601.out 0; have hfz9_1 := blk_frozen BK601.out 1; obtain ⟨Ao10, co10, eo10⟩ := Kd.R_slice HO599.out; subst eo10))
    go_loopg [8, 32] k (fun kq v8 v32 w' => ∃ (x8_1 : Int) (x32_1 : Int) (x602000_1 : Int) (x602001_1 : List (S27)) (u602001 : Value), v8 = .int .i64 x8_1 ∧ v32 = .int .i64 x32_1 ∧ Aside0 (weirkeeperlaw14_CacheMost.l0 kq l1 (wrap64 (1 + (wrap64 (Int.tmod a0 20)))) t600 x8_1 l1 (l1.length : Int) x32_1 x602000_1 x602001_1 = some r) ∧ Aside0 (kq ≤ k) ∧ Aside0 (Kd.V k27 27 w' w.heap.size (fun k_ => k_ ≠ gb601) u602001 x602001_1) ∧ Aside0 (w'.heap[gb601]? = some (.cells #[.int .i64 x602000_1, u602001] 24 (0, 0))) ∧ Aside0 (Below w.heap.size w w'))
    case atStart => exact ⟨(0), (0), (t596), (t597), (.slice Ao10 t597.length co10), (by first | rfl | (simp; done) | (simp [*]; done)), (by first | rfl | (simp; done) | (simp [*]; done)), H', ⟨Nat.le_refl _⟩, ⟨Kd.R_V (by (with_reducible repeat (first | apply Kd.R_alloc | apply Kd.R_drewN | apply Kd.R_drew)); exact Kd.R_mono (Kd.R_far (p := ⟨gb601, 1, none⟩) (Kd.R_far (p := ⟨gb601, 0, none⟩) (Kd.R_types (Kd.R_types HO599.out BK601.out (by decide)) BK601.out (by decide)) (fun _ hk => hk.2) (.int .i64 t596)) (fun _ hk => hk.2) (.slice Ao10 t597.length co10)) (fun _ hk => hk.1.2))⟩, ⟨by (with_reducible repeat (first | refine blk_drewN ?_ _ | refine blk_drew ?_ | refine blk_alloc ?_ _)); refine blk_put (cs := #[.int .i64 t596, .slice none 0 0]) ?_ 1 _ rfl; (with_reducible repeat (first | refine blk_drewN ?_ _ | refine blk_drew ?_ | refine blk_alloc ?_ _)); refine blk_put (cs := #[.int .i64 0, .slice none 0 0]) ?_ 0 _ rfl; (with_reducible repeat (first | refine blk_drewN ?_ _ | refine blk_drew ?_ | refine blk_alloc ?_ _)); exact BK601.out⟩, ⟨by repeat (first | (with_reducible first | exact HB.out | apply below_alloc | apply pw_below_drewN | apply below_drew1 | refine below_set ?_ GE601.out) | exact HB.out)⟩⟩
    case round =>
      clear H'
      try clear c1
      try clear c2
      try clear p2
      try clear c3
      try clear c3b0
      try clear c3b1
      try clear p6
      try clear c8
      try clear c9
      try clear hcz9_0
      try clear hcz9_1
      try clear hfz9_0
      try clear hfz9_1
      obtain ⟨x8_1, x32_1, x602000_1, x602001_1, u602001, rfl, rfl, HA, HK1, HO_602001, BK601, HB⟩ := hrel
      cases gk with
      | zero => exact absurd HA.out (by simp [weirkeeperlaw14_CacheMost.l0])
      | succ k1 =>
        have H := HA.out
        clear HA
        simp only [weirkeeperlaw14_CacheMost.l0] at H
        by_cases c11 : x32_1 < (l1.length : Int)
        · rw [if_pos c11] at H
          have c11b0 : decide (x32_1 < (l1.length : Int)) = true := decide_eq_true c11
          clear c11
          by_cases c12 : 0 ≤ x32_1
          · rw [if_pos c12] at H
            have c12b0 : decide (0 ≤ x32_1) = true := decide_eq_true c12
            clear c12
            by_cases c13 : x32_1 < (l1.length : Int)
            · rw [if_pos c13] at H
              have c13b0 : decide (x32_1 < (l1.length : Int)) = true := decide_eq_true c13
              clear c13
              have c14b0 := eq_true (of_decide_eq_true (by first | (with_reducible assumption) | assumption) : 0 ≤ x32_1)
              by_cases c15 : x32_1 ≤ (l1.length : Int)
              · rw [if_pos c15] at H
                have c15b0 := eq_true c15
                have c15b1 : decide (x32_1 ≤ (l1.length : Int)) = true := decide_eq_true c15
                clear c15
                obtain ⟨y605, hy605⟩ : ∃ y_ : List (S27), y_ = (l1.take (x32_1 : Int).toNat) := ⟨_, rfl⟩
                replace H : (weirkeeperlaw14_CacheMost.l1 k1 l1 (wrap64 (1 + (wrap64 (Int.tmod a0 20)))) t600 x8_1 false l1 (l1.length : Int) x32_1 y605 (y605.length : Int) 0 x602000_1 x602001_1 ((rd_T27 l1 x32_1).f0) ((rd_T27 l1 x32_1).f1) ((rd_T27 l1 x32_1).f2)) = some r := by first | (rw [hy605]; with_reducible exact H) | (have H2_ := (Option.bind_some _ _).symm.trans H; rw [hy605]; with_reducible exact H2_) | (have H2_ := (Option.bind_some _ _).symm.trans H; with_reducible exact H2_) | with_reducible exact H | (rw [hy605]; exact H) | exact H
                have Ny605 := Aside0.mk hy605
                clear hy605
                have H' := Aside0.mk H
                clear H
                have p603 : 0 ≤ (x32_1 : Int) := of_decide_eq_true (by first | (with_reducible assumption) | assumption)
                have q603 : x32_1 < (l1.length : Int) := of_decide_eq_true (by first | (with_reducible assumption) | assumption)
                obtain ⟨ad603, e603, hx603_0, hx603_1, hx603_2⟩ := at_T27 HR1.out x32_1 p603 q603
                cases e603
                replace hx603_0 := (HB.out.cell (World.block_lt_of_cell? w _ hx603_0)).trans hx603_0
                replace hx603_1 := (HB.out.cell (World.block_lt_of_cell? w _ hx603_1)).trans hx603_1
                replace hx603_2 := (HB.out.cell (World.block_lt_of_cell? w _ hx603_2)).trans hx603_2
                replace p603 := eq_true p603
                replace q603 := eq_true q603
                go_wp2_with (first | ((with_reducible refine gate_dst (N := 10) rfl ?_); (try (refine gate_guard (by rfl) ?_; dsimp only)); refine box_event ?hg (N := 10) ?hd (cs := #[.int .i64 0, .string (⟨#[]⟩ : ByteArray), .bool false]) (t := 27) ?hr ?_; (case hd => rfl); (case hg => rfl); (case hr => first | (go_simp; done) | (go_simp; rfl)); intro gb604 hg w16 hbox hb; have n0_ := Aside0.mk (Kd.V_below (Kd.V_elderB (by (with_reducible repeat (first | apply Kd.V_alloc | apply Kd.V_drewN | apply Kd.V_drew)); exact HO_602001.out) gb604 (Nat.le_of_eq hg.symm)) hb); have n1_ := Aside0.mk (blk_below (g := gb601) (o := .cells #[.int .i64 x602000_1, u602001] 24 (0, 0)) (by (with_reducible repeat (first | refine blk_drewN ?_ _ | refine blk_drew ?_ | refine blk_alloc ?_ _)); exact BK601.out) hb); have n2_ := Aside0.mk (below_step (by repeat (first | (with_reducible first | exact HB.out | apply below_alloc | apply pw_below_drewN | apply below_drew1 | refine below_set ?_ GE601.out) | exact HB.out)) hb); have n3_ := Aside0.mk (hbox); have n4_ := Aside0.mk ((by rw [hg]; exact (below_size (by repeat (first | (with_reducible first | exact HB.out | apply below_alloc | apply pw_below_drewN | apply below_drew1 | refine below_set ?_ GE601.out) | exact HB.out))) : w.heap.size ≤ gb604)); have n5_ := Aside0.mk ((by rw [hg]; exact (below_size (by repeat (first | (with_reducible first | exact HB.out | apply below_alloc | apply pw_below_drewN | apply below_drew1 | refine below_set ?_ GE601.out) | exact HB.out))) : w.heap.size ≤ gb604)); have n6_ := Aside0.mk ((by rw [hg]; exact Nat.ne_of_lt (blk_lt (g := gb601) (o := .cells #[.int .i64 x602000_1, u602001] 24 (0, 0)) (by (with_reducible repeat (first | refine blk_drewN ?_ _ | refine blk_drew ?_ | refine blk_alloc ?_ _)); exact BK601.out)) : gb601 ≠ gb604)); have n7_ := Aside0.mk ((by rw [hg]; exact Nat.ne_of_gt (blk_lt (g := gb601) (o := .cells #[.int .i64 x602000_1, u602001] 24 (0, 0)) (by (with_reducible repeat (first | refine blk_drewN ?_ _ | refine blk_drew ?_ | refine blk_alloc ?_ _)); exact BK601.out)) : gb604 ≠ gb601)); clear HO_602001; clear BK601; clear HB; have HO_602001 := n0_; have BK601 := n1_; have HB := n2_; have BK604 := n3_; have GW604 := n4_; have GE604 := n5_; have NB601_604 := n6_; have NB604_601 := n7_; clear n0_ n1_ n2_ n3_ n4_ n5_ n6_ n7_; clear hb hbox hg; have hnb17 := NB604_601.out; have hnc17 := NB601_604.out; have hcz18_0 : w16.cell? ⟨gb604, 0, none⟩ = some (.int .i64 0) := (blk_cell BK604.out 0).trans rfl; have hcz18_1 : w16.cell? ⟨gb604, 1, none⟩ = some (.string (⟨#[]⟩ : ByteArray)) := (blk_cell BK604.out 1).trans rfl; have hcz18_2 : w16.cell? ⟨gb604, 2, none⟩ = some (.bool false) := (blk_cell BK604.out 2).trans rfl; have hfz18_0 := blk_frozen BK604.out 0; have hfz18_1 := blk_frozen BK604.out 1; have hfz18_2 := blk_frozen BK604.out 2) | ((with_reducible refine gate_store (t := 27) (p := 10) rfl ?_); refine store_event (t := 27) (p := 10) (v := ?vo_w19) (w1 := (((w16.setCell ⟨gb604, 0, none⟩ (.int .i64 ((rd_T27 l1 x32_1).f0))).setCell ⟨gb604, 1, none⟩ (.string ((rd_T27 l1 x32_1).f1))).setCell ⟨gb604, 2, none⟩ (.bool ((rd_T27 l1 x32_1).f2)))) ?hg ?ho ?hn ?hr ?_; (case ho => rfl); (case hg => rfl); (case hn => rfl); (case hr => first | (go_simp; done) | (go_simp; rfl)); intro w19 hw; have n0_ : Aside0 (Kd.V k27 27 w19 w.heap.size (fun k_ => k_ ≠ gb601 ∧ k_ ≠ gb604) u602001 x602001_1) := ⟨(by rw [hw]; exact (by (with_reducible repeat (first | apply Kd.V_alloc | apply Kd.V_drewN | apply Kd.V_drew)); exact Kd.V_mono (Kd.V_far (p := ⟨gb604, 2, none⟩) (Kd.V_far (p := ⟨gb604, 1, none⟩) (Kd.V_far (p := ⟨gb604, 0, none⟩) (Kd.V_mono HO_602001.out (fun k_ hk => (⟨hk, hk.2⟩ : _ ∧ k_ ≠ gb604))) (fun _ hk => hk.2) (.int .i64 ((rd_T27 l1 x32_1).f0))) (fun _ hk => hk.2) (.string ((rd_T27 l1 x32_1).f1))) (fun _ hk => hk.2) (.bool ((rd_T27 l1 x32_1).f2))) (fun _ hk => ⟨hk.1.1, hk.1.2⟩)))⟩; have n1_ : Aside0 (w19.heap[gb601]? = some (.cells #[.int .i64 x602000_1, u602001] 24 (0, 0))) := ⟨(by rw [hw]; exact (by (with_reducible repeat (first | refine blk_drewN ?_ _ | refine blk_drew ?_ | refine blk_alloc ?_ _)); refine blk_far ?_ NB601_604.out _; (with_reducible repeat (first | refine blk_drewN ?_ _ | refine blk_drew ?_ | refine blk_alloc ?_ _)); refine blk_far ?_ NB601_604.out _; (with_reducible repeat (first | refine blk_drewN ?_ _ | refine blk_drew ?_ | refine blk_alloc ?_ _)); refine blk_far ?_ NB601_604.out _; (with_reducible repeat (first | refine blk_drewN ?_ _ | refine blk_drew ?_ | refine blk_alloc ?_ _)); exact BK601.out))⟩; have n2_ : Aside0 (w19.heap[gb604]? = some (.cells #[.int .i64 ((rd_T27 l1 x32_1).f0), .string ((rd_T27 l1 x32_1).f1), .bool ((rd_T27 l1 x32_1).f2)] 27 (0, 0))) := ⟨(by rw [hw]; exact (by (with_reducible repeat (first | refine blk_drewN ?_ _ | refine blk_drew ?_ | refine blk_alloc ?_ _)); refine blk_put (cs := #[.int .i64 ((rd_T27 l1 x32_1).f0), .string ((rd_T27 l1 x32_1).f1), .bool false]) ?_ 2 _ rfl; (with_reducible repeat (first | refine blk_drewN ?_ _ | refine blk_drew ?_ | refine blk_alloc ?_ _)); refine blk_put (cs := #[.int .i64 ((rd_T27 l1 x32_1).f0), .string (⟨#[]⟩ : ByteArray), .bool false]) ?_ 1 _ rfl; (with_reducible repeat (first | refine blk_drewN ?_ _ | refine blk_drew ?_ | refine blk_alloc ?_ _)); refine blk_put (cs := #[.int .i64 0, .string (⟨#[]⟩ : ByteArray), .bool false]) ?_ 0 _ rfl; (with_reducible repeat (first | refine blk_drewN ?_ _ | refine blk_drew ?_ | refine blk_alloc ?_ _)); exact BK604.out))⟩; have n3_ : Aside0 (Below w.heap.size w w19) := ⟨(by rw [hw]; exact (by repeat (first | (with_reducible first | exact HB.out | apply below_alloc | apply pw_below_drewN | apply below_drew1 | refine below_set ?_ GE601.out | refine below_set ?_ GE604.out) | exact HB.out)))⟩; clear hw; clear HO_602001; clear BK601; clear BK604; clear HB; have HO_602001 := n0_; have BK601 := n1_; have BK604 := n2_; have HB := n3_; clear n0_ n1_ n2_ n3_; have q20 : (x32_1 : Int) ≤ ((l1.length : Int) : Int) := of_decide_eq_true (by first | (with_reducible assumption) | assumption); obtain ⟨i020, hi020, _, hsz20, _⟩ := info_parts info27; have hroom20 : l1.length ≤ c1 := HC1.out; have hC20 : Kd.C k27 _ (some ad603) l1.length l1 := HR1.out; have hcut20 := cut_to (P := Try.prog) 22 27 .i64 Try.underlying22 hi020 (some ad603) l1.length c1 x32_1 (of_decide_eq_true (by first | (with_reducible assumption) | assumption)) q20 hroom20; have hr20 := Kd.C_take (m := (x32_1 : Int).toNat) hC20 (by omega); have hy20 : y605.length = (x32_1 : Int).toNat := (by rw [Ny605.out, List.length_take]; omega); rw [← Ny605.out] at hr20; rw [← hy20] at hcut20; have HR608 := Aside0.mk hr20; have HC608 := Aside0.mk (show y605.length ≤ c1 from by omega); clear hr20 hC20 hroom20 hi020 hsz20; have KY20 := Aside0.mk hy20; clear hy20; replace q20 := eq_true q20))
                go_loopg [11, 41] k1 (fun kq v11 v41 w' => ∃ (x11_2 : Bool) (x41_2 : Int), v11 = .bool x11_2 ∧ v41 = .int .i64 x41_2 ∧ Aside0 (weirkeeperlaw14_CacheMost.l1 kq l1 (wrap64 (1 + (wrap64 (Int.tmod a0 20)))) t600 x8_1 x11_2 l1 (l1.length : Int) x32_1 y605 (y605.length : Int) x41_2 x602000_1 x602001_1 ((rd_T27 l1 x32_1).f0) ((rd_T27 l1 x32_1).f1) ((rd_T27 l1 x32_1).f2) = some r) ∧ Aside0 (kq ≤ k1) ∧ Aside0 (Kd.V k27 27 w' w.heap.size (fun k_ => k_ ≠ gb601 ∧ k_ ≠ gb604) u602001 x602001_1) ∧ Aside0 (w'.heap[gb601]? = some (.cells #[.int .i64 x602000_1, u602001] 24 (0, 0))) ∧ Aside0 (w'.heap[gb604]? = some (.cells #[.int .i64 ((rd_T27 l1 x32_1).f0), .string ((rd_T27 l1 x32_1).f1), .bool ((rd_T27 l1 x32_1).f2)] 27 (0, 0))) ∧ Aside0 (Below w.heap.size w w'))
                case atStart => exact ⟨(false), (0), (by first | rfl | (simp; done) | (simp [*]; done)), (by first | rfl | (simp; done) | (simp [*]; done)), H', ⟨Nat.le_refl _⟩, ⟨by (with_reducible repeat (first | apply Kd.V_alloc | apply Kd.V_drewN | apply Kd.V_drew)); exact HO_602001.out⟩, ⟨by (with_reducible repeat (first | refine blk_drewN ?_ _ | refine blk_drew ?_ | refine blk_alloc ?_ _)); exact BK601.out⟩, ⟨by (with_reducible repeat (first | refine blk_drewN ?_ _ | refine blk_drew ?_ | refine blk_alloc ?_ _)); exact BK604.out⟩, ⟨by repeat (first | (with_reducible first | exact HB.out | apply below_alloc | apply pw_below_drewN | apply below_drew1 | refine below_set ?_ GE601.out | refine below_set ?_ GE604.out) | exact HB.out)⟩⟩
                case round =>
                  clear H'
                  try clear c1
                  try clear c2
                  try clear p2
                  try clear q2
                  try clear c3
                  try clear c3b0
                  try clear c3b1
                  try clear p6
                  try clear q6
                  try clear hx6
                  try clear c8
                  try clear c9
                  try clear c11
                  try clear c11b0
                  try clear c12
                  try clear c12b0
                  try clear c13
                  try clear c13b0
                  try clear c14
                  try clear c14b0
                  try clear c15
                  try clear c15b0
                  try clear c15b1
                  try clear c17
                  try clear q20
                  try clear hcz18_0
                  try clear hcz18_1
                  try clear hcz18_2
                  try clear hcz9_0
                  try clear hcz9_1
                  try clear hfz18_0
                  try clear hfz18_1
                  try clear hfz18_2
                  try clear hfz9_0
                  try clear hfz9_1
                  try clear hx603_0
                  try clear hx603_1
                  try clear hx603_2
                  try clear p2
                  try clear p6
                  try clear p603
                  try clear q20
                  try clear q603
                  obtain ⟨x11_2, x41_2, rfl, rfl, HA, HK2, HO_602001, BK601, BK604, HB⟩ := hrel
                  cases gk with
                  | zero => exact absurd HA.out (by simp [weirkeeperlaw14_CacheMost.l1])
                  | succ k2 =>
                    have H := HA.out
                    clear HA
                    simp only [weirkeeperlaw14_CacheMost.l1] at H
                    by_cases c21 : x41_2 < (y605.length : Int)
                    · rw [if_pos c21] at H
                      have c21b0 : decide (x41_2 < (y605.length : Int)) = true := decide_eq_true c21
                      clear c21
                      by_cases c22 : 0 ≤ x41_2
                      · rw [if_pos c22] at H
                        have c22b0 : decide (0 ≤ x41_2) = true := decide_eq_true c22
                        clear c22
                        by_cases c23 : x41_2 < (y605.length : Int)
                        · rw [if_pos c23] at H
                          have c23b0 : decide (x41_2 < (y605.length : Int)) = true := decide_eq_true c23
                          clear c23
                          by_cases c24 : x11_2 = true
                          · subst c24
                            have H1 : (weirkeeperlaw14_CacheMost.l1 k2 l1 (wrap64 (1 + (wrap64 (Int.tmod a0 20)))) t600 x8_1 true l1 (l1.length : Int) x32_1 y605 (y605.length : Int) (wrap64 (x41_2 + 1)) x602000_1 x602001_1 ((rd_T27 l1 x32_1).f0) ((rd_T27 l1 x32_1).f1) ((rd_T27 l1 x32_1).f2)) = some r := by rw [if_pos rfl] at H; exact H
                            clear H
                            have H := H1
                            clear H1
                            have H' := Aside0.mk H
                            clear H
                            have p609 : 0 ≤ (x41_2 : Int) := of_decide_eq_true (by first | (with_reducible assumption) | assumption)
                            have q609 : x41_2 < (y605.length : Int) := of_decide_eq_true (by first | (with_reducible assumption) | assumption)
                            obtain ⟨ad609, e609, hx609_0, hx609_1, hx609_2⟩ := at_T27 HR608.out x41_2 p609 q609
                            obtain rfl : ad603 = ad609 := (by injection e609)
                            replace hx609_0 := (HB.out.cell (World.block_lt_of_cell? w _ hx609_0)).trans hx609_0
                            replace hx609_1 := (HB.out.cell (World.block_lt_of_cell? w _ hx609_1)).trans hx609_1
                            replace hx609_2 := (HB.out.cell (World.block_lt_of_cell? w _ hx609_2)).trans hx609_2
                            replace p609 := eq_true p609
                            replace q609 := eq_true q609
                            go_wp2_with (first | ((with_reducible refine gate_dst (N := 13) rfl ?_); (try (refine gate_guard (by rfl) ?_; dsimp only)); refine box_event ?hg (N := 13) ?hd (cs := #[.int .i64 0, .string (⟨#[]⟩ : ByteArray), .bool false]) (t := 27) ?hr ?_; (case hd => rfl); (case hg => rfl); (case hr => first | (go_simp; done) | (go_simp; rfl)); intro gb610 hg w25 hbox hb; have n0_ := Aside0.mk (Kd.V_below (Kd.V_elderB (by (with_reducible repeat (first | apply Kd.V_alloc | apply Kd.V_drewN | apply Kd.V_drew)); exact HO_602001.out) gb610 (Nat.le_of_eq hg.symm)) hb); have n1_ := Aside0.mk (blk_below (g := gb601) (o := .cells #[.int .i64 x602000_1, u602001] 24 (0, 0)) (by (with_reducible repeat (first | refine blk_drewN ?_ _ | refine blk_drew ?_ | refine blk_alloc ?_ _)); exact BK601.out) hb); have n2_ := Aside0.mk (blk_below (g := gb604) (o := .cells #[.int .i64 ((rd_T27 l1 x32_1).f0), .string ((rd_T27 l1 x32_1).f1), .bool ((rd_T27 l1 x32_1).f2)] 27 (0, 0)) (by (with_reducible repeat (first | refine blk_drewN ?_ _ | refine blk_drew ?_ | refine blk_alloc ?_ _)); exact BK604.out) hb); have n3_ := Aside0.mk (below_step (by repeat (first | (with_reducible first | exact HB.out | apply below_alloc | apply pw_below_drewN | apply below_drew1 | refine below_set ?_ GE601.out | refine below_set ?_ GE604.out) | exact HB.out)) hb); have n4_ := Aside0.mk (hbox); have n5_ := Aside0.mk ((by rw [hg]; exact (below_size (by repeat (first | (with_reducible first | exact HB.out | apply below_alloc | apply pw_below_drewN | apply below_drew1 | refine below_set ?_ GE601.out | refine below_set ?_ GE604.out) | exact HB.out))) : w.heap.size ≤ gb610)); have n6_ := Aside0.mk ((by rw [hg]; exact (below_size (by repeat (first | (with_reducible first | exact HB.out | apply below_alloc | apply pw_below_drewN | apply below_drew1 | refine below_set ?_ GE601.out | refine below_set ?_ GE604.out) | exact HB.out))) : w.heap.size ≤ gb610)); have n7_ := Aside0.mk ((by rw [hg]; exact Nat.ne_of_lt (blk_lt (g := gb601) (o := .cells #[.int .i64 x602000_1, u602001] 24 (0, 0)) (by (with_reducible repeat (first | refine blk_drewN ?_ _ | refine blk_drew ?_ | refine blk_alloc ?_ _)); exact BK601.out)) : gb601 ≠ gb610)); have n8_ := Aside0.mk ((by rw [hg]; exact Nat.ne_of_gt (blk_lt (g := gb601) (o := .cells #[.int .i64 x602000_1, u602001] 24 (0, 0)) (by (with_reducible repeat (first | refine blk_drewN ?_ _ | refine blk_drew ?_ | refine blk_alloc ?_ _)); exact BK601.out)) : gb610 ≠ gb601)); have n9_ := Aside0.mk ((by rw [hg]; exact Nat.ne_of_lt (blk_lt (g := gb604) (o := .cells #[.int .i64 ((rd_T27 l1 x32_1).f0), .string ((rd_T27 l1 x32_1).f1), .bool ((rd_T27 l1 x32_1).f2)] 27 (0, 0)) (by (with_reducible repeat (first | refine blk_drewN ?_ _ | refine blk_drew ?_ | refine blk_alloc ?_ _)); exact BK604.out)) : gb604 ≠ gb610)); have n10_ := Aside0.mk ((by rw [hg]; exact Nat.ne_of_gt (blk_lt (g := gb604) (o := .cells #[.int .i64 ((rd_T27 l1 x32_1).f0), .string ((rd_T27 l1 x32_1).f1), .bool ((rd_T27 l1 x32_1).f2)] 27 (0, 0)) (by (with_reducible repeat (first | refine blk_drewN ?_ _ | refine blk_drew ?_ | refine blk_alloc ?_ _)); exact BK604.out)) : gb610 ≠ gb604)); clear HO_602001; clear BK601; clear BK604; clear HB; have HO_602001 := n0_; have BK601 := n1_; have BK604 := n2_; have HB := n3_; have BK610 := n4_; have GW610 := n5_; have GE610 := n6_; have NB601_610 := n7_; have NB610_601 := n8_; have NB604_610 := n9_; have NB610_604 := n10_; clear n0_ n1_ n2_ n3_ n4_ n5_ n6_ n7_ n8_ n9_ n10_; clear hb hbox hg; have hnb26 := NB610_601.out; have hnc26 := NB601_610.out; have hnb27 := NB610_604.out; have hnc27 := NB604_610.out; have hcz28_0 : w25.cell? ⟨gb610, 0, none⟩ = some (.int .i64 0) := (blk_cell BK610.out 0).trans rfl; have hcz28_1 : w25.cell? ⟨gb610, 1, none⟩ = some (.string (⟨#[]⟩ : ByteArray)) := (blk_cell BK610.out 1).trans rfl; have hcz28_2 : w25.cell? ⟨gb610, 2, none⟩ = some (.bool false) := (blk_cell BK610.out 2).trans rfl; have hfz28_0 := blk_frozen BK610.out 0; have hfz28_1 := blk_frozen BK610.out 1; have hfz28_2 := blk_frozen BK610.out 2))
                            go_roundg k2
                            case measure => have := HK1.out; have := HK2.out; omega
                            case rel => exact ⟨(true), (wrap64 (x41_2 + 1)), (by first | rfl | (simp; done) | (simp [*]; done)), (by first | rfl | (simp; done) | (simp [*]; done)), H', ⟨by have := HK1.out; have := HK2.out; omega⟩, ⟨by (with_reducible repeat (first | apply Kd.V_alloc | apply Kd.V_drewN | apply Kd.V_drew)); exact Kd.V_mono (Kd.V_far (p := ⟨gb610, 2, none⟩) (Kd.V_far (p := ⟨gb610, 1, none⟩) (Kd.V_far (p := ⟨gb610, 0, none⟩) (Kd.V_mono HO_602001.out (fun k_ hk => (⟨hk, hk.2⟩ : _ ∧ k_ ≠ gb610))) (fun _ hk => hk.2) (.int .i64 ((rd_T27 y605 x41_2).f0))) (fun _ hk => hk.2) (.string ((rd_T27 y605 x41_2).f1))) (fun _ hk => hk.2) (.bool ((rd_T27 y605 x41_2).f2))) (fun _ hk => ⟨hk.1.1.1, hk.1.1.2⟩)⟩, ⟨by (with_reducible repeat (first | refine blk_drewN ?_ _ | refine blk_drew ?_ | refine blk_alloc ?_ _)); refine blk_far ?_ NB601_610.out _; (with_reducible repeat (first | refine blk_drewN ?_ _ | refine blk_drew ?_ | refine blk_alloc ?_ _)); refine blk_far ?_ NB601_610.out _; (with_reducible repeat (first | refine blk_drewN ?_ _ | refine blk_drew ?_ | refine blk_alloc ?_ _)); refine blk_far ?_ NB601_610.out _; (with_reducible repeat (first | refine blk_drewN ?_ _ | refine blk_drew ?_ | refine blk_alloc ?_ _)); exact BK601.out⟩, ⟨by (with_reducible repeat (first | refine blk_drewN ?_ _ | refine blk_drew ?_ | refine blk_alloc ?_ _)); refine blk_far ?_ NB604_610.out _; (with_reducible repeat (first | refine blk_drewN ?_ _ | refine blk_drew ?_ | refine blk_alloc ?_ _)); refine blk_far ?_ NB604_610.out _; (with_reducible repeat (first | refine blk_drewN ?_ _ | refine blk_drew ?_ | refine blk_alloc ?_ _)); refine blk_far ?_ NB604_610.out _; (with_reducible repeat (first | refine blk_drewN ?_ _ | refine blk_drew ?_ | refine blk_alloc ?_ _)); exact BK604.out⟩, ⟨by repeat (first | (with_reducible first | exact HB.out | apply below_alloc | apply pw_below_drewN | apply below_drew1 | refine below_set ?_ GE601.out | refine below_set ?_ GE604.out | refine below_set ?_ GE610.out) | exact HB.out)⟩⟩
                          · replace c24 := Bool.eq_false_iff.mpr c24
                            subst c24
                            have H1 : (weirkeeperlaw14_CacheMost.l1 k2 l1 (wrap64 (1 + (wrap64 (Int.tmod a0 20)))) t600 x8_1 (((rd_T27 l1 x32_1).f0) == ((rd_T27 y605 x41_2).f0)) l1 (l1.length : Int) x32_1 y605 (y605.length : Int) (wrap64 (x41_2 + 1)) x602000_1 x602001_1 ((rd_T27 l1 x32_1).f0) ((rd_T27 l1 x32_1).f1) ((rd_T27 l1 x32_1).f2)) = some r := by rw [if_neg (show ¬ (false = true) by decide)] at H; exact H
                            clear H
                            have H := H1
                            clear H1
                            have H' := Aside0.mk H
                            clear H
                            have p609 : 0 ≤ (x41_2 : Int) := of_decide_eq_true (by first | (with_reducible assumption) | assumption)
                            have q609 : x41_2 < (y605.length : Int) := of_decide_eq_true (by first | (with_reducible assumption) | assumption)
                            obtain ⟨ad609, e609, hx609_0, hx609_1, hx609_2⟩ := at_T27 HR608.out x41_2 p609 q609
                            obtain rfl : ad603 = ad609 := (by injection e609)
                            replace hx609_0 := (HB.out.cell (World.block_lt_of_cell? w _ hx609_0)).trans hx609_0
                            replace hx609_1 := (HB.out.cell (World.block_lt_of_cell? w _ hx609_1)).trans hx609_1
                            replace hx609_2 := (HB.out.cell (World.block_lt_of_cell? w _ hx609_2)).trans hx609_2
                            replace p609 := eq_true p609
                            replace q609 := eq_true q609
                            go_wp2_with (first | ((with_reducible refine gate_dst (N := 13) rfl ?_); (try (refine gate_guard (by rfl) ?_; dsimp only)); refine box_event ?hg (N := 13) ?hd (cs := #[.int .i64 0, .string (⟨#[]⟩ : ByteArray), .bool false]) (t := 27) ?hr ?_; (case hd => rfl); (case hg => rfl); (case hr => first | (go_simp; done) | (go_simp; rfl)); intro gb610 hg w29 hbox hb; have n0_ := Aside0.mk (Kd.V_below (Kd.V_elderB (by (with_reducible repeat (first | apply Kd.V_alloc | apply Kd.V_drewN | apply Kd.V_drew)); exact HO_602001.out) gb610 (Nat.le_of_eq hg.symm)) hb); have n1_ := Aside0.mk (blk_below (g := gb601) (o := .cells #[.int .i64 x602000_1, u602001] 24 (0, 0)) (by (with_reducible repeat (first | refine blk_drewN ?_ _ | refine blk_drew ?_ | refine blk_alloc ?_ _)); exact BK601.out) hb); have n2_ := Aside0.mk (blk_below (g := gb604) (o := .cells #[.int .i64 ((rd_T27 l1 x32_1).f0), .string ((rd_T27 l1 x32_1).f1), .bool ((rd_T27 l1 x32_1).f2)] 27 (0, 0)) (by (with_reducible repeat (first | refine blk_drewN ?_ _ | refine blk_drew ?_ | refine blk_alloc ?_ _)); exact BK604.out) hb); have n3_ := Aside0.mk (below_step (by repeat (first | (with_reducible first | exact HB.out | apply below_alloc | apply pw_below_drewN | apply below_drew1 | refine below_set ?_ GE601.out | refine below_set ?_ GE604.out) | exact HB.out)) hb); have n4_ := Aside0.mk (hbox); have n5_ := Aside0.mk ((by rw [hg]; exact (below_size (by repeat (first | (with_reducible first | exact HB.out | apply below_alloc | apply pw_below_drewN | apply below_drew1 | refine below_set ?_ GE601.out | refine below_set ?_ GE604.out) | exact HB.out))) : w.heap.size ≤ gb610)); have n6_ := Aside0.mk ((by rw [hg]; exact (below_size (by repeat (first | (with_reducible first | exact HB.out | apply below_alloc | apply pw_below_drewN | apply below_drew1 | refine below_set ?_ GE601.out | refine below_set ?_ GE604.out) | exact HB.out))) : w.heap.size ≤ gb610)); have n7_ := Aside0.mk ((by rw [hg]; exact Nat.ne_of_lt (blk_lt (g := gb601) (o := .cells #[.int .i64 x602000_1, u602001] 24 (0, 0)) (by (with_reducible repeat (first | refine blk_drewN ?_ _ | refine blk_drew ?_ | refine blk_alloc ?_ _)); exact BK601.out)) : gb601 ≠ gb610)); have n8_ := Aside0.mk ((by rw [hg]; exact Nat.ne_of_gt (blk_lt (g := gb601) (o := .cells #[.int .i64 x602000_1, u602001] 24 (0, 0)) (by (with_reducible repeat (first | refine blk_drewN ?_ _ | refine blk_drew ?_ | refine blk_alloc ?_ _)); exact BK601.out)) : gb610 ≠ gb601)); have n9_ := Aside0.mk ((by rw [hg]; exact Nat.ne_of_lt (blk_lt (g := gb604) (o := .cells #[.int .i64 ((rd_T27 l1 x32_1).f0), .string ((rd_T27 l1 x32_1).f1), .bool ((rd_T27 l1 x32_1).f2)] 27 (0, 0)) (by (with_reducible repeat (first | refine blk_drewN ?_ _ | refine blk_drew ?_ | refine blk_alloc ?_ _)); exact BK604.out)) : gb604 ≠ gb610)); have n10_ := Aside0.mk ((by rw [hg]; exact Nat.ne_of_gt (blk_lt (g := gb604) (o := .cells #[.int .i64 ((rd_T27 l1 x32_1).f0), .string ((rd_T27 l1 x32_1).f1), .bool ((rd_T27 l1 x32_1).f2)] 27 (0, 0)) (by (with_reducible repeat (first | refine blk_drewN ?_ _ | refine blk_drew ?_ | refine blk_alloc ?_ _)); exact BK604.out)) : gb610 ≠ gb604)); clear HO_602001; clear BK601; clear BK604; clear HB; have HO_602001 := n0_; have BK601 := n1_; have BK604 := n2_; have HB := n3_; have BK610 := n4_; have GW610 := n5_; have GE610 := n6_; have NB601_610 := n7_; have NB610_601 := n8_; have NB604_610 := n9_; have NB610_604 := n10_; clear n0_ n1_ n2_ n3_ n4_ n5_ n6_ n7_ n8_ n9_ n10_; clear hb hbox hg; have hnb30 := NB610_601.out; have hnc30 := NB601_610.out; have hnb31 := NB610_604.out; have hnc31 := NB604_610.out; have hcz32_0 : w29.cell? ⟨gb610, 0, none⟩ = some (.int .i64 0) := (blk_cell BK610.out 0).trans rfl; have hcz32_1 : w29.cell? ⟨gb610, 1, none⟩ = some (.string (⟨#[]⟩ : ByteArray)) := (blk_cell BK610.out 1).trans rfl; have hcz32_2 : w29.cell? ⟨gb610, 2, none⟩ = some (.bool false) := (blk_cell BK610.out 2).trans rfl; have hfz32_0 := blk_frozen BK610.out 0; have hfz32_1 := blk_frozen BK610.out 1; have hfz32_2 := blk_frozen BK610.out 2; have hnb33 := NB604_601.out; have hnc33 := NB601_604.out; have hcz34_0 : w29.cell? ⟨gb604, 0, none⟩ = some (.int .i64 ((rd_T27 l1 x32_1).f0)) := (blk_cell BK604.out 0).trans rfl; have hcz34_1 : w29.cell? ⟨gb604, 1, none⟩ = some (.string ((rd_T27 l1 x32_1).f1)) := (blk_cell BK604.out 1).trans rfl; have hcz34_2 : w29.cell? ⟨gb604, 2, none⟩ = some (.bool ((rd_T27 l1 x32_1).f2)) := (blk_cell BK604.out 2).trans rfl; have hfz34_0 := blk_frozen BK604.out 0; have hfz34_1 := blk_frozen BK604.out 1; have hfz34_2 := blk_frozen BK604.out 2))
                            go_roundg k2
                            case measure => have := HK1.out; have := HK2.out; omega
                            case rel => exact ⟨((((rd_T27 l1 x32_1).f0) == ((rd_T27 y605 x41_2).f0))), (wrap64 (x41_2 + 1)), (by first | rfl | (simp; done) | (simp [*]; done)), (by first | rfl | (simp; done) | (simp [*]; done)), H', ⟨by have := HK1.out; have := HK2.out; omega⟩, ⟨by (with_reducible repeat (first | apply Kd.V_alloc | apply Kd.V_drewN | apply Kd.V_drew)); exact Kd.V_mono (Kd.V_far (p := ⟨gb610, 2, none⟩) (Kd.V_far (p := ⟨gb610, 1, none⟩) (Kd.V_far (p := ⟨gb610, 0, none⟩) (Kd.V_mono HO_602001.out (fun k_ hk => (⟨hk, hk.2⟩ : _ ∧ k_ ≠ gb610))) (fun _ hk => hk.2) (.int .i64 ((rd_T27 y605 x41_2).f0))) (fun _ hk => hk.2) (.string ((rd_T27 y605 x41_2).f1))) (fun _ hk => hk.2) (.bool ((rd_T27 y605 x41_2).f2))) (fun _ hk => ⟨hk.1.1.1, hk.1.1.2⟩)⟩, ⟨by (with_reducible repeat (first | refine blk_drewN ?_ _ | refine blk_drew ?_ | refine blk_alloc ?_ _)); refine blk_far ?_ NB601_610.out _; (with_reducible repeat (first | refine blk_drewN ?_ _ | refine blk_drew ?_ | refine blk_alloc ?_ _)); refine blk_far ?_ NB601_610.out _; (with_reducible repeat (first | refine blk_drewN ?_ _ | refine blk_drew ?_ | refine blk_alloc ?_ _)); refine blk_far ?_ NB601_610.out _; (with_reducible repeat (first | refine blk_drewN ?_ _ | refine blk_drew ?_ | refine blk_alloc ?_ _)); exact BK601.out⟩, ⟨by (with_reducible repeat (first | refine blk_drewN ?_ _ | refine blk_drew ?_ | refine blk_alloc ?_ _)); refine blk_far ?_ NB604_610.out _; (with_reducible repeat (first | refine blk_drewN ?_ _ | refine blk_drew ?_ | refine blk_alloc ?_ _)); refine blk_far ?_ NB604_610.out _; (with_reducible repeat (first | refine blk_drewN ?_ _ | refine blk_drew ?_ | refine blk_alloc ?_ _)); refine blk_far ?_ NB604_610.out _; (with_reducible repeat (first | refine blk_drewN ?_ _ | refine blk_drew ?_ | refine blk_alloc ?_ _)); exact BK604.out⟩, ⟨by repeat (first | (with_reducible first | exact HB.out | apply below_alloc | apply pw_below_drewN | apply below_drew1 | refine below_set ?_ GE601.out | refine below_set ?_ GE604.out | refine below_set ?_ GE610.out) | exact HB.out)⟩⟩
                        · rw [if_neg c23] at H
                          exact absurd H (by simp)
                      · rw [if_neg c22] at H
                        exact absurd H (by simp)
                    · rw [if_neg c21] at H
                      have c21b0 : decide (x41_2 < (y605.length : Int)) = false := decide_eq_false c21
                      clear c21
                      have HC35 := Aside0.mk H
                      clear H
                      go_upto_if 55 with (fail)
                      go_cut [8] (fun v8 wc => ∃ (kq : Nat) (x8_34 : Int), v8 = .int .i64 x8_34 ∧ Aside0 (weirkeeperlaw14_CacheMost.j2 kq l1 (wrap64 (1 + (wrap64 (Int.tmod a0 20)))) t600 x8_34 x11_2 l1 (l1.length : Int) x32_1 x602000_1 x602001_1 ((rd_T27 l1 x32_1).f0) ((rd_T27 l1 x32_1).f1) ((rd_T27 l1 x32_1).f2) = some r) ∧ Aside0 (kq ≤ k2) ∧ Aside0 (Kd.V k27 27 wc w.heap.size (fun k_ => k_ ≠ gb601 ∧ k_ ≠ gb604) u602001 x602001_1) ∧ Aside0 (wc.heap[gb601]? = some (.cells #[.int .i64 x602000_1, u602001] 24 (0, 0))) ∧ Aside0 (wc.heap[gb604]? = some (.cells #[.int .i64 ((rd_T27 l1 x32_1).f0), .string ((rd_T27 l1 x32_1).f1), .bool ((rd_T27 l1 x32_1).f2)] 27 (0, 0))) ∧ Aside0 (Below w.heap.size w wc))
                      case first =>
                        have H := HC35.out
                        clear HC35
                        by_cases c36 : x11_2 = true
                        · subst c36
                          have H1 : (weirkeeperlaw14_CacheMost.j2 k2 l1 (wrap64 (1 + (wrap64 (Int.tmod a0 20)))) t600 x8_1 true l1 (l1.length : Int) x32_1 x602000_1 x602001_1 ((rd_T27 l1 x32_1).f0) ((rd_T27 l1 x32_1).f1) ((rd_T27 l1 x32_1).f2)) = some r := by rw [if_pos rfl] at H; exact H
                          clear H
                          have H := H1
                          clear H1
                          have H' := Aside0.mk H
                          clear H
                          go_wp2
                          go_meet
                          case rel => exact ⟨_, (x8_1), (by first | rfl | (simp; done) | (simp [*]; done)), H', ⟨by have := HK1.out; have := HK2.out; first | omega | exact Nat.le_refl _⟩, ⟨by (with_reducible repeat (first | apply Kd.V_alloc | apply Kd.V_drewN | apply Kd.V_drew)); exact HO_602001.out⟩, ⟨by (with_reducible repeat (first | refine blk_drewN ?_ _ | refine blk_drew ?_ | refine blk_alloc ?_ _)); exact BK601.out⟩, ⟨by (with_reducible repeat (first | refine blk_drewN ?_ _ | refine blk_drew ?_ | refine blk_alloc ?_ _)); exact BK604.out⟩, ⟨by repeat (first | (with_reducible first | exact HB.out | apply below_alloc | apply pw_below_drewN | apply below_drew1 | refine below_set ?_ GE601.out | refine below_set ?_ GE604.out) | exact HB.out)⟩⟩
                        · replace c36 := Bool.eq_false_iff.mpr c36
                          subst c36
                          have H1 : (weirkeeperlaw14_CacheMost.j2 k2 l1 (wrap64 (1 + (wrap64 (Int.tmod a0 20)))) t600 (wrap64 (x8_1 + 1)) false l1 (l1.length : Int) x32_1 x602000_1 x602001_1 ((rd_T27 l1 x32_1).f0) ((rd_T27 l1 x32_1).f1) ((rd_T27 l1 x32_1).f2)) = some r := by rw [if_neg (show ¬ (false = true) by decide)] at H; exact H
                          clear H
                          have H := H1
                          clear H1
                          have H' := Aside0.mk H
                          clear H
                          go_wp2
                          go_meet
                          case rel => exact ⟨_, (wrap64 (x8_1 + 1)), (by first | rfl | (simp; done) | (simp [*]; done)), H', ⟨by have := HK1.out; have := HK2.out; first | omega | exact Nat.le_refl _⟩, ⟨by (with_reducible repeat (first | apply Kd.V_alloc | apply Kd.V_drewN | apply Kd.V_drew)); exact HO_602001.out⟩, ⟨by (with_reducible repeat (first | refine blk_drewN ?_ _ | refine blk_drew ?_ | refine blk_alloc ?_ _)); exact BK601.out⟩, ⟨by (with_reducible repeat (first | refine blk_drewN ?_ _ | refine blk_drew ?_ | refine blk_alloc ?_ _)); exact BK604.out⟩, ⟨by repeat (first | (with_reducible first | exact HB.out | apply below_alloc | apply pw_below_drewN | apply below_drew1 | refine below_set ?_ GE601.out | refine below_set ?_ GE604.out) | exact HB.out)⟩⟩
                      case rest =>
                        clear HC35
                        try clear c1
                        try clear c2
                        try clear p2
                        try clear q2
                        try clear c3
                        try clear c3b0
                        try clear c3b1
                        try clear p6
                        try clear q6
                        try clear hx6
                        try clear c8
                        try clear c9
                        try clear c11
                        try clear c11b0
                        try clear c12
                        try clear c12b0
                        try clear c13
                        try clear c13b0
                        try clear c14
                        try clear c14b0
                        try clear c15
                        try clear c15b0
                        try clear c15b1
                        try clear c17
                        try clear q20
                        try clear c21
                        try clear c21b0
                        try clear c22
                        try clear c22b0
                        try clear c23
                        try clear c23b0
                        try clear c24
                        try clear c26
                        try clear c27
                        try clear c30
                        try clear c31
                        try clear c33
                        try clear c36
                        try clear hcz18_0
                        try clear hcz18_1
                        try clear hcz18_2
                        try clear hcz28_0
                        try clear hcz28_1
                        try clear hcz28_2
                        try clear hcz32_0
                        try clear hcz32_1
                        try clear hcz32_2
                        try clear hcz34_0
                        try clear hcz34_1
                        try clear hcz34_2
                        try clear hcz9_0
                        try clear hcz9_1
                        try clear hfz18_0
                        try clear hfz18_1
                        try clear hfz18_2
                        try clear hfz28_0
                        try clear hfz28_1
                        try clear hfz28_2
                        try clear hfz32_0
                        try clear hfz32_1
                        try clear hfz32_2
                        try clear hfz34_0
                        try clear hfz34_1
                        try clear hfz34_2
                        try clear hfz9_0
                        try clear hfz9_1
                        try clear hx603_0
                        try clear hx603_1
                        try clear hx603_2
                        try clear hx609_0
                        try clear hx609_1
                        try clear hx609_2
                        try clear p2
                        try clear p6
                        try clear p603
                        try clear p609
                        try clear q2
                        try clear q20
                        try clear q6
                        try clear q603
                        try clear q609
                        obtain ⟨kq, x8_34, rfl, HA, HJ34, HO_602001, BK601, BK604, HB⟩ := hcut
                        cases kq with
                        | zero => exact absurd HA.out (by simp [weirkeeperlaw14_CacheMost.j2])
                        | succ kj34 =>
                          have H := HA.out
                          clear HA
                          simp only [weirkeeperlaw14_CacheMost.j2] at H
                          obtain ⟨y611, hy611⟩ : ∃ y_ : List (S27), y_ = (([(⟨((rd_T27 l1 x32_1).f0), ((rd_T27 l1 x32_1).f1), ((rd_T27 l1 x32_1).f2)⟩ : S27)] : List (S27))) := ⟨_, rfl⟩
                          replace H : ((cache_Put.f kj34 x602000_1 x602001_1 y611).bind fun bt614 => (if bt614.2.2.2 = 0 then ((cache_Right.f kj34 bt614.1 bt614.2.1).bind fun t623 => (if t623 = true then (if (bt614.2.1.length : Int) = (mn (wrap64 (1 + (wrap64 (Int.tmod a0 20)))) x8_34) then (if (bt614.2.1.length : Int) > (wrap64 (1 + (wrap64 (Int.tmod a0 20)))) then (none) else (if (bt614.2.2.1.length : Int) > 1 then (none) else (weirkeeperlaw14_CacheMost.l0 kj34 l1 (wrap64 (1 + (wrap64 (Int.tmod a0 20)))) t600 x8_34 l1 (l1.length : Int) (wrap64 (x32_1 + 1)) bt614.1 bt614.2.1))) else (if x11_2 = true then (if (bt614.2.1.length : Int) > (wrap64 (1 + (wrap64 (Int.tmod a0 20)))) then (none) else (if (bt614.2.2.1.length : Int) > 1 then (none) else (weirkeeperlaw14_CacheMost.l0 kj34 l1 (wrap64 (1 + (wrap64 (Int.tmod a0 20)))) t600 x8_34 l1 (l1.length : Int) (wrap64 (x32_1 + 1)) bt614.1 bt614.2.1))) else (none))) else (none))) else (none))) = some r := by first | (rw [hy611]; with_reducible exact H) | (have H2_ := (Option.bind_some _ _).symm.trans H; rw [hy611]; with_reducible exact H2_) | (have H2_ := (Option.bind_some _ _).symm.trans H; with_reducible exact H2_) | with_reducible exact H | (rw [hy611]; exact H) | exact H
                          have Ny611 := Aside0.mk hy611
                          clear hy611
                          replace H := Option.bind_eq_some_iff.mp H
                          obtain ⟨⟨t614, t615, t618, t621⟩, A370, H⟩ := H
                          replace H : (if t621 = 0 then ((cache_Right.f kj34 t614 t615).bind fun t623 => (if t623 = true then (if (t615.length : Int) = (mn (wrap64 (1 + (wrap64 (Int.tmod a0 20)))) x8_34) then (if (t615.length : Int) > (wrap64 (1 + (wrap64 (Int.tmod a0 20)))) then (none) else (if (t618.length : Int) > 1 then (none) else (weirkeeperlaw14_CacheMost.l0 kj34 l1 (wrap64 (1 + (wrap64 (Int.tmod a0 20)))) t600 x8_34 l1 (l1.length : Int) (wrap64 (x32_1 + 1)) t614 t615))) else (if x11_2 = true then (if (t615.length : Int) > (wrap64 (1 + (wrap64 (Int.tmod a0 20)))) then (none) else (if (t618.length : Int) > 1 then (none) else (weirkeeperlaw14_CacheMost.l0 kj34 l1 (wrap64 (1 + (wrap64 (Int.tmod a0 20)))) t600 x8_34 l1 (l1.length : Int) (wrap64 (x32_1 + 1)) t614 t615))) else (none))) else (none))) else (none)) = some r := H
                          have A37 := Aside0.mk A370
                          clear A370
                          by_cases c38 : t621 = 0
                          · rw [if_pos c38] at H
                            have c38b0 : (t621 == 0) = true := beq_iff_eq.mpr c38
                            have c38b1 : (t621 != 0) = false := bne_eq_false_iff_eq.mpr c38
                            clear c38
                            replace H := Option.bind_eq_some_iff.mp H
                            obtain ⟨t623, A390, H⟩ := H
                            replace H : (if t623 = true then (if (t615.length : Int) = (mn (wrap64 (1 + (wrap64 (Int.tmod a0 20)))) x8_34) then (if (t615.length : Int) > (wrap64 (1 + (wrap64 (Int.tmod a0 20)))) then (none) else (if (t618.length : Int) > 1 then (none) else (weirkeeperlaw14_CacheMost.l0 kj34 l1 (wrap64 (1 + (wrap64 (Int.tmod a0 20)))) t600 x8_34 l1 (l1.length : Int) (wrap64 (x32_1 + 1)) t614 t615))) else (if x11_2 = true then (if (t615.length : Int) > (wrap64 (1 + (wrap64 (Int.tmod a0 20)))) then (none) else (if (t618.length : Int) > 1 then (none) else (weirkeeperlaw14_CacheMost.l0 kj34 l1 (wrap64 (1 + (wrap64 (Int.tmod a0 20)))) t600 x8_34 l1 (l1.length : Int) (wrap64 (x32_1 + 1)) t614 t615))) else (none))) else (none)) = some r := H
                            have A39 := Aside0.mk A390
                            clear A390
                            by_cases c40 : t623 = true
                            · subst c40
                              have H1 : (if (t615.length : Int) = (mn (wrap64 (1 + (wrap64 (Int.tmod a0 20)))) x8_34) then (if (t615.length : Int) > (wrap64 (1 + (wrap64 (Int.tmod a0 20)))) then (none) else (if (t618.length : Int) > 1 then (none) else (weirkeeperlaw14_CacheMost.l0 kj34 l1 (wrap64 (1 + (wrap64 (Int.tmod a0 20)))) t600 x8_34 l1 (l1.length : Int) (wrap64 (x32_1 + 1)) t614 t615))) else (if x11_2 = true then (if (t615.length : Int) > (wrap64 (1 + (wrap64 (Int.tmod a0 20)))) then (none) else (if (t618.length : Int) > 1 then (none) else (weirkeeperlaw14_CacheMost.l0 kj34 l1 (wrap64 (1 + (wrap64 (Int.tmod a0 20)))) t600 x8_34 l1 (l1.length : Int) (wrap64 (x32_1 + 1)) t614 t615))) else (none))) = some r := by rw [if_pos rfl] at H; exact H
                              clear H
                              have H := H1
                              clear H1
                              obtain ⟨ji41, hji41⟩ : ∃ j_ : Int, (mn (wrap64 (1 + (wrap64 (Int.tmod a0 20)))) x8_34) = j_ := ⟨_, rfl⟩
                              replace H : (if (t615.length : Int) = (ji41) then (if (t615.length : Int) > (wrap64 (1 + (wrap64 (Int.tmod a0 20)))) then (none) else (if (t618.length : Int) > 1 then (none) else (weirkeeperlaw14_CacheMost.l0 kj34 l1 (wrap64 (1 + (wrap64 (Int.tmod a0 20)))) t600 x8_34 l1 (l1.length : Int) (wrap64 (x32_1 + 1)) t614 t615))) else (if x11_2 = true then (if (t615.length : Int) > (wrap64 (1 + (wrap64 (Int.tmod a0 20)))) then (none) else (if (t618.length : Int) > 1 then (none) else (weirkeeperlaw14_CacheMost.l0 kj34 l1 (wrap64 (1 + (wrap64 (Int.tmod a0 20)))) t600 x8_34 l1 (l1.length : Int) (wrap64 (x32_1 + 1)) t614 t615))) else (none))) = some r := by first | (rw [hji41] at H; exact H) | (simp only [hji41] at H ⊢; exact H)
                              (try rw [hji41] at A37)
                              (try rw [hji41] at A39)
                              have hji41_ : (if x8_34 < (wrap64 (1 + (wrap64 (Int.tmod a0 20)))) then x8_34 else (wrap64 (1 + (wrap64 (Int.tmod a0 20))))) = ji41 := hji41
                              by_cases c42 : (t615.length : Int) = (ji41)
                              · rw [if_pos c42] at H
                                have c42b0 : ((t615.length : Int) == (ji41)) = true := beq_iff_eq.mpr c42
                                have c42b1 : ((t615.length : Int) != (ji41)) = false := bne_eq_false_iff_eq.mpr c42
                                clear c42
                                by_cases c43 : (t615.length : Int) > (wrap64 (1 + (wrap64 (Int.tmod a0 20))))
                                · rw [if_pos c43] at H
                                  exact absurd H (by simp)
                                · rw [if_neg c43] at H
                                  have c43b0 : decide ((wrap64 (1 + (wrap64 (Int.tmod a0 20)))) < (t615.length : Int)) = false := decide_eq_false c43
                                  clear c43
                                  by_cases c44 : (t618.length : Int) > 1
                                  · rw [if_pos c44] at H
                                    exact absurd H (by simp)
                                  · rw [if_neg c44] at H
                                    have c44b0 : decide (1 < (t618.length : Int)) = false := decide_eq_false c44
                                    have c44b1 : decide (1 < t618.length) = false := decide_eq_false (by omega)
                                    clear c44
                                    have H' := Aside0.mk H
                                    clear H
                                    have hnb45 := NB601_604.out
                                    have hnc45 := NB604_601.out
                                    have hcz46_0 : wc.cell? ⟨gb601, 0, none⟩ = some (.int .i64 x602000_1) := (blk_cell BK601.out 0).trans rfl
                                    have hcz46_1 : wc.cell? ⟨gb601, 1, none⟩ = some (u602001) := (blk_cell BK601.out 1).trans rfl
                                    have hfz46_0 := blk_frozen BK601.out 0
                                    have hfz46_1 := blk_frozen BK601.out 1
                                    have hcz47_0 : wc.cell? ⟨gb604, 0, none⟩ = some (.int .i64 ((rd_T27 l1 x32_1).f0)) := (blk_cell BK604.out 0).trans rfl
                                    have hcz47_1 : wc.cell? ⟨gb604, 1, none⟩ = some (.string ((rd_T27 l1 x32_1).f1)) := (blk_cell BK604.out 1).trans rfl
                                    have hcz47_2 : wc.cell? ⟨gb604, 2, none⟩ = some (.bool ((rd_T27 l1 x32_1).f2)) := (blk_cell BK604.out 2).trans rfl
                                    have hfz47_0 := blk_frozen BK604.out 0
                                    have hfz47_1 := blk_frozen BK604.out 1
                                    have hfz47_2 := blk_frozen BK604.out 2
                                    go_wp2_with (first | ((with_reducible refine gate_dst (N := 61) rfl ?_); (try (refine gate_guard (by rfl) ?_; dsimp only)); refine Kd.R_lit k27 _ 27 ?hg (N := 61) ?hd (xs := ([(⟨((rd_T27 l1 x32_1).f0), ((rd_T27 l1 x32_1).f1), ((rd_T27 l1 x32_1).f2)⟩ : S27)] : List (S27))) (inner := [.int .i64 ((rd_T27 l1 x32_1).f0), .string ((rd_T27 l1 x32_1).f1), .bool ((rd_T27 l1 x32_1).f2)]) (ok := fun _ => True) (okp := fun _ => True) ?hr ?hp (fun _ hk => hk) trivial (Below.refl _ _) (Nat.le_refl _) (by simp) ?_; (case hd => rfl); (case hg => rfl); (case hr => first | (go_simp; done) | (go_simp; rfl)); (case hp => exact (Reps.c3 (show Kd.M k27 _ _ _ (⟨((rd_T27 l1 x32_1).f0), ((rd_T27 l1 x32_1).f1), ((rd_T27 l1 x32_1).f2)⟩ : S27) [.int .i64 ((rd_T27 l1 x32_1).f0), .string ((rd_T27 l1 x32_1).f1), .bool ((rd_T27 l1 x32_1).f2)] from (k27_mkM _ _ _ (⟨((rd_T27 l1 x32_1).f0), ((rd_T27 l1 x32_1).f1), ((rd_T27 l1 x32_1).f2)⟩ : S27) )) (Reps.none _ _))); intro v612 w48 ho49 hb hg_ hnew_; clear hg_ hnew_; (first | rw [← Ny611.out] at ho49 | (simp only [Int.reduceToNat] at ho49; rw [← Ny611.out] at ho49)); have n0_ := Aside0.mk (Kd.V_elder' (by (with_reducible repeat (first | apply Kd.V_alloc | apply Kd.V_drewN | apply Kd.V_drew)); exact HO_602001.out) (Kd.R_base ho49) hb); have n1_ := Aside0.mk (Kd.R_lower (Kd.R_newB ho49 (g := gb604) (o := .cells #[.int .i64 ((rd_T27 l1 x32_1).f0), .string ((rd_T27 l1 x32_1).f1), .bool ((rd_T27 l1 x32_1).f2)] 27 (0, 0)) (by (with_reducible repeat (first | refine blk_drewN ?_ _ | refine blk_drew ?_ | refine blk_alloc ?_ _)); exact BK604.out)) (below_size (by repeat (first | (with_reducible first | exact HB.out | apply below_alloc | apply pw_below_drewN | apply below_drew1 | refine below_set ?_ GE601.out | refine below_set ?_ GE604.out) | exact HB.out)))); have n2_ := Aside0.mk (blk_below (g := gb601) (o := .cells #[.int .i64 x602000_1, u602001] 24 (0, 0)) (by (with_reducible repeat (first | refine blk_drewN ?_ _ | refine blk_drew ?_ | refine blk_alloc ?_ _)); exact BK601.out) hb); have n3_ := Aside0.mk (blk_below (g := gb604) (o := .cells #[.int .i64 ((rd_T27 l1 x32_1).f0), .string ((rd_T27 l1 x32_1).f1), .bool ((rd_T27 l1 x32_1).f2)] 27 (0, 0)) (by (with_reducible repeat (first | refine blk_drewN ?_ _ | refine blk_drew ?_ | refine blk_alloc ?_ _)); exact BK604.out) hb); have n4_ := Aside0.mk (below_step (by repeat (first | (with_reducible first | exact HB.out | apply below_alloc | apply pw_below_drewN | apply below_drew1 | refine below_set ?_ GE601.out | refine below_set ?_ GE604.out) | exact HB.out)) hb); clear HO_602001; clear BK601; clear BK604; clear HB; have HO_602001 := n0_; have HO613 := n1_; have BK601 := n2_; have BK604 := n3_; have HB := n4_; clear n0_ n1_ n2_ n3_ n4_; clear hb ho49; obtain ⟨Ao50, co50, eo50⟩ := Kd.V_slice HO_602001.out; subst eo50; obtain ⟨Ao51, co51, eo51⟩ := Kd.R_slice HO613.out; subst eo51) | ((with_reducible refine gate_callee (f := 13) rfl ?_); refine goesL_ (some 62) rfl rfl Try.func13 (by kernel_rfl) rfl #[.agg #[.int .i64 x602000_1, .slice Ao50 x602001_1.length co50], .slice Ao51 y611.length co51] rfl (by (try simp only [List.map_toArray, List.map_cons, List.map_nil]); first | done | rfl | (simp only [List.length_drop, List.length_take]; rfl)) ?_; (with_reducible refine (cache_Put.calls kj34 x602000_1 (fun k_ => ((k_ ≠ gb601 ∧ k_ ≠ gb604) ∧ some k_ ≠ (.slice Ao51 y611.length co51 : Value).ownBlock)) _ _ x602001_1 _ _ y611 t614 t615 t618 t621 _ ?side1 ?side2 ?side3 A37.out).mono ?_); (case side1 => exact HO_602001.out); (case side2 => repeat (first | exact (Kd.R_reads' HO613.out).2.2 | (with_reducible refine Kd.C_alloc ?_ _) | (with_reducible refine Kd.C_drewN ?_ _) | (with_reducible refine Kd.C_drew ?_))); (case side3 => exact (Kd.R_reads' HO613.out).2.1); rintro e w52 ⟨v616, v619, rfl, ho0, ho1, hb⟩; refine ⟨_, rfl, ?_⟩; have n0_ := Aside0.mk (Kd.V_elder' (by (with_reducible repeat (first | apply Kd.V_alloc | apply Kd.V_drewN | apply Kd.V_drew)); exact HO_602001.out) (Kd.R_base ho1) hb); have n1_ := Aside0.mk (Kd.R_elder' (by (with_reducible repeat (first | apply Kd.R_alloc | apply Kd.R_drewN | apply Kd.R_drew)); exact HO613.out) (Kd.R_base ho1) hb); have n2_ := Aside0.mk (Kd.V_lower (Kd.V_mono (ok' := fun k_ => some k_ ≠ (v619 : Value).ownBlock ∧ some k_ ≠ (.slice Ao51 y611.length co51 : Value).ownBlock ∧ k_ ≠ gb601 ∧ k_ ≠ gb604) ho0 (fun k_ hk_ => ⟨hk_.2, Or.elim hk_.1 (fun hs_ => hs_.2) (fun hn_ => (Kd.fresh' (Kd.R_lt (by (with_reducible repeat (first | apply Kd.R_alloc | apply Kd.R_drewN | apply Kd.R_drew)); exact HO613.out)) k_ hn_)), Or.elim hk_.1 (fun hs_ => hs_.1.1) (fun hn_ => (Kd.freshB (g := gb601) (o := .cells #[.int .i64 x602000_1, .slice Ao50 x602001_1.length co50] 24 (0, 0)) (by (with_reducible repeat (first | refine blk_drewN ?_ _ | refine blk_drew ?_ | refine blk_alloc ?_ _)); exact BK601.out) k_ hn_)), Or.elim hk_.1 (fun hs_ => hs_.1.2) (fun hn_ => (Kd.freshB (g := gb604) (o := .cells #[.int .i64 ((rd_T27 l1 x32_1).f0), .string ((rd_T27 l1 x32_1).f1), .bool ((rd_T27 l1 x32_1).f2)] 27 (0, 0)) (by (with_reducible repeat (first | refine blk_drewN ?_ _ | refine blk_drew ?_ | refine blk_alloc ?_ _)); exact BK604.out) k_ hn_))⟩)) (below_size (by repeat (first | (with_reducible first | exact HB.out | apply below_alloc | apply pw_below_drewN | apply below_drew1 | refine below_set ?_ GE601.out | refine below_set ?_ GE604.out) | exact HB.out)))); have n3_ := Aside0.mk (Kd.R_lower (Kd.R_newB (Kd.R_new' (Kd.R_mono (ok' := fun k_ => True) ho1 (fun _ hk_ => trivial)) (Kd.R_lt (by (with_reducible repeat (first | apply Kd.R_alloc | apply Kd.R_drewN | apply Kd.R_drew)); exact HO613.out))) (g := gb604) (o := .cells #[.int .i64 ((rd_T27 l1 x32_1).f0), .string ((rd_T27 l1 x32_1).f1), .bool ((rd_T27 l1 x32_1).f2)] 27 (0, 0)) (by (with_reducible repeat (first | refine blk_drewN ?_ _ | refine blk_drew ?_ | refine blk_alloc ?_ _)); exact BK604.out)) (below_size (by repeat (first | (with_reducible first | exact HB.out | apply below_alloc | apply pw_below_drewN | apply below_drew1 | refine below_set ?_ GE601.out | refine below_set ?_ GE604.out) | exact HB.out)))); have n4_ := Aside0.mk (blk_below (g := gb601) (o := .cells #[.int .i64 x602000_1, .slice Ao50 x602001_1.length co50] 24 (0, 0)) (by (with_reducible repeat (first | refine blk_drewN ?_ _ | refine blk_drew ?_ | refine blk_alloc ?_ _)); exact BK601.out) hb); have n5_ := Aside0.mk (blk_below (g := gb604) (o := .cells #[.int .i64 ((rd_T27 l1 x32_1).f0), .string ((rd_T27 l1 x32_1).f1), .bool ((rd_T27 l1 x32_1).f2)] 27 (0, 0)) (by (with_reducible repeat (first | refine blk_drewN ?_ _ | refine blk_drew ?_ | refine blk_alloc ?_ _)); exact BK604.out) hb); have n6_ := Aside0.mk (below_step (by repeat (first | (with_reducible first | exact HB.out | apply below_alloc | apply pw_below_drewN | apply below_drew1 | refine below_set ?_ GE601.out | refine below_set ?_ GE604.out) | exact HB.out)) hb); clear HO_602001; clear HO613; clear BK601; clear BK604; clear HB; have HO_602001 := n0_; have HO613 := n1_; have HO617 := n2_; have HO620 := n3_; have BK601 := n4_; have BK604 := n5_; have HB := n6_; clear n0_ n1_ n2_ n3_ n4_ n5_ n6_; (try clear hb); (try clear hb2); (try clear hk); (try clear hi); (try clear ho0); (try clear ho1)) | ((with_reducible refine gate_dst (N := 14) rfl ?_); (try (refine gate_guard (by rfl) ?_; dsimp only)); refine box_event ?hg (N := 14) ?hd (cs := #[.int .i64 0, .slice none 0 0]) (t := 24) ?hr ?_; (case hd => rfl); (case hg => rfl); (case hr => first | (go_simp; done) | (go_simp; rfl)); intro gb622 hg w53 hbox hb; have n0_ := Aside0.mk (Kd.V_below (Kd.V_elderB (by (with_reducible repeat (first | apply Kd.V_alloc | apply Kd.V_drewN | apply Kd.V_drew)); exact HO_602001.out) gb622 (Nat.le_of_eq hg.symm)) hb); have n1_ := Aside0.mk (Kd.R_below (by (with_reducible repeat (first | apply Kd.R_alloc | apply Kd.R_drewN | apply Kd.R_drew)); exact HO613.out) hb); have n2_ := Aside0.mk (Kd.V_below (Kd.V_elderB (by (with_reducible repeat (first | apply Kd.V_alloc | apply Kd.V_drewN | apply Kd.V_drew)); exact HO617.out) gb622 (Nat.le_of_eq hg.symm)) hb); have n3_ := Aside0.mk (Kd.R_below (by (with_reducible repeat (first | apply Kd.R_alloc | apply Kd.R_drewN | apply Kd.R_drew)); exact HO620.out) hb); have n4_ := Aside0.mk (blk_below (g := gb601) (o := .cells #[.int .i64 x602000_1, .slice Ao50 x602001_1.length co50] 24 (0, 0)) (by (with_reducible repeat (first | refine blk_drewN ?_ _ | refine blk_drew ?_ | refine blk_alloc ?_ _)); exact BK601.out) hb); have n5_ := Aside0.mk (blk_below (g := gb604) (o := .cells #[.int .i64 ((rd_T27 l1 x32_1).f0), .string ((rd_T27 l1 x32_1).f1), .bool ((rd_T27 l1 x32_1).f2)] 27 (0, 0)) (by (with_reducible repeat (first | refine blk_drewN ?_ _ | refine blk_drew ?_ | refine blk_alloc ?_ _)); exact BK604.out) hb); have n6_ := Aside0.mk (below_step (by repeat (first | (with_reducible first | exact HB.out | apply below_alloc | apply pw_below_drewN | apply below_drew1 | refine below_set ?_ GE601.out | refine below_set ?_ GE604.out) | exact HB.out)) hb); have n7_ := Aside0.mk (hbox); have n8_ := Aside0.mk ((by rw [hg]; exact (below_size (by repeat (first | (with_reducible first | exact HB.out | apply below_alloc | apply pw_below_drewN | apply below_drew1 | refine below_set ?_ GE601.out | refine below_set ?_ GE604.out) | exact HB.out))) : w.heap.size ≤ gb622)); have n9_ := Aside0.mk ((by rw [hg]; exact (below_size (by repeat (first | (with_reducible first | exact HB.out | apply below_alloc | apply pw_below_drewN | apply below_drew1 | refine below_set ?_ GE601.out | refine below_set ?_ GE604.out) | exact HB.out))) : w.heap.size ≤ gb622)); have n10_ := Aside0.mk ((by rw [hg]; exact Nat.ne_of_lt (blk_lt (g := gb601) (o := .cells #[.int .i64 x602000_1, .slice Ao50 x602001_1.length co50] 24 (0, 0)) (by (with_reducible repeat (first | refine blk_drewN ?_ _ | refine blk_drew ?_ | refine blk_alloc ?_ _)); exact BK601.out)) : gb601 ≠ gb622)); have n11_ := Aside0.mk ((by rw [hg]; exact Nat.ne_of_gt (blk_lt (g := gb601) (o := .cells #[.int .i64 x602000_1, .slice Ao50 x602001_1.length co50] 24 (0, 0)) (by (with_reducible repeat (first | refine blk_drewN ?_ _ | refine blk_drew ?_ | refine blk_alloc ?_ _)); exact BK601.out)) : gb622 ≠ gb601)); have n12_ := Aside0.mk ((by rw [hg]; exact Nat.ne_of_lt (blk_lt (g := gb604) (o := .cells #[.int .i64 ((rd_T27 l1 x32_1).f0), .string ((rd_T27 l1 x32_1).f1), .bool ((rd_T27 l1 x32_1).f2)] 27 (0, 0)) (by (with_reducible repeat (first | refine blk_drewN ?_ _ | refine blk_drew ?_ | refine blk_alloc ?_ _)); exact BK604.out)) : gb604 ≠ gb622)); have n13_ := Aside0.mk ((by rw [hg]; exact Nat.ne_of_gt (blk_lt (g := gb604) (o := .cells #[.int .i64 ((rd_T27 l1 x32_1).f0), .string ((rd_T27 l1 x32_1).f1), .bool ((rd_T27 l1 x32_1).f2)] 27 (0, 0)) (by (with_reducible repeat (first | refine blk_drewN ?_ _ | refine blk_drew ?_ | refine blk_alloc ?_ _)); exact BK604.out)) : gb622 ≠ gb604)); clear HO_602001; clear HO613; clear HO617; clear HO620; clear BK601; clear BK604; clear HB; have HO_602001 := n0_; have HO613 := n1_; have HO617 := n2_; have HO620 := n3_; have BK601 := n4_; have BK604 := n5_; have HB := n6_; have BK622 := n7_; have GW622 := n8_; have GE622 := n9_; have NB601_622 := n10_; have NB622_601 := n11_; have NB604_622 := n12_; have NB622_604 := n13_; clear n0_ n1_ n2_ n3_ n4_ n5_ n6_ n7_ n8_ n9_ n10_ n11_ n12_ n13_; clear hb hbox hg; have hnb54 := NB622_601.out; have hnc54 := NB601_622.out; have hnb55 := NB622_604.out; have hnc55 := NB604_622.out; have hcz56_0 : w53.cell? ⟨gb622, 0, none⟩ = some (.int .i64 0) := (blk_cell BK622.out 0).trans rfl; have hcz56_1 : w53.cell? ⟨gb622, 1, none⟩ = some (.slice none 0 0) := (blk_cell BK622.out 1).trans rfl; have hfz56_0 := blk_frozen BK622.out 0; have hfz56_1 := blk_frozen BK622.out 1; obtain ⟨Ao57, co57, eo57⟩ := Kd.V_slice HO617.out; subst eo57) | (go_at_call 19; (with_reducible refine (cache_Right.calls kj34 t614 _ _ t615 true _ ?side1 ?side2 A39.out).mono ?_); (case side1 => refine (Kd.V_reads' (e := 27) (base := w.heap.size) (ok := fun k_ => ((some k_ ≠ (v619 : Value).ownBlock ∧ (some k_ ≠ (.slice Ao51 y611.length co51 : Value).ownBlock ∧ (k_ ≠ gb601 ∧ k_ ≠ gb604))) ∧ k_ ≠ gb622)) (n := t615.length) (c := co57) ?_).2.2; exact (by (with_reducible repeat (first | apply Kd.V_alloc | apply Kd.V_drewN | apply Kd.V_drew)); exact (Kd.V_mono (Kd.V_far (p := ⟨gb622, 1, none⟩) (Kd.V_far (p := ⟨gb622, 0, none⟩) (Kd.V_mono HO617.out (fun k_ hk => (⟨hk, hk.2⟩ : _ ∧ k_ ≠ gb622))) (fun _ hk => hk.2) (.int .i64 t614)) (fun _ hk => hk.2) (.slice Ao57 t615.length co57)) (fun _ h_ => h_.1)))); (case side2 => exact (Kd.V_reads' HO617.out).2.1); rintro e w58 ⟨rfl, hb⟩; have n0_ := Aside0.mk (Kd.V_below (by (with_reducible repeat (first | apply Kd.V_alloc | apply Kd.V_drewN | apply Kd.V_drew)); exact (Kd.V_mono (Kd.V_far (p := ⟨gb622, 1, none⟩) (Kd.V_far (p := ⟨gb622, 0, none⟩) (Kd.V_mono HO_602001.out (fun k_ hk => (⟨hk, hk.2⟩ : _ ∧ k_ ≠ gb622))) (fun _ hk => hk.2) (.int .i64 t614)) (fun _ hk => hk.2) (.slice Ao57 t615.length co57)) (fun _ h_ => h_.1))) hb); have n1_ := Aside0.mk (Kd.R_below (by (with_reducible repeat (first | apply Kd.R_alloc | apply Kd.R_drewN | apply Kd.R_drew)); exact (Kd.R_mono (Kd.R_far (p := ⟨gb622, 1, none⟩) (Kd.R_far (p := ⟨gb622, 0, none⟩) (Kd.R_types HO613.out BK622.out (by decide)) (fun _ hk => hk.2) (.int .i64 t614)) (fun _ hk => hk.2) (.slice Ao57 t615.length co57)) (fun _ h_ => h_.1))) hb); have n2_ := Aside0.mk (Kd.V_below (by (with_reducible repeat (first | apply Kd.V_alloc | apply Kd.V_drewN | apply Kd.V_drew)); exact (Kd.V_mono (Kd.V_far (p := ⟨gb622, 1, none⟩) (Kd.V_far (p := ⟨gb622, 0, none⟩) (Kd.V_mono HO617.out (fun k_ hk => (⟨hk, hk.2⟩ : _ ∧ k_ ≠ gb622))) (fun _ hk => hk.2) (.int .i64 t614)) (fun _ hk => hk.2) (.slice Ao57 t615.length co57)) (fun _ h_ => h_.1))) hb); have n3_ := Aside0.mk (Kd.R_below (by (with_reducible repeat (first | apply Kd.R_alloc | apply Kd.R_drewN | apply Kd.R_drew)); exact (Kd.R_mono (Kd.R_far (p := ⟨gb622, 1, none⟩) (Kd.R_far (p := ⟨gb622, 0, none⟩) (Kd.R_types HO620.out BK622.out (by decide)) (fun _ hk => hk.2) (.int .i64 t614)) (fun _ hk => hk.2) (.slice Ao57 t615.length co57)) (fun _ h_ => h_.1))) hb); have n4_ := Aside0.mk (blk_below (g := gb601) (o := .cells #[.int .i64 x602000_1, .slice Ao50 x602001_1.length co50] 24 (0, 0)) (by (with_reducible repeat (first | refine blk_drewN ?_ _ | refine blk_drew ?_ | refine blk_alloc ?_ _)); refine blk_far ?_ NB601_622.out _; (with_reducible repeat (first | refine blk_drewN ?_ _ | refine blk_drew ?_ | refine blk_alloc ?_ _)); refine blk_far ?_ NB601_622.out _; (with_reducible repeat (first | refine blk_drewN ?_ _ | refine blk_drew ?_ | refine blk_alloc ?_ _)); exact BK601.out) hb); have n5_ := Aside0.mk (blk_below (g := gb604) (o := .cells #[.int .i64 ((rd_T27 l1 x32_1).f0), .string ((rd_T27 l1 x32_1).f1), .bool ((rd_T27 l1 x32_1).f2)] 27 (0, 0)) (by (with_reducible repeat (first | refine blk_drewN ?_ _ | refine blk_drew ?_ | refine blk_alloc ?_ _)); refine blk_far ?_ NB604_622.out _; (with_reducible repeat (first | refine blk_drewN ?_ _ | refine blk_drew ?_ | refine blk_alloc ?_ _)); refine blk_far ?_ NB604_622.out _; (with_reducible repeat (first | refine blk_drewN ?_ _ | refine blk_drew ?_ | refine blk_alloc ?_ _)); exact BK604.out) hb); have n6_ := Aside0.mk (blk_below (g := gb622) (o := .cells #[.int .i64 t614, .slice Ao57 t615.length co57] 24 (0, 0)) (by (with_reducible repeat (first | refine blk_drewN ?_ _ | refine blk_drew ?_ | refine blk_alloc ?_ _)); refine blk_put (cs := #[.int .i64 t614, .slice none 0 0]) ?_ 1 _ rfl; (with_reducible repeat (first | refine blk_drewN ?_ _ | refine blk_drew ?_ | refine blk_alloc ?_ _)); refine blk_put (cs := #[.int .i64 0, .slice none 0 0]) ?_ 0 _ rfl; (with_reducible repeat (first | refine blk_drewN ?_ _ | refine blk_drew ?_ | refine blk_alloc ?_ _)); exact BK622.out) hb); have n7_ := Aside0.mk (below_step (by repeat (first | (with_reducible first | exact HB.out | apply below_alloc | apply pw_below_drewN | apply below_drew1 | refine below_set ?_ GE601.out | refine below_set ?_ GE604.out | refine below_set ?_ GE622.out) | exact HB.out)) hb); clear HO_602001; clear HO613; clear HO617; clear HO620; clear BK601; clear BK604; clear BK622; clear HB; have HO_602001 := n0_; have HO613 := n1_; have HO617 := n2_; have HO620 := n3_; have BK601 := n4_; have BK604 := n5_; have BK622 := n6_; have HB := n7_; clear n0_ n1_ n2_ n3_ n4_ n5_ n6_ n7_; (try clear hb); (try clear hb2); (try clear hk); (try clear hi); have hcz59_0 : w58.cell? ⟨gb622, 0, none⟩ = some (.int .i64 t614) := (blk_cell BK622.out 0).trans rfl; have hcz59_1 : w58.cell? ⟨gb622, 1, none⟩ = some (.slice Ao57 t615.length co57) := (blk_cell BK622.out 1).trans rfl; have hfz59_0 := blk_frozen BK622.out 0; have hfz59_1 := blk_frozen BK622.out 1; obtain ⟨Ao60, co60, eo60⟩ := Kd.R_slice HO620.out; subst eo60; have hcz61_0 : w58.cell? ⟨gb601, 0, none⟩ = some (.int .i64 x602000_1) := (blk_cell BK601.out 0).trans rfl; have hcz61_1 : w58.cell? ⟨gb601, 1, none⟩ = some (.slice Ao50 x602001_1.length co50) := (blk_cell BK601.out 1).trans rfl; have hfz61_0 := blk_frozen BK601.out 0; have hfz61_1 := blk_frozen BK601.out 1))
                                    go_roundg kj34
                                    case measure => have := HK1.out; have := HK2.out; have := HJ34.out; omega
                                    case rel => exact ⟨(x8_34), (wrap64 (x32_1 + 1)), (t614), (t615), (.slice Ao57 t615.length co57), (by first | rfl | (simp; done) | (simp [*]; done)), (by first | rfl | (simp; done) | (simp [*]; done)), H', ⟨by have := HK1.out; have := HK2.out; have := HJ34.out; omega⟩, ⟨by (with_reducible repeat (first | apply Kd.V_alloc | apply Kd.V_drewN | apply Kd.V_drew)); exact Kd.V_mono (Kd.V_far (p := ⟨gb601, 1, none⟩) (Kd.V_far (p := ⟨gb601, 0, none⟩) (Kd.V_mono HO617.out (fun k_ hk => (⟨hk, hk.1.2.2.1⟩ : _ ∧ k_ ≠ gb601))) (fun _ hk => hk.2) (.int .i64 t614)) (fun _ hk => hk.2) (.slice Ao57 t615.length co57)) (fun _ hk => hk.1.1.2.2.1)⟩, ⟨by (with_reducible repeat (first | refine blk_drewN ?_ _ | refine blk_drew ?_ | refine blk_alloc ?_ _)); refine blk_put (cs := #[.int .i64 t614, .slice Ao50 x602001_1.length co50]) ?_ 1 _ rfl; (with_reducible repeat (first | refine blk_drewN ?_ _ | refine blk_drew ?_ | refine blk_alloc ?_ _)); refine blk_put (cs := #[.int .i64 x602000_1, .slice Ao50 x602001_1.length co50]) ?_ 0 _ rfl; (with_reducible repeat (first | refine blk_drewN ?_ _ | refine blk_drew ?_ | refine blk_alloc ?_ _)); exact BK601.out⟩, ⟨by repeat (first | (with_reducible first | exact HB.out | apply below_alloc | apply pw_below_drewN | apply below_drew1 | refine below_set ?_ GE601.out | refine below_set ?_ GE604.out | refine below_set ?_ GE622.out) | exact HB.out)⟩⟩
                              · rw [if_neg c42] at H
                                have c42b0 : ((t615.length : Int) == (ji41)) = false := beq_eq_false_iff_ne.mpr c42
                                have c42b1 : ((t615.length : Int) != (ji41)) = true := bne_iff_ne.mpr c42
                                by_cases c62 : x11_2 = true
                                · subst c62
                                  have H1 : (if (t615.length : Int) > (wrap64 (1 + (wrap64 (Int.tmod a0 20)))) then (none) else (if (t618.length : Int) > 1 then (none) else (weirkeeperlaw14_CacheMost.l0 kj34 l1 (wrap64 (1 + (wrap64 (Int.tmod a0 20)))) t600 x8_34 l1 (l1.length : Int) (wrap64 (x32_1 + 1)) t614 t615))) = some r := by rw [if_pos rfl] at H; exact H
                                  clear H
                                  have H := H1
                                  clear H1
                                  by_cases c63 : (t615.length : Int) > (wrap64 (1 + (wrap64 (Int.tmod a0 20))))
                                  · rw [if_pos c63] at H
                                    exact absurd H (by simp)
                                  · rw [if_neg c63] at H
                                    have c63b0 : decide ((wrap64 (1 + (wrap64 (Int.tmod a0 20)))) < (t615.length : Int)) = false := decide_eq_false c63
                                    clear c63
                                    by_cases c64 : (t618.length : Int) > 1
                                    · rw [if_pos c64] at H
                                      exact absurd H (by simp)
                                    · rw [if_neg c64] at H
                                      have c64b0 : decide (1 < (t618.length : Int)) = false := decide_eq_false c64
                                      have c64b1 : decide (1 < t618.length) = false := decide_eq_false (by omega)
                                      clear c64
                                      have H' := Aside0.mk H
                                      clear H
                                      have hnb65 := NB601_604.out
                                      have hnc65 := NB604_601.out
                                      have hcz66_0 : wc.cell? ⟨gb601, 0, none⟩ = some (.int .i64 x602000_1) := (blk_cell BK601.out 0).trans rfl
                                      have hcz66_1 : wc.cell? ⟨gb601, 1, none⟩ = some (u602001) := (blk_cell BK601.out 1).trans rfl
                                      have hfz66_0 := blk_frozen BK601.out 0
                                      have hfz66_1 := blk_frozen BK601.out 1
                                      have hcz67_0 : wc.cell? ⟨gb604, 0, none⟩ = some (.int .i64 ((rd_T27 l1 x32_1).f0)) := (blk_cell BK604.out 0).trans rfl
                                      have hcz67_1 : wc.cell? ⟨gb604, 1, none⟩ = some (.string ((rd_T27 l1 x32_1).f1)) := (blk_cell BK604.out 1).trans rfl
                                      have hcz67_2 : wc.cell? ⟨gb604, 2, none⟩ = some (.bool ((rd_T27 l1 x32_1).f2)) := (blk_cell BK604.out 2).trans rfl
                                      have hfz67_0 := blk_frozen BK604.out 0
                                      have hfz67_1 := blk_frozen BK604.out 1
                                      have hfz67_2 := blk_frozen BK604.out 2
                                      go_wp2_with (first | ((with_reducible refine gate_dst (N := 61) rfl ?_); (try (refine gate_guard (by rfl) ?_; dsimp only)); refine Kd.R_lit k27 _ 27 ?hg (N := 61) ?hd (xs := ([(⟨((rd_T27 l1 x32_1).f0), ((rd_T27 l1 x32_1).f1), ((rd_T27 l1 x32_1).f2)⟩ : S27)] : List (S27))) (inner := [.int .i64 ((rd_T27 l1 x32_1).f0), .string ((rd_T27 l1 x32_1).f1), .bool ((rd_T27 l1 x32_1).f2)]) (ok := fun _ => True) (okp := fun _ => True) ?hr ?hp (fun _ hk => hk) trivial (Below.refl _ _) (Nat.le_refl _) (by simp) ?_; (case hd => rfl); (case hg => rfl); (case hr => first | (go_simp; done) | (go_simp; rfl)); (case hp => exact (Reps.c3 (show Kd.M k27 _ _ _ (⟨((rd_T27 l1 x32_1).f0), ((rd_T27 l1 x32_1).f1), ((rd_T27 l1 x32_1).f2)⟩ : S27) [.int .i64 ((rd_T27 l1 x32_1).f0), .string ((rd_T27 l1 x32_1).f1), .bool ((rd_T27 l1 x32_1).f2)] from (k27_mkM _ _ _ (⟨((rd_T27 l1 x32_1).f0), ((rd_T27 l1 x32_1).f1), ((rd_T27 l1 x32_1).f2)⟩ : S27) )) (Reps.none _ _))); intro v612 w68 ho69 hb hg_ hnew_; clear hg_ hnew_; (first | rw [← Ny611.out] at ho69 | (simp only [Int.reduceToNat] at ho69; rw [← Ny611.out] at ho69)); have n0_ := Aside0.mk (Kd.V_elder' (by (with_reducible repeat (first | apply Kd.V_alloc | apply Kd.V_drewN | apply Kd.V_drew)); exact HO_602001.out) (Kd.R_base ho69) hb); have n1_ := Aside0.mk (Kd.R_lower (Kd.R_newB ho69 (g := gb604) (o := .cells #[.int .i64 ((rd_T27 l1 x32_1).f0), .string ((rd_T27 l1 x32_1).f1), .bool ((rd_T27 l1 x32_1).f2)] 27 (0, 0)) (by (with_reducible repeat (first | refine blk_drewN ?_ _ | refine blk_drew ?_ | refine blk_alloc ?_ _)); exact BK604.out)) (below_size (by repeat (first | (with_reducible first | exact HB.out | apply below_alloc | apply pw_below_drewN | apply below_drew1 | refine below_set ?_ GE601.out | refine below_set ?_ GE604.out) | exact HB.out)))); have n2_ := Aside0.mk (blk_below (g := gb601) (o := .cells #[.int .i64 x602000_1, u602001] 24 (0, 0)) (by (with_reducible repeat (first | refine blk_drewN ?_ _ | refine blk_drew ?_ | refine blk_alloc ?_ _)); exact BK601.out) hb); have n3_ := Aside0.mk (blk_below (g := gb604) (o := .cells #[.int .i64 ((rd_T27 l1 x32_1).f0), .string ((rd_T27 l1 x32_1).f1), .bool ((rd_T27 l1 x32_1).f2)] 27 (0, 0)) (by (with_reducible repeat (first | refine blk_drewN ?_ _ | refine blk_drew ?_ | refine blk_alloc ?_ _)); exact BK604.out) hb); have n4_ := Aside0.mk (below_step (by repeat (first | (with_reducible first | exact HB.out | apply below_alloc | apply pw_below_drewN | apply below_drew1 | refine below_set ?_ GE601.out | refine below_set ?_ GE604.out) | exact HB.out)) hb); clear HO_602001; clear BK601; clear BK604; clear HB; have HO_602001 := n0_; have HO613 := n1_; have BK601 := n2_; have BK604 := n3_; have HB := n4_; clear n0_ n1_ n2_ n3_ n4_; clear hb ho69; obtain ⟨Ao70, co70, eo70⟩ := Kd.V_slice HO_602001.out; subst eo70; obtain ⟨Ao71, co71, eo71⟩ := Kd.R_slice HO613.out; subst eo71) | ((with_reducible refine gate_callee (f := 13) rfl ?_); refine goesL_ (some 62) rfl rfl Try.func13 (by kernel_rfl) rfl #[.agg #[.int .i64 x602000_1, .slice Ao70 x602001_1.length co70], .slice Ao71 y611.length co71] rfl (by (try simp only [List.map_toArray, List.map_cons, List.map_nil]); first | done | rfl | (simp only [List.length_drop, List.length_take]; rfl)) ?_; (with_reducible refine (cache_Put.calls kj34 x602000_1 (fun k_ => ((k_ ≠ gb601 ∧ k_ ≠ gb604) ∧ some k_ ≠ (.slice Ao71 y611.length co71 : Value).ownBlock)) _ _ x602001_1 _ _ y611 t614 t615 t618 t621 _ ?side1 ?side2 ?side3 A37.out).mono ?_); (case side1 => exact HO_602001.out); (case side2 => repeat (first | exact (Kd.R_reads' HO613.out).2.2 | (with_reducible refine Kd.C_alloc ?_ _) | (with_reducible refine Kd.C_drewN ?_ _) | (with_reducible refine Kd.C_drew ?_))); (case side3 => exact (Kd.R_reads' HO613.out).2.1); rintro e w72 ⟨v616, v619, rfl, ho0, ho1, hb⟩; refine ⟨_, rfl, ?_⟩; have n0_ := Aside0.mk (Kd.V_elder' (by (with_reducible repeat (first | apply Kd.V_alloc | apply Kd.V_drewN | apply Kd.V_drew)); exact HO_602001.out) (Kd.R_base ho1) hb); have n1_ := Aside0.mk (Kd.R_elder' (by (with_reducible repeat (first | apply Kd.R_alloc | apply Kd.R_drewN | apply Kd.R_drew)); exact HO613.out) (Kd.R_base ho1) hb); have n2_ := Aside0.mk (Kd.V_lower (Kd.V_mono (ok' := fun k_ => some k_ ≠ (v619 : Value).ownBlock ∧ some k_ ≠ (.slice Ao71 y611.length co71 : Value).ownBlock ∧ k_ ≠ gb601 ∧ k_ ≠ gb604) ho0 (fun k_ hk_ => ⟨hk_.2, Or.elim hk_.1 (fun hs_ => hs_.2) (fun hn_ => (Kd.fresh' (Kd.R_lt (by (with_reducible repeat (first | apply Kd.R_alloc | apply Kd.R_drewN | apply Kd.R_drew)); exact HO613.out)) k_ hn_)), Or.elim hk_.1 (fun hs_ => hs_.1.1) (fun hn_ => (Kd.freshB (g := gb601) (o := .cells #[.int .i64 x602000_1, .slice Ao70 x602001_1.length co70] 24 (0, 0)) (by (with_reducible repeat (first | refine blk_drewN ?_ _ | refine blk_drew ?_ | refine blk_alloc ?_ _)); exact BK601.out) k_ hn_)), Or.elim hk_.1 (fun hs_ => hs_.1.2) (fun hn_ => (Kd.freshB (g := gb604) (o := .cells #[.int .i64 ((rd_T27 l1 x32_1).f0), .string ((rd_T27 l1 x32_1).f1), .bool ((rd_T27 l1 x32_1).f2)] 27 (0, 0)) (by (with_reducible repeat (first | refine blk_drewN ?_ _ | refine blk_drew ?_ | refine blk_alloc ?_ _)); exact BK604.out) k_ hn_))⟩)) (below_size (by repeat (first | (with_reducible first | exact HB.out | apply below_alloc | apply pw_below_drewN | apply below_drew1 | refine below_set ?_ GE601.out | refine below_set ?_ GE604.out) | exact HB.out)))); have n3_ := Aside0.mk (Kd.R_lower (Kd.R_newB (Kd.R_new' (Kd.R_mono (ok' := fun k_ => True) ho1 (fun _ hk_ => trivial)) (Kd.R_lt (by (with_reducible repeat (first | apply Kd.R_alloc | apply Kd.R_drewN | apply Kd.R_drew)); exact HO613.out))) (g := gb604) (o := .cells #[.int .i64 ((rd_T27 l1 x32_1).f0), .string ((rd_T27 l1 x32_1).f1), .bool ((rd_T27 l1 x32_1).f2)] 27 (0, 0)) (by (with_reducible repeat (first | refine blk_drewN ?_ _ | refine blk_drew ?_ | refine blk_alloc ?_ _)); exact BK604.out)) (below_size (by repeat (first | (with_reducible first | exact HB.out | apply below_alloc | apply pw_below_drewN | apply below_drew1 | refine below_set ?_ GE601.out | refine below_set ?_ GE604.out) | exact HB.out)))); have n4_ := Aside0.mk (blk_below (g := gb601) (o := .cells #[.int .i64 x602000_1, .slice Ao70 x602001_1.length co70] 24 (0, 0)) (by (with_reducible repeat (first | refine blk_drewN ?_ _ | refine blk_drew ?_ | refine blk_alloc ?_ _)); exact BK601.out) hb); have n5_ := Aside0.mk (blk_below (g := gb604) (o := .cells #[.int .i64 ((rd_T27 l1 x32_1).f0), .string ((rd_T27 l1 x32_1).f1), .bool ((rd_T27 l1 x32_1).f2)] 27 (0, 0)) (by (with_reducible repeat (first | refine blk_drewN ?_ _ | refine blk_drew ?_ | refine blk_alloc ?_ _)); exact BK604.out) hb); have n6_ := Aside0.mk (below_step (by repeat (first | (with_reducible first | exact HB.out | apply below_alloc | apply pw_below_drewN | apply below_drew1 | refine below_set ?_ GE601.out | refine below_set ?_ GE604.out) | exact HB.out)) hb); clear HO_602001; clear HO613; clear BK601; clear BK604; clear HB; have HO_602001 := n0_; have HO613 := n1_; have HO617 := n2_; have HO620 := n3_; have BK601 := n4_; have BK604 := n5_; have HB := n6_; clear n0_ n1_ n2_ n3_ n4_ n5_ n6_; (try clear hb); (try clear hb2); (try clear hk); (try clear hi); (try clear ho0); (try clear ho1)) | ((with_reducible refine gate_dst (N := 14) rfl ?_); (try (refine gate_guard (by rfl) ?_; dsimp only)); refine box_event ?hg (N := 14) ?hd (cs := #[.int .i64 0, .slice none 0 0]) (t := 24) ?hr ?_; (case hd => rfl); (case hg => rfl); (case hr => first | (go_simp; done) | (go_simp; rfl)); intro gb622 hg w73 hbox hb; have n0_ := Aside0.mk (Kd.V_below (Kd.V_elderB (by (with_reducible repeat (first | apply Kd.V_alloc | apply Kd.V_drewN | apply Kd.V_drew)); exact HO_602001.out) gb622 (Nat.le_of_eq hg.symm)) hb); have n1_ := Aside0.mk (Kd.R_below (by (with_reducible repeat (first | apply Kd.R_alloc | apply Kd.R_drewN | apply Kd.R_drew)); exact HO613.out) hb); have n2_ := Aside0.mk (Kd.V_below (Kd.V_elderB (by (with_reducible repeat (first | apply Kd.V_alloc | apply Kd.V_drewN | apply Kd.V_drew)); exact HO617.out) gb622 (Nat.le_of_eq hg.symm)) hb); have n3_ := Aside0.mk (Kd.R_below (by (with_reducible repeat (first | apply Kd.R_alloc | apply Kd.R_drewN | apply Kd.R_drew)); exact HO620.out) hb); have n4_ := Aside0.mk (blk_below (g := gb601) (o := .cells #[.int .i64 x602000_1, .slice Ao70 x602001_1.length co70] 24 (0, 0)) (by (with_reducible repeat (first | refine blk_drewN ?_ _ | refine blk_drew ?_ | refine blk_alloc ?_ _)); exact BK601.out) hb); have n5_ := Aside0.mk (blk_below (g := gb604) (o := .cells #[.int .i64 ((rd_T27 l1 x32_1).f0), .string ((rd_T27 l1 x32_1).f1), .bool ((rd_T27 l1 x32_1).f2)] 27 (0, 0)) (by (with_reducible repeat (first | refine blk_drewN ?_ _ | refine blk_drew ?_ | refine blk_alloc ?_ _)); exact BK604.out) hb); have n6_ := Aside0.mk (below_step (by repeat (first | (with_reducible first | exact HB.out | apply below_alloc | apply pw_below_drewN | apply below_drew1 | refine below_set ?_ GE601.out | refine below_set ?_ GE604.out) | exact HB.out)) hb); have n7_ := Aside0.mk (hbox); have n8_ := Aside0.mk ((by rw [hg]; exact (below_size (by repeat (first | (with_reducible first | exact HB.out | apply below_alloc | apply pw_below_drewN | apply below_drew1 | refine below_set ?_ GE601.out | refine below_set ?_ GE604.out) | exact HB.out))) : w.heap.size ≤ gb622)); have n9_ := Aside0.mk ((by rw [hg]; exact (below_size (by repeat (first | (with_reducible first | exact HB.out | apply below_alloc | apply pw_below_drewN | apply below_drew1 | refine below_set ?_ GE601.out | refine below_set ?_ GE604.out) | exact HB.out))) : w.heap.size ≤ gb622)); have n10_ := Aside0.mk ((by rw [hg]; exact Nat.ne_of_lt (blk_lt (g := gb601) (o := .cells #[.int .i64 x602000_1, .slice Ao70 x602001_1.length co70] 24 (0, 0)) (by (with_reducible repeat (first | refine blk_drewN ?_ _ | refine blk_drew ?_ | refine blk_alloc ?_ _)); exact BK601.out)) : gb601 ≠ gb622)); have n11_ := Aside0.mk ((by rw [hg]; exact Nat.ne_of_gt (blk_lt (g := gb601) (o := .cells #[.int .i64 x602000_1, .slice Ao70 x602001_1.length co70] 24 (0, 0)) (by (with_reducible repeat (first | refine blk_drewN ?_ _ | refine blk_drew ?_ | refine blk_alloc ?_ _)); exact BK601.out)) : gb622 ≠ gb601)); have n12_ := Aside0.mk ((by rw [hg]; exact Nat.ne_of_lt (blk_lt (g := gb604) (o := .cells #[.int .i64 ((rd_T27 l1 x32_1).f0), .string ((rd_T27 l1 x32_1).f1), .bool ((rd_T27 l1 x32_1).f2)] 27 (0, 0)) (by (with_reducible repeat (first | refine blk_drewN ?_ _ | refine blk_drew ?_ | refine blk_alloc ?_ _)); exact BK604.out)) : gb604 ≠ gb622)); have n13_ := Aside0.mk ((by rw [hg]; exact Nat.ne_of_gt (blk_lt (g := gb604) (o := .cells #[.int .i64 ((rd_T27 l1 x32_1).f0), .string ((rd_T27 l1 x32_1).f1), .bool ((rd_T27 l1 x32_1).f2)] 27 (0, 0)) (by (with_reducible repeat (first | refine blk_drewN ?_ _ | refine blk_drew ?_ | refine blk_alloc ?_ _)); exact BK604.out)) : gb622 ≠ gb604)); clear HO_602001; clear HO613; clear HO617; clear HO620; clear BK601; clear BK604; clear HB; have HO_602001 := n0_; have HO613 := n1_; have HO617 := n2_; have HO620 := n3_; have BK601 := n4_; have BK604 := n5_; have HB := n6_; have BK622 := n7_; have GW622 := n8_; have GE622 := n9_; have NB601_622 := n10_; have NB622_601 := n11_; have NB604_622 := n12_; have NB622_604 := n13_; clear n0_ n1_ n2_ n3_ n4_ n5_ n6_ n7_ n8_ n9_ n10_ n11_ n12_ n13_; clear hb hbox hg; have hnb74 := NB622_601.out; have hnc74 := NB601_622.out; have hnb75 := NB622_604.out; have hnc75 := NB604_622.out; have hcz76_0 : w73.cell? ⟨gb622, 0, none⟩ = some (.int .i64 0) := (blk_cell BK622.out 0).trans rfl; have hcz76_1 : w73.cell? ⟨gb622, 1, none⟩ = some (.slice none 0 0) := (blk_cell BK622.out 1).trans rfl; have hfz76_0 := blk_frozen BK622.out 0; have hfz76_1 := blk_frozen BK622.out 1; obtain ⟨Ao77, co77, eo77⟩ := Kd.V_slice HO617.out; subst eo77) | (go_at_call 19; (with_reducible refine (cache_Right.calls kj34 t614 _ _ t615 true _ ?side1 ?side2 A39.out).mono ?_); (case side1 => refine (Kd.V_reads' (e := 27) (base := w.heap.size) (ok := fun k_ => ((some k_ ≠ (v619 : Value).ownBlock ∧ (some k_ ≠ (.slice Ao71 y611.length co71 : Value).ownBlock ∧ (k_ ≠ gb601 ∧ k_ ≠ gb604))) ∧ k_ ≠ gb622)) (n := t615.length) (c := co77) ?_).2.2; exact (by (with_reducible repeat (first | apply Kd.V_alloc | apply Kd.V_drewN | apply Kd.V_drew)); exact (Kd.V_mono (Kd.V_far (p := ⟨gb622, 1, none⟩) (Kd.V_far (p := ⟨gb622, 0, none⟩) (Kd.V_mono HO617.out (fun k_ hk => (⟨hk, hk.2⟩ : _ ∧ k_ ≠ gb622))) (fun _ hk => hk.2) (.int .i64 t614)) (fun _ hk => hk.2) (.slice Ao77 t615.length co77)) (fun _ h_ => h_.1)))); (case side2 => exact (Kd.V_reads' HO617.out).2.1); rintro e w78 ⟨rfl, hb⟩; have n0_ := Aside0.mk (Kd.V_below (by (with_reducible repeat (first | apply Kd.V_alloc | apply Kd.V_drewN | apply Kd.V_drew)); exact (Kd.V_mono (Kd.V_far (p := ⟨gb622, 1, none⟩) (Kd.V_far (p := ⟨gb622, 0, none⟩) (Kd.V_mono HO_602001.out (fun k_ hk => (⟨hk, hk.2⟩ : _ ∧ k_ ≠ gb622))) (fun _ hk => hk.2) (.int .i64 t614)) (fun _ hk => hk.2) (.slice Ao77 t615.length co77)) (fun _ h_ => h_.1))) hb); have n1_ := Aside0.mk (Kd.R_below (by (with_reducible repeat (first | apply Kd.R_alloc | apply Kd.R_drewN | apply Kd.R_drew)); exact (Kd.R_mono (Kd.R_far (p := ⟨gb622, 1, none⟩) (Kd.R_far (p := ⟨gb622, 0, none⟩) (Kd.R_types HO613.out BK622.out (by decide)) (fun _ hk => hk.2) (.int .i64 t614)) (fun _ hk => hk.2) (.slice Ao77 t615.length co77)) (fun _ h_ => h_.1))) hb); have n2_ := Aside0.mk (Kd.V_below (by (with_reducible repeat (first | apply Kd.V_alloc | apply Kd.V_drewN | apply Kd.V_drew)); exact (Kd.V_mono (Kd.V_far (p := ⟨gb622, 1, none⟩) (Kd.V_far (p := ⟨gb622, 0, none⟩) (Kd.V_mono HO617.out (fun k_ hk => (⟨hk, hk.2⟩ : _ ∧ k_ ≠ gb622))) (fun _ hk => hk.2) (.int .i64 t614)) (fun _ hk => hk.2) (.slice Ao77 t615.length co77)) (fun _ h_ => h_.1))) hb); have n3_ := Aside0.mk (Kd.R_below (by (with_reducible repeat (first | apply Kd.R_alloc | apply Kd.R_drewN | apply Kd.R_drew)); exact (Kd.R_mono (Kd.R_far (p := ⟨gb622, 1, none⟩) (Kd.R_far (p := ⟨gb622, 0, none⟩) (Kd.R_types HO620.out BK622.out (by decide)) (fun _ hk => hk.2) (.int .i64 t614)) (fun _ hk => hk.2) (.slice Ao77 t615.length co77)) (fun _ h_ => h_.1))) hb); have n4_ := Aside0.mk (blk_below (g := gb601) (o := .cells #[.int .i64 x602000_1, .slice Ao70 x602001_1.length co70] 24 (0, 0)) (by (with_reducible repeat (first | refine blk_drewN ?_ _ | refine blk_drew ?_ | refine blk_alloc ?_ _)); refine blk_far ?_ NB601_622.out _; (with_reducible repeat (first | refine blk_drewN ?_ _ | refine blk_drew ?_ | refine blk_alloc ?_ _)); refine blk_far ?_ NB601_622.out _; (with_reducible repeat (first | refine blk_drewN ?_ _ | refine blk_drew ?_ | refine blk_alloc ?_ _)); exact BK601.out) hb); have n5_ := Aside0.mk (blk_below (g := gb604) (o := .cells #[.int .i64 ((rd_T27 l1 x32_1).f0), .string ((rd_T27 l1 x32_1).f1), .bool ((rd_T27 l1 x32_1).f2)] 27 (0, 0)) (by (with_reducible repeat (first | refine blk_drewN ?_ _ | refine blk_drew ?_ | refine blk_alloc ?_ _)); refine blk_far ?_ NB604_622.out _; (with_reducible repeat (first | refine blk_drewN ?_ _ | refine blk_drew ?_ | refine blk_alloc ?_ _)); refine blk_far ?_ NB604_622.out _; (with_reducible repeat (first | refine blk_drewN ?_ _ | refine blk_drew ?_ | refine blk_alloc ?_ _)); exact BK604.out) hb); have n6_ := Aside0.mk (blk_below (g := gb622) (o := .cells #[.int .i64 t614, .slice Ao77 t615.length co77] 24 (0, 0)) (by (with_reducible repeat (first | refine blk_drewN ?_ _ | refine blk_drew ?_ | refine blk_alloc ?_ _)); refine blk_put (cs := #[.int .i64 t614, .slice none 0 0]) ?_ 1 _ rfl; (with_reducible repeat (first | refine blk_drewN ?_ _ | refine blk_drew ?_ | refine blk_alloc ?_ _)); refine blk_put (cs := #[.int .i64 0, .slice none 0 0]) ?_ 0 _ rfl; (with_reducible repeat (first | refine blk_drewN ?_ _ | refine blk_drew ?_ | refine blk_alloc ?_ _)); exact BK622.out) hb); have n7_ := Aside0.mk (below_step (by repeat (first | (with_reducible first | exact HB.out | apply below_alloc | apply pw_below_drewN | apply below_drew1 | refine below_set ?_ GE601.out | refine below_set ?_ GE604.out | refine below_set ?_ GE622.out) | exact HB.out)) hb); clear HO_602001; clear HO613; clear HO617; clear HO620; clear BK601; clear BK604; clear BK622; clear HB; have HO_602001 := n0_; have HO613 := n1_; have HO617 := n2_; have HO620 := n3_; have BK601 := n4_; have BK604 := n5_; have BK622 := n6_; have HB := n7_; clear n0_ n1_ n2_ n3_ n4_ n5_ n6_ n7_; (try clear hb); (try clear hb2); (try clear hk); (try clear hi); have hcz79_0 : w78.cell? ⟨gb622, 0, none⟩ = some (.int .i64 t614) := (blk_cell BK622.out 0).trans rfl; have hcz79_1 : w78.cell? ⟨gb622, 1, none⟩ = some (.slice Ao77 t615.length co77) := (blk_cell BK622.out 1).trans rfl; have hfz79_0 := blk_frozen BK622.out 0; have hfz79_1 := blk_frozen BK622.out 1; obtain ⟨Ao80, co80, eo80⟩ := Kd.R_slice HO620.out; subst eo80; have hcz81_0 : w78.cell? ⟨gb601, 0, none⟩ = some (.int .i64 x602000_1) := (blk_cell BK601.out 0).trans rfl; have hcz81_1 : w78.cell? ⟨gb601, 1, none⟩ = some (.slice Ao70 x602001_1.length co70) := (blk_cell BK601.out 1).trans rfl; have hfz81_0 := blk_frozen BK601.out 0; have hfz81_1 := blk_frozen BK601.out 1))
                                      go_roundg kj34
                                      case measure => have := HK1.out; have := HK2.out; have := HJ34.out; omega
                                      case rel => exact ⟨(x8_34), (wrap64 (x32_1 + 1)), (t614), (t615), (.slice Ao77 t615.length co77), (by first | rfl | (simp; done) | (simp [*]; done)), (by first | rfl | (simp; done) | (simp [*]; done)), H', ⟨by have := HK1.out; have := HK2.out; have := HJ34.out; omega⟩, ⟨by (with_reducible repeat (first | apply Kd.V_alloc | apply Kd.V_drewN | apply Kd.V_drew)); exact Kd.V_mono (Kd.V_far (p := ⟨gb601, 1, none⟩) (Kd.V_far (p := ⟨gb601, 0, none⟩) (Kd.V_mono HO617.out (fun k_ hk => (⟨hk, hk.1.2.2.1⟩ : _ ∧ k_ ≠ gb601))) (fun _ hk => hk.2) (.int .i64 t614)) (fun _ hk => hk.2) (.slice Ao77 t615.length co77)) (fun _ hk => hk.1.1.2.2.1)⟩, ⟨by (with_reducible repeat (first | refine blk_drewN ?_ _ | refine blk_drew ?_ | refine blk_alloc ?_ _)); refine blk_put (cs := #[.int .i64 t614, .slice Ao70 x602001_1.length co70]) ?_ 1 _ rfl; (with_reducible repeat (first | refine blk_drewN ?_ _ | refine blk_drew ?_ | refine blk_alloc ?_ _)); refine blk_put (cs := #[.int .i64 x602000_1, .slice Ao70 x602001_1.length co70]) ?_ 0 _ rfl; (with_reducible repeat (first | refine blk_drewN ?_ _ | refine blk_drew ?_ | refine blk_alloc ?_ _)); exact BK601.out⟩, ⟨by repeat (first | (with_reducible first | exact HB.out | apply below_alloc | apply pw_below_drewN | apply below_drew1 | refine below_set ?_ GE601.out | refine below_set ?_ GE604.out | refine below_set ?_ GE622.out) | exact HB.out)⟩⟩
                                · replace c62 := Bool.eq_false_iff.mpr c62
                                  subst c62
                                  have H1 : (none) = some r := by rw [if_neg (show ¬ (false = true) by decide)] at H; exact H
                                  clear H
                                  have H := H1
                                  clear H1
                                  exact absurd H (by simp)
                            · replace c40 := Bool.eq_false_iff.mpr c40
                              subst c40
                              have H1 : (none) = some r := by rw [if_neg (show ¬ (false = true) by decide)] at H; exact H
                              clear H
                              have H := H1
                              clear H1
                              exact absurd H (by simp)
                          · rw [if_neg c38] at H
                            exact absurd H (by simp)
              · rw [if_neg c15] at H
                exact absurd H (by simp)
            · rw [if_neg c13] at H
              exact absurd H (by simp)
          · rw [if_neg c12] at H
            exact absurd H (by simp)
        · rw [if_neg c11] at H
          have c11b0 : decide (x32_1 < (l1.length : Int)) = false := decide_eq_false c11
          clear c11
          by_cases c82 : t600 = 0
          · rw [if_pos c82] at H
            have c82b0 : (t600 == 0) = true := beq_iff_eq.mpr c82
            have c82b1 : (t600 != 0) = false := bne_eq_false_iff_eq.mpr c82
            clear c82
            obtain ⟨ji83, hji83⟩ : ∃ j_ : Int, (mn (wrap64 (1 + (wrap64 (Int.tmod a0 20)))) x8_1) = j_ := ⟨_, rfl⟩
            replace H : (if (x602001_1.length : Int) = (ji83) then ((weirkeeperlaw14_awake.f k1).bind fun t602 => (some t602)) else (none)) = some r := by first | (rw [hji83] at H; exact H) | (simp only [hji83] at H ⊢; exact H)
            have hji83_ : (if x8_1 < (wrap64 (1 + (wrap64 (Int.tmod a0 20)))) then x8_1 else (wrap64 (1 + (wrap64 (Int.tmod a0 20))))) = ji83 := hji83
            by_cases c84 : (x602001_1.length : Int) = (ji83)
            · rw [if_pos c84] at H
              have c84b0 : ((x602001_1.length : Int) == (ji83)) = true := beq_iff_eq.mpr c84
              have c84b1 : ((x602001_1.length : Int) != (ji83)) = false := bne_eq_false_iff_eq.mpr c84
              clear c84
              replace H := Option.bind_eq_some_iff.mp H
              obtain ⟨t602, A850, H⟩ := H
              replace H : (some t602) = some r := H
              have A85 := Aside0.mk A850
              clear A850
              obtain rfl := Option.some.inj H
              have hcz86_0 : wr.cell? ⟨gb601, 0, none⟩ = some (.int .i64 x602000_1) := (blk_cell BK601.out 0).trans rfl
              have hcz86_1 : wr.cell? ⟨gb601, 1, none⟩ = some (u602001) := (blk_cell BK601.out 1).trans rfl
              have hfz86_0 := blk_frozen BK601.out 0
              have hfz86_1 := blk_frozen BK601.out 1
              obtain ⟨Ao87, co87, eo87⟩ := Kd.V_slice HO_602001.out
              subst eo87
              go_wp2_with (first | (go_at_call 9; (with_reducible refine (weirkeeperlaw14_awake.calls k1  t602 _ A85.out).mono ?_); rintro e w88 ⟨rfl, hb⟩; have n0_ := Aside0.mk (Kd.V_below (by (with_reducible repeat (first | apply Kd.V_alloc | apply Kd.V_drewN | apply Kd.V_drew)); exact HO_602001.out) hb); have n1_ := Aside0.mk (blk_below (g := gb601) (o := .cells #[.int .i64 x602000_1, .slice Ao87 x602001_1.length co87] 24 (0, 0)) (by (with_reducible repeat (first | refine blk_drewN ?_ _ | refine blk_drew ?_ | refine blk_alloc ?_ _)); exact BK601.out) hb); have n2_ := Aside0.mk (below_step (by repeat (first | (with_reducible first | exact HB.out | apply below_alloc | apply pw_below_drewN | apply below_drew1 | refine below_set ?_ GE601.out) | exact HB.out)) hb); clear HO_602001; clear BK601; clear HB; have HO_602001 := n0_; have BK601 := n1_; have HB := n2_; clear n0_ n1_ n2_; (try clear hb); (try clear hb2); (try clear hk); (try clear hi)))
              go_ret
              exact ⟨by first | rfl | (simp [errW_none, errW_some] <;> rfl) | (simp only [← hji83]; first | rfl | (simp [errW_none, errW_some] <;> rfl)) | (simp [*, errW_none, errW_some] <;> rfl), by repeat (first | (with_reducible first | exact HB.out | apply below_alloc | apply pw_below_drewN | apply below_drew1 | refine below_set ?_ GE601.out) | exact HB.out)⟩
            · rw [if_neg c84] at H
              exact absurd H (by simp)
          · rw [if_neg c82] at H
            exact absurd H (by simp)

end Go.Proofs.Ytgjngaeoojcioaa.X
