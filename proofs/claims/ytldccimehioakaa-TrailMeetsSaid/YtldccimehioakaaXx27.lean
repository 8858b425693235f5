-- Written by a program of this session (wip/tools/xprint.py) out of the translation. Not trusted: Lean checks it.
import Derived.Test.YtldccimehioakaaXx0
import Derived.Test.YtldccimehioakaaXx2
import Derived.Test.YtldccimehioakaaXx6
import Derived.Test.YtldccimehioakaaXx11
import Derived.Test.YtldccimehioakaaXx15
import Derived.Test.YtldccimehioakaaXx18
namespace Go.Proofs.Ytldccimehioakaa.X
open Go.RowKit Go.Proofs.YtldccimehioakaaW.PrintWords Go.Proofs.YtldccimehioakaaW.PrintLast Go.Proofs.YtldccimehioakaaW.PrintMore
attribute [local go_sem] max2_int min2_int max_two min_two max_three min_three max_four min_four max2_str min2_str   -- for this text's walks alone
set_option linter.unusedVariables false
set_option linter.unusedSimpArgs false

/-! ### weirkeeperlaw16_TrailMeets: function 7 -/
def weirkeeperlaw16_TrailMeets.j0 : Nat → List (S30) → Int → Int → Bool → ByteArray → ByteArray → Bool → ByteArray → ByteArray → Bool → Option (Bool)
  | 0, _, _, _, _, _, _, _, _, _, _ => none
  | k + 1, x0, x1, x2, x21, x303000, x303001, x303002, x304000, x304001, x304002 => if x21 = true then ((weirkeeperlaw16_awake.f k).bind fun t306 => (some t306)) else ((trail_Since.f k x0 x1 x2 (([(⟨x303000, x303001, x303002⟩ : S35), (⟨x304000, x304001, x304002⟩ : S35)] : List (S35)))).bind fun t310 => ((trail_Since.f k x0 x1 x2 (([(⟨x304000, x304001, x304002⟩ : S35), (⟨x303000, x303001, x303002⟩ : S35)] : List (S35)))).bind fun t316 => ((trail_Since.f k x0 x1 (x0.length : Int) (([(⟨x303000, x303001, x303002⟩ : S35)] : List (S35)))).bind fun t322 => ((trail_Since.f k t322 x1 x2 (([(⟨x304000, x304001, x304002⟩ : S35)] : List (S35)))).bind fun t328 => ((weirkeeperref13_Same.f k t310 t316).bind fun t331 => (if t331 = true then ((weirkeeperref13_Same.f k t310 t328).bind fun t332 => (if t332 = true then ((trail_Right.f k t310).bind fun t333 => (if t333 = true then ((weirkeeperlaw16_awake.f k).bind fun t334 => (some t334)) else (none))) else (none))) else (none)))))))
def weirkeeperlaw16_TrailMeets.f (k : Nat) (l0 : List (S30)) (a1 : Int) (a2 : Int) (a3_0 : ByteArray) (a3_1 : ByteArray) (a3_2 : Bool) (a4_0 : ByteArray) (a4_1 : ByteArray) (a4_2 : Bool) : Option (Bool) := (weirkeeperlaw16_few.f k l0).bind fun t304 => (if t304 = true then ((trail_Right.f k l0).bind fun t305 => (weirkeeperlaw16_TrailMeets.j0 k l0 a1 a2 (!t305) a3_0 a3_1 a3_2 a4_0 a4_1 a4_2)) else (weirkeeperlaw16_TrailMeets.j0 k l0 a1 a2 true a3_0 a3_1 a3_2 a4_0 a4_1 a4_2))
theorem weirkeeperlaw16_TrailMeets.mono_l : ∀ k, (∀ y0 y1 y2 y3 y4 y5 y6 y7 y8 y9, LeO (weirkeeperlaw16_TrailMeets.j0 k y0 y1 y2 y3 y4 y5 y6 y7 y8 y9) (weirkeeperlaw16_TrailMeets.j0 (k + 1) y0 y1 y2 y3 y4 y5 y6 y7 y8 y9))
  | 0 => fun _ _ _ _ _ _ _ _ _ _ r h => by simp [weirkeeperlaw16_TrailMeets.j0] at h
  | k + 1 => by
    have ih0 := weirkeeperlaw16_TrailMeets.mono_l k
    · intro y0 y1 y2 y3 y4 y5 y6 y7 y8 y9
      unfold weirkeeperlaw16_TrailMeets.j0
      repeat' first
      | (with_reducible exact ih0 _ _ _ _ _ _ _ _ _ _)
      | (with_reducible exact trail_Right.mono _ _)
      | (with_reducible exact trail_Since.mono _ _ _ _ _)
      | (with_reducible exact weirkeeperlaw16_awake.mono _)
      | (with_reducible exact weirkeeperlaw16_few.mono _ _)
      | (with_reducible exact weirkeeperref13_Same.mono _ _ _)
      | (with_reducible exact LeO.refl _)
      | (with_reducible exact LeO.none _)
      | (with_reducible refine LeO.ite ?_ ?_)
      | (with_reducible refine LeO.bind ?_ (fun _ => ?_))
      | exact ih0 _ _ _ _ _ _ _ _ _ _
      | exact trail_Right.mono _ _
      | exact trail_Since.mono _ _ _ _ _
      | exact weirkeeperlaw16_awake.mono _
      | exact weirkeeperlaw16_few.mono _ _
      | exact weirkeeperref13_Same.mono _ _ _
      | exact LeO.none _
      | refine LeO.ite ?_ ?_
      | refine LeO.bind ?_ (fun _ => ?_)
theorem weirkeeperlaw16_TrailMeets.mono : ∀ a0 a1 a2 a3 a4 a5 a6 a7 a8 k, LeO (weirkeeperlaw16_TrailMeets.f k a0 a1 a2 a3 a4 a5 a6 a7 a8) (weirkeeperlaw16_TrailMeets.f (k + 1) a0 a1 a2 a3 a4 a5 a6 a7 a8) := by
  intro a0 a1 a2 a3 a4 a5 a6 a7 a8 k
  have ih0 := weirkeeperlaw16_TrailMeets.mono_l k
  unfold weirkeeperlaw16_TrailMeets.f
  repeat' first
      | (with_reducible exact ih0 _ _ _ _ _ _ _ _ _ _)
      | (with_reducible exact trail_Right.mono _ _)
      | (with_reducible exact trail_Since.mono _ _ _ _ _)
      | (with_reducible exact weirkeeperlaw16_awake.mono _)
      | (with_reducible exact weirkeeperlaw16_few.mono _ _)
      | (with_reducible exact weirkeeperref13_Same.mono _ _ _)
      | (with_reducible exact LeO.refl _)
      | (with_reducible exact LeO.none _)
      | (with_reducible refine LeO.ite ?_ ?_)
      | (with_reducible refine LeO.bind ?_ (fun _ => ?_))
      | exact ih0 _ _ _ _ _ _ _ _ _ _
      | exact trail_Right.mono _ _
      | exact trail_Since.mono _ _ _ _ _
      | exact weirkeeperlaw16_awake.mono _
      | exact weirkeeperlaw16_few.mono _ _
      | exact weirkeeperref13_Same.mono _ _ _
      | exact LeO.none _
      | refine LeO.ite ?_ ?_
      | refine LeO.bind ?_ (fun _ => ?_)
def weirkeeperlaw16_TrailMeets.T5 : Bool × List (List Nat × List Nat) := (true, [([], []), ([], []), ([], []), ([2], [2]), ([], []), ([4], [4]), ([0, 1, 3, 5], [0, 1, 3, 5]), ([], []), ([], []), ([], []), ([9], [9]), ([6, 7, 8, 10, 6], [6, 7, 8, 10]), ([11, 11, 0, 1, 2, 3, 4, 5, 6, 7, 8, 9, 10, 11], [11])])
def weirkeeperlaw16_TrailMeets.B5 : List Nat := [0, 0, 0, 4, 0, 16, 63, 0, 0, 0, 512, 2047, 4095]
theorem weirkeeperlaw16_TrailMeets.tab5 : rtab .any (opsOf Try.f7 5) = weirkeeperlaw16_TrailMeets.T5 := by kernel_rfl
theorem weirkeeperlaw16_TrailMeets.bits5 : waitsOk weirkeeperlaw16_TrailMeets.T5.2 weirkeeperlaw16_TrailMeets.B5 = true := by kernel_rfl
set_option maxHeartbeats 8000000 in
set_option maxRecDepth 100000 in
theorem weirkeeperlaw16_TrailMeets.calls (k : Nat) (A0 : Option Addr) (c0 : Nat) (l0 : List (S30)) (a1 : Int) (a2 : Int) (a3_0 : ByteArray) (a3_1 : ByteArray) (a3_2 : Bool) (a4_0 : ByteArray) (a4_1 : ByteArray) (a4_2 : Bool) (r : Bool) (w : World) (hr0 : Kd.C k30 w A0 l0.length l0) (hc0 : l0.length ≤ c0) (h : weirkeeperlaw16_TrailMeets.f k l0 a1 a2 a3_0 a3_1 a3_2 a4_0 a4_1 a4_2 = some r) :
    Calls Try.prog 7 #[.slice A0 l0.length c0, .int .i64 a1, .int .i64 a2, .agg #[.string a3_0, .string a3_1, .bool a3_2], .agg #[.string a4_0, .string a4_1, .bool a4_2]] w fun e w' => e = .returned (.bool r) ∧ Below w.heap.size w w' := by
  have hu35 := Try.underlying35
  have HR0 := Aside0.mk hr0
  have HC0 := Aside0.mk hc0
  clear hr0 hc0
  have HB := Aside0.mk (Below.refl w.heap.size w)
  have H : ((weirkeeperlaw16_few.f k l0).bind fun t304 => (if t304 = true then ((trail_Right.f k l0).bind fun t305 => (weirkeeperlaw16_TrailMeets.j0 k l0 a1 a2 (!t305) a3_0 a3_1 a3_2 a4_0 a4_1 a4_2)) else (weirkeeperlaw16_TrailMeets.j0 k l0 a1 a2 true a3_0 a3_1 a3_2 a4_0 a4_1 a4_2))) = some r := h
  clear h
  have HC6 := Aside0.mk H
  clear H
  go_enter Try.func7, Try.ntmps7
  go_upto_region 1 with (first | ((with_reducible refine gate_dst (N := 8) rfl ?_); refine box_event ?hg (N := 8) ?hd (cs := #[.string a3_0, .string a3_1, .bool a3_2]) (t := 35) ?hr ?_; (case hd => rfl); (case hg => rfl); (case hr => first | (go_simp; done) | (go_simp; rfl)); intro gb302 hg w7 hbox hb; have n0_ := Aside0.mk (below_step (by repeat (first | (with_reducible first | exact HB.out | apply below_alloc | apply pw_below_drewN | apply below_drew1) | exact HB.out)) hb); have n1_ := Aside0.mk (hbox); have n2_ := Aside0.mk ((by rw [hg]; exact (below_size (by repeat (first | (with_reducible first | exact HB.out | apply below_alloc | apply pw_below_drewN | apply below_drew1) | exact HB.out))) : w.heap.size ≤ gb302)); have n3_ := Aside0.mk ((by rw [hg]; exact (below_size (by repeat (first | (with_reducible first | exact HB.out | apply below_alloc | apply pw_below_drewN | apply below_drew1) | exact HB.out))) : w.heap.size ≤ gb302)); clear HB; have HB := n0_; have BK302 := n1_; have GW302 := n2_; have GE302 := n3_; clear n0_ n1_ n2_ n3_; clear hb hbox hg) | ((with_reducible refine gate_dst (N := 9) rfl ?_); refine box_event ?hg (N := 9) ?hd (cs := #[.string a4_0, .string a4_1, .bool a4_2]) (t := 35) ?hr ?_; (case hd => rfl); (case hg => rfl); (case hr => first | (go_simp; done) | (go_simp; rfl)); intro gb303 hg w8 hbox hb; have n0_ := Aside0.mk (blk_below (g := gb302) (o := .cells #[.string a3_0, .string a3_1, .bool a3_2] 35 (0, 0)) (by (with_reducible repeat (first | refine blk_drewN ?_ _ | refine blk_drew ?_ | refine blk_alloc ?_ _)); exact BK302.out) hb); have n1_ := Aside0.mk (below_step (by repeat (first | (with_reducible first | exact HB.out | apply below_alloc | apply pw_below_drewN | apply below_drew1 | refine below_set ?_ GE302.out) | exact HB.out)) hb); have n2_ := Aside0.mk (hbox); have n3_ := Aside0.mk ((by rw [hg]; exact (below_size (by repeat (first | (with_reducible first | exact HB.out | apply below_alloc | apply pw_below_drewN | apply below_drew1 | refine below_set ?_ GE302.out) | exact HB.out))) : w.heap.size ≤ gb303)); have n4_ := Aside0.mk ((by rw [hg]; exact (below_size (by repeat (first | (with_reducible first | exact HB.out | apply below_alloc | apply pw_below_drewN | apply below_drew1 | refine below_set ?_ GE302.out) | exact HB.out))) : w.heap.size ≤ gb303)); have n5_ := Aside0.mk ((by rw [hg]; exact Nat.ne_of_lt (blk_lt (g := gb302) (o := .cells #[.string a3_0, .string a3_1, .bool a3_2] 35 (0, 0)) (by (with_reducible repeat (first | refine blk_drewN ?_ _ | refine blk_drew ?_ | refine blk_alloc ?_ _)); exact BK302.out)) : gb302 ≠ gb303)); have n6_ := Aside0.mk ((by rw [hg]; exact Nat.ne_of_gt (blk_lt (g := gb302) (o := .cells #[.string a3_0, .string a3_1, .bool a3_2] 35 (0, 0)) (by (with_reducible repeat (first | refine blk_drewN ?_ _ | refine blk_drew ?_ | refine blk_alloc ?_ _)); exact BK302.out)) : gb303 ≠ gb302)); clear BK302; clear HB; have BK302 := n0_; have HB := n1_; have BK303 := n2_; have GW303 := n3_; have GE303 := n4_; have NB302_303 := n5_; have NB303_302 := n6_; clear n0_ n1_ n2_ n3_ n4_ n5_ n6_; clear hb hbox hg))
  (try simp only [Act.put, List.setIfInBounds_toArray, List.set_cons_zero, List.set_cons_succ])
  go_cut [21] (fun v21 wc => ∃ (kq : Nat) (x21_5 : Bool), v21 = .bool x21_5 ∧ Aside0 (weirkeeperlaw16_TrailMeets.j0 kq l0 a1 a2 x21_5 a3_0 a3_1 a3_2 a4_0 a4_1 a4_2 = some r) ∧ Aside0 (kq ≤ k) ∧ Aside0 (wc.heap[gb302]? = some (.cells #[.string a3_0, .string a3_1, .bool a3_2] 35 (0, 0))) ∧ Aside0 (wc.heap[gb303]? = some (.cells #[.string a4_0, .string a4_1, .bool a4_2] 35 (0, 0))) ∧ Aside0 (Below w.heap.size w wc))
  case first =>
    have H := HC6.out
    clear HC6
    replace H := Option.bind_eq_some_iff.mp H
    obtain ⟨t304, A90, H⟩ := H
    replace H : (if t304 = true then ((trail_Right.f k l0).bind fun t305 => (weirkeeperlaw16_TrailMeets.j0 k l0 a1 a2 (!t305) a3_0 a3_1 a3_2 a4_0 a4_1 a4_2)) else (weirkeeperlaw16_TrailMeets.j0 k l0 a1 a2 true a3_0 a3_1 a3_2 a4_0 a4_1 a4_2)) = some r := H
    have A9 := Aside0.mk A90
    clear A90
    by_cases c10 : t304 = true
    · subst c10
      have H1 : ((trail_Right.f k l0).bind fun t305 => (weirkeeperlaw16_TrailMeets.j0 k l0 a1 a2 (!t305) a3_0 a3_1 a3_2 a4_0 a4_1 a4_2)) = some r := by rw [if_pos rfl] at H; exact H
      clear H
      have H := H1
      clear H1
      replace H := Option.bind_eq_some_iff.mp H
      obtain ⟨t305, A110, H⟩ := H
      replace H : (weirkeeperlaw16_TrailMeets.j0 k l0 a1 a2 (!t305) a3_0 a3_1 a3_2 a4_0 a4_1 a4_2) = some r := H
      have A11 := Aside0.mk A110
      clear A110
      have H' := Aside0.mk H
      clear H
      go_wp2_with (first | ((with_reducible refine gate_callee (f := 9) rfl ?_); refine goesL_ (some 15) rfl rfl Try.func9 (by kernel_rfl) rfl #[.slice A0 l0.length c0] rfl (by (try simp only [List.map_toArray, List.map_cons, List.map_nil]); first | done | rfl | (simp only [List.length_drop, List.length_take]; rfl)) ?_; (with_reducible refine (weirkeeperlaw16_few.calls k _ _ l0 true _ ?side1 ?side2 A9.out).mono ?_); (case side1 => repeat (first | exact (Kd.C_below HR0.out HB.out) | (with_reducible refine Kd.C_alloc ?_ _) | (with_reducible refine Kd.C_drewN ?_ _) | (with_reducible refine Kd.C_drew ?_))); (case side2 => exact HC0.out); rintro e w12 ⟨rfl, hb⟩; refine ⟨_, rfl, ?_⟩; have n0_ := Aside0.mk (blk_below (g := gb302) (o := .cells #[.string a3_0, .string a3_1, .bool a3_2] 35 (0, 0)) (by (with_reducible repeat (first | refine blk_drewN ?_ _ | refine blk_drew ?_ | refine blk_alloc ?_ _)); exact BK302.out) hb); have n1_ := Aside0.mk (blk_below (g := gb303) (o := .cells #[.string a4_0, .string a4_1, .bool a4_2] 35 (0, 0)) (by (with_reducible repeat (first | refine blk_drewN ?_ _ | refine blk_drew ?_ | refine blk_alloc ?_ _)); exact BK303.out) hb); have n2_ := Aside0.mk (below_step (by repeat (first | (with_reducible first | exact HB.out | apply below_alloc | apply pw_below_drewN | apply below_drew1 | refine below_set ?_ GE302.out | refine below_set ?_ GE303.out) | exact HB.out)) hb); clear BK302; clear BK303; clear HB; have BK302 := n0_; have BK303 := n1_; have HB := n2_; clear n0_ n1_ n2_; (try clear hb); (try clear hb2); (try clear hk); (try clear hi)) | (go_at_call 15; (with_reducible refine (trail_Right.calls k _ _ l0 t305 _ ?side1 ?side2 A11.out).mono ?_); (case side1 => repeat (first | exact (Kd.C_below HR0.out HB.out) | (with_reducible refine Kd.C_alloc ?_ _) | (with_reducible refine Kd.C_drewN ?_ _) | (with_reducible refine Kd.C_drew ?_))); (case side2 => exact HC0.out); rintro e w13 ⟨rfl, hb⟩; have n0_ := Aside0.mk (blk_below (g := gb302) (o := .cells #[.string a3_0, .string a3_1, .bool a3_2] 35 (0, 0)) (by (with_reducible repeat (first | refine blk_drewN ?_ _ | refine blk_drew ?_ | refine blk_alloc ?_ _)); exact BK302.out) hb); have n1_ := Aside0.mk (blk_below (g := gb303) (o := .cells #[.string a4_0, .string a4_1, .bool a4_2] 35 (0, 0)) (by (with_reducible repeat (first | refine blk_drewN ?_ _ | refine blk_drew ?_ | refine blk_alloc ?_ _)); exact BK303.out) hb); have n2_ := Aside0.mk (below_step (by repeat (first | (with_reducible first | exact HB.out | apply below_alloc | apply pw_below_drewN | apply below_drew1 | refine below_set ?_ GE302.out | refine below_set ?_ GE303.out) | exact HB.out)) hb); clear BK302; clear BK303; clear HB; have BK302 := n0_; have BK303 := n1_; have HB := n2_; clear n0_ n1_ n2_; (try clear hb); (try clear hb2); (try clear hk); (try clear hi)))
      go_meet
      case rel => exact ⟨_, (!t305), (by first | rfl | (simp; done) | (simp [*]; done)), H', ⟨by first | omega | exact Nat.le_refl _⟩, ⟨by (with_reducible repeat (first | refine blk_drewN ?_ _ | refine blk_drew ?_ | refine blk_alloc ?_ _)); exact BK302.out⟩, ⟨by (with_reducible repeat (first | refine blk_drewN ?_ _ | refine blk_drew ?_ | refine blk_alloc ?_ _)); exact BK303.out⟩, ⟨by repeat (first | (with_reducible first | exact HB.out | apply below_alloc | apply pw_below_drewN | apply below_drew1 | refine below_set ?_ GE302.out | refine below_set ?_ GE303.out) | exact HB.out)⟩⟩
    · replace c10 := Bool.eq_false_iff.mpr c10
      subst c10
      have H1 : (weirkeeperlaw16_TrailMeets.j0 k l0 a1 a2 true a3_0 a3_1 a3_2 a4_0 a4_1 a4_2) = some r := by rw [if_neg (show ¬ (false = true) by decide)] at H; exact H
      clear H
      have H := H1
      clear H1
      have H' := Aside0.mk H
      clear H
      go_wp2_with (first | ((with_reducible refine gate_callee (f := 9) rfl ?_); refine goesL_ (some 15) rfl rfl Try.func9 (by kernel_rfl) rfl #[.slice A0 l0.length c0] rfl (by (try simp only [List.map_toArray, List.map_cons, List.map_nil]); first | done | rfl | (simp only [List.length_drop, List.length_take]; rfl)) ?_; (with_reducible refine (weirkeeperlaw16_few.calls k _ _ l0 false _ ?side1 ?side2 A9.out).mono ?_); (case side1 => repeat (first | exact (Kd.C_below HR0.out HB.out) | (with_reducible refine Kd.C_alloc ?_ _) | (with_reducible refine Kd.C_drewN ?_ _) | (with_reducible refine Kd.C_drew ?_))); (case side2 => exact HC0.out); rintro e w14 ⟨rfl, hb⟩; refine ⟨_, rfl, ?_⟩; have n0_ := Aside0.mk (blk_below (g := gb302) (o := .cells #[.string a3_0, .string a3_1, .bool a3_2] 35 (0, 0)) (by (with_reducible repeat (first | refine blk_drewN ?_ _ | refine blk_drew ?_ | refine blk_alloc ?_ _)); exact BK302.out) hb); have n1_ := Aside0.mk (blk_below (g := gb303) (o := .cells #[.string a4_0, .string a4_1, .bool a4_2] 35 (0, 0)) (by (with_reducible repeat (first | refine blk_drewN ?_ _ | refine blk_drew ?_ | refine blk_alloc ?_ _)); exact BK303.out) hb); have n2_ := Aside0.mk (below_step (by repeat (first | (with_reducible first | exact HB.out | apply below_alloc | apply pw_below_drewN | apply below_drew1 | refine below_set ?_ GE302.out | refine below_set ?_ GE303.out) | exact HB.out)) hb); clear BK302; clear BK303; clear HB; have BK302 := n0_; have BK303 := n1_; have HB := n2_; clear n0_ n1_ n2_; (try clear hb); (try clear hb2); (try clear hk); (try clear hi)))
      go_meet
      case rel => exact ⟨_, (true), (by first | rfl | (simp; done) | (simp [*]; done)), H', ⟨by first | omega | exact Nat.le_refl _⟩, ⟨by (with_reducible repeat (first | refine blk_drewN ?_ _ | refine blk_drew ?_ | refine blk_alloc ?_ _)); exact BK302.out⟩, ⟨by (with_reducible repeat (first | refine blk_drewN ?_ _ | refine blk_drew ?_ | refine blk_alloc ?_ _)); exact BK303.out⟩, ⟨by repeat (first | (with_reducible first | exact HB.out | apply below_alloc | apply pw_below_drewN | apply below_drew1 | refine below_set ?_ GE302.out | refine below_set ?_ GE303.out) | exact HB.out)⟩⟩
  case rest =>
    clear HC6
    try clear c1
    try clear p2
    try clear c7
    try clear c9
    try clear c10
    obtain ⟨kq, x21_5, rfl, HA, HJ5, BK302, BK303, HB⟩ := hcut
    cases kq with
    | zero => exact absurd HA.out (by simp [weirkeeperlaw16_TrailMeets.j0])
    | succ kj5 =>
      have H := HA.out
      clear HA
      simp only [weirkeeperlaw16_TrailMeets.j0] at H
      by_cases c15 : x21_5 = true
      · subst c15
        have H1 : ((weirkeeperlaw16_awake.f kj5).bind fun t306 => (some t306)) = some r := by rw [if_pos rfl] at H; exact H
        clear H
        have H := H1
        clear H1
        replace H := Option.bind_eq_some_iff.mp H
        obtain ⟨t306, A160, H⟩ := H
        replace H : (some t306) = some r := H
        have A16 := Aside0.mk A160
        clear A160
        obtain rfl := Option.some.inj H
        go_wp2_with (first | ((with_reducible refine gate_callee (f := 10) rfl ?_); refine goesL_ (some 22) rfl rfl Try.func10 (by kernel_rfl) rfl #[] rfl (by (try simp only [List.map_toArray, List.map_cons, List.map_nil]); first | done | rfl | (simp only [List.length_drop, List.length_take]; rfl)) ?_; (with_reducible refine (weirkeeperlaw16_awake.calls kj5  t306 _ A16.out).mono ?_); rintro e w17 ⟨rfl, hb⟩; refine ⟨_, rfl, ?_⟩; have n0_ := Aside0.mk (blk_below (g := gb302) (o := .cells #[.string a3_0, .string a3_1, .bool a3_2] 35 (0, 0)) (by (with_reducible repeat (first | refine blk_drewN ?_ _ | refine blk_drew ?_ | refine blk_alloc ?_ _)); exact BK302.out) hb); have n1_ := Aside0.mk (blk_below (g := gb303) (o := .cells #[.string a4_0, .string a4_1, .bool a4_2] 35 (0, 0)) (by (with_reducible repeat (first | refine blk_drewN ?_ _ | refine blk_drew ?_ | refine blk_alloc ?_ _)); exact BK303.out) hb); have n2_ := Aside0.mk (below_step (by repeat (first | (with_reducible first | exact HB.out | apply below_alloc | apply pw_below_drewN | apply below_drew1 | refine below_set ?_ GE302.out | refine below_set ?_ GE303.out) | exact HB.out)) hb); clear BK302; clear BK303; clear HB; have BK302 := n0_; have BK303 := n1_; have HB := n2_; clear n0_ n1_ n2_; (try clear hb); (try clear hb2); (try clear hk); (try clear hi)))
        go_ret
        exact ⟨by first | rfl | (simp [errW_none, errW_some] <;> rfl) | (simp [*, errW_none, errW_some] <;> rfl), by repeat (first | (with_reducible first | exact HB.out | apply below_alloc | apply pw_below_drewN | apply below_drew1 | refine below_set ?_ GE302.out | refine below_set ?_ GE303.out) | exact HB.out)⟩
      · replace c15 := Bool.eq_false_iff.mpr c15
        subst c15
        have H1 : ((trail_Since.f kj5 l0 a1 a2 (([(⟨a3_0, a3_1, a3_2⟩ : S35), (⟨a4_0, a4_1, a4_2⟩ : S35)] : List (S35)))).bind fun t310 => ((trail_Since.f kj5 l0 a1 a2 (([(⟨a4_0, a4_1, a4_2⟩ : S35), (⟨a3_0, a3_1, a3_2⟩ : S35)] : List (S35)))).bind fun t316 => ((trail_Since.f kj5 l0 a1 (l0.length : Int) (([(⟨a3_0, a3_1, a3_2⟩ : S35)] : List (S35)))).bind fun t322 => ((trail_Since.f kj5 t322 a1 a2 (([(⟨a4_0, a4_1, a4_2⟩ : S35)] : List (S35)))).bind fun t328 => ((weirkeeperref13_Same.f kj5 t310 t316).bind fun t331 => (if t331 = true then ((weirkeeperref13_Same.f kj5 t310 t328).bind fun t332 => (if t332 = true then ((trail_Right.f kj5 t310).bind fun t333 => (if t333 = true then ((weirkeeperlaw16_awake.f kj5).bind fun t334 => (some t334)) else (none))) else (none))) else (none))))))) = some r := by rw [if_neg (show ¬ (false = true) by decide)] at H; exact H
        clear H
        have H := H1
        clear H1
        obtain ⟨y307, hy307⟩ : ∃ y_ : List (S35), y_ = (([(⟨a3_0, a3_1, a3_2⟩ : S35), (⟨a4_0, a4_1, a4_2⟩ : S35)] : List (S35))) := ⟨_, rfl⟩
        replace H : ((trail_Since.f kj5 l0 a1 a2 y307).bind fun t310 => ((trail_Since.f kj5 l0 a1 a2 (([(⟨a4_0, a4_1, a4_2⟩ : S35), (⟨a3_0, a3_1, a3_2⟩ : S35)] : List (S35)))).bind fun t316 => ((trail_Since.f kj5 l0 a1 (l0.length : Int) (([(⟨a3_0, a3_1, a3_2⟩ : S35)] : List (S35)))).bind fun t322 => ((trail_Since.f kj5 t322 a1 a2 (([(⟨a4_0, a4_1, a4_2⟩ : S35)] : List (S35)))).bind fun t328 => ((weirkeeperref13_Same.f kj5 t310 t316).bind fun t331 => (if t331 = true then ((weirkeeperref13_Same.f kj5 t310 t328).bind fun t332 => (if t332 = true then ((trail_Right.f kj5 t310).bind fun t333 => (if t333 = true then ((weirkeeperlaw16_awake.f kj5).bind fun t334 => (some t334)) else (none))) else (none))) else (none))))))) = some r := by first | (rw [hy307]; with_reducible exact H) | (have H2_ := (Option.bind_some _ _).symm.trans H; rw [hy307]; with_reducible exact H2_) | (have H2_ := (Option.bind_some _ _).symm.trans H; with_reducible exact H2_) | with_reducible exact H | (rw [hy307]; exact H) | exact H
        have Ny307 := Aside0.mk hy307
        clear hy307
        replace H := Option.bind_eq_some_iff.mp H
        obtain ⟨t310, A180, H⟩ := H
        replace H : ((trail_Since.f kj5 l0 a1 a2 (([(⟨a4_0, a4_1, a4_2⟩ : S35), (⟨a3_0, a3_1, a3_2⟩ : S35)] : List (S35)))).bind fun t316 => ((trail_Since.f kj5 l0 a1 (l0.length : Int) (([(⟨a3_0, a3_1, a3_2⟩ : S35)] : List (S35)))).bind fun t322 => ((trail_Since.f kj5 t322 a1 a2 (([(⟨a4_0, a4_1, a4_2⟩ : S35)] : List (S35)))).bind fun t328 => ((weirkeeperref13_Same.f kj5 t310 t316).bind fun t331 => (if t331 = true then ((weirkeeperref13_Same.f kj5 t310 t328).bind fun t332 => (if t332 = true then ((trail_Right.f kj5 t310).bind fun t333 => (if t333 = true then ((weirkeeperlaw16_awake.f kj5).bind fun t334 => (some t334)) else (none))) else (none))) else (none)))))) = some r := H
        have A18 := Aside0.mk A180
        clear A180
        obtain ⟨y313, hy313⟩ : ∃ y_ : List (S35), y_ = (([(⟨a4_0, a4_1, a4_2⟩ : S35), (⟨a3_0, a3_1, a3_2⟩ : S35)] : List (S35))) := ⟨_, rfl⟩
        replace H : ((trail_Since.f kj5 l0 a1 a2 y313).bind fun t316 => ((trail_Since.f kj5 l0 a1 (l0.length : Int) (([(⟨a3_0, a3_1, a3_2⟩ : S35)] : List (S35)))).bind fun t322 => ((trail_Since.f kj5 t322 a1 a2 (([(⟨a4_0, a4_1, a4_2⟩ : S35)] : List (S35)))).bind fun t328 => ((weirkeeperref13_Same.f kj5 t310 t316).bind fun t331 => (if t331 = true then ((weirkeeperref13_Same.f kj5 t310 t328).bind fun t332 => (if t332 = true then ((trail_Right.f kj5 t310).bind fun t333 => (if t333 = true then ((weirkeeperlaw16_awake.f kj5).bind fun t334 => (some t334)) else (none))) else (none))) else (none)))))) = some r := by first | (rw [hy313]; with_reducible exact H) | (have H2_ := (Option.bind_some _ _).symm.trans H; rw [hy313]; with_reducible exact H2_) | (have H2_ := (Option.bind_some _ _).symm.trans H; with_reducible exact H2_) | with_reducible exact H | (rw [hy313]; exact H) | exact H
        have Ny313 := Aside0.mk hy313
        clear hy313
        replace H := Option.bind_eq_some_iff.mp H
        obtain ⟨t316, A190, H⟩ := H
        replace H : ((trail_Since.f kj5 l0 a1 (l0.length : Int) (([(⟨a3_0, a3_1, a3_2⟩ : S35)] : List (S35)))).bind fun t322 => ((trail_Since.f kj5 t322 a1 a2 (([(⟨a4_0, a4_1, a4_2⟩ : S35)] : List (S35)))).bind fun t328 => ((weirkeeperref13_Same.f kj5 t310 t316).bind fun t331 => (if t331 = true then ((weirkeeperref13_Same.f kj5 t310 t328).bind fun t332 => (if t332 = true then ((trail_Right.f kj5 t310).bind fun t333 => (if t333 = true then ((weirkeeperlaw16_awake.f kj5).bind fun t334 => (some t334)) else (none))) else (none))) else (none))))) = some r := H
        have A19 := Aside0.mk A190
        clear A190
        obtain ⟨y319, hy319⟩ : ∃ y_ : List (S35), y_ = (([(⟨a3_0, a3_1, a3_2⟩ : S35)] : List (S35))) := ⟨_, rfl⟩
        replace H : ((trail_Since.f kj5 l0 a1 (l0.length : Int) y319).bind fun t322 => ((trail_Since.f kj5 t322 a1 a2 (([(⟨a4_0, a4_1, a4_2⟩ : S35)] : List (S35)))).bind fun t328 => ((weirkeeperref13_Same.f kj5 t310 t316).bind fun t331 => (if t331 = true then ((weirkeeperref13_Same.f kj5 t310 t328).bind fun t332 => (if t332 = true then ((trail_Right.f kj5 t310).bind fun t333 => (if t333 = true then ((weirkeeperlaw16_awake.f kj5).bind fun t334 => (some t334)) else (none))) else (none))) else (none))))) = some r := by first | (rw [hy319]; with_reducible exact H) | (have H2_ := (Option.bind_some _ _).symm.trans H; rw [hy319]; with_reducible exact H2_) | (have H2_ := (Option.bind_some _ _).symm.trans H; with_reducible exact H2_) | with_reducible exact H | (rw [hy319]; exact H) | exact H
        have Ny319 := Aside0.mk hy319
        clear hy319
        replace H := Option.bind_eq_some_iff.mp H
        obtain ⟨t322, A200, H⟩ := H
        replace H : ((trail_Since.f kj5 t322 a1 a2 (([(⟨a4_0, a4_1, a4_2⟩ : S35)] : List (S35)))).bind fun t328 => ((weirkeeperref13_Same.f kj5 t310 t316).bind fun t331 => (if t331 = true then ((weirkeeperref13_Same.f kj5 t310 t328).bind fun t332 => (if t332 = true then ((trail_Right.f kj5 t310).bind fun t333 => (if t333 = true then ((weirkeeperlaw16_awake.f kj5).bind fun t334 => (some t334)) else (none))) else (none))) else (none)))) = some r := H
        have A20 := Aside0.mk A200
        clear A200
        obtain ⟨y325, hy325⟩ : ∃ y_ : List (S35), y_ = (([(⟨a4_0, a4_1, a4_2⟩ : S35)] : List (S35))) := ⟨_, rfl⟩
        replace H : ((trail_Since.f kj5 t322 a1 a2 y325).bind fun t328 => ((weirkeeperref13_Same.f kj5 t310 t316).bind fun t331 => (if t331 = true then ((weirkeeperref13_Same.f kj5 t310 t328).bind fun t332 => (if t332 = true then ((trail_Right.f kj5 t310).bind fun t333 => (if t333 = true then ((weirkeeperlaw16_awake.f kj5).bind fun t334 => (some t334)) else (none))) else (none))) else (none)))) = some r := by first | (rw [hy325]; with_reducible exact H) | (have H2_ := (Option.bind_some _ _).symm.trans H; rw [hy325]; with_reducible exact H2_) | (have H2_ := (Option.bind_some _ _).symm.trans H; with_reducible exact H2_) | with_reducible exact H | (rw [hy325]; exact H) | exact H
        have Ny325 := Aside0.mk hy325
        clear hy325
        replace H := Option.bind_eq_some_iff.mp H
        obtain ⟨t328, A210, H⟩ := H
        replace H : ((weirkeeperref13_Same.f kj5 t310 t316).bind fun t331 => (if t331 = true then ((weirkeeperref13_Same.f kj5 t310 t328).bind fun t332 => (if t332 = true then ((trail_Right.f kj5 t310).bind fun t333 => (if t333 = true then ((weirkeeperlaw16_awake.f kj5).bind fun t334 => (some t334)) else (none))) else (none))) else (none))) = some r := H
        have A21 := Aside0.mk A210
        clear A210
        replace H := Option.bind_eq_some_iff.mp H
        obtain ⟨t331, A220, H⟩ := H
        replace H : (if t331 = true then ((weirkeeperref13_Same.f kj5 t310 t328).bind fun t332 => (if t332 = true then ((trail_Right.f kj5 t310).bind fun t333 => (if t333 = true then ((weirkeeperlaw16_awake.f kj5).bind fun t334 => (some t334)) else (none))) else (none))) else (none)) = some r := H
        have A22 := Aside0.mk A220
        clear A220
        by_cases c23 : t331 = true
        · subst c23
          have H1 : ((weirkeeperref13_Same.f kj5 t310 t328).bind fun t332 => (if t332 = true then ((trail_Right.f kj5 t310).bind fun t333 => (if t333 = true then ((weirkeeperlaw16_awake.f kj5).bind fun t334 => (some t334)) else (none))) else (none))) = some r := by rw [if_pos rfl] at H; exact H
          clear H
          have H := H1
          clear H1
          replace H := Option.bind_eq_some_iff.mp H
          obtain ⟨t332, A240, H⟩ := H
          replace H : (if t332 = true then ((trail_Right.f kj5 t310).bind fun t333 => (if t333 = true then ((weirkeeperlaw16_awake.f kj5).bind fun t334 => (some t334)) else (none))) else (none)) = some r := H
          have A24 := Aside0.mk A240
          clear A240
          by_cases c25 : t332 = true
          · subst c25
            have H1 : ((trail_Right.f kj5 t310).bind fun t333 => (if t333 = true then ((weirkeeperlaw16_awake.f kj5).bind fun t334 => (some t334)) else (none))) = some r := by rw [if_pos rfl] at H; exact H
            clear H
            have H := H1
            clear H1
            replace H := Option.bind_eq_some_iff.mp H
            obtain ⟨t333, A260, H⟩ := H
            replace H : (if t333 = true then ((weirkeeperlaw16_awake.f kj5).bind fun t334 => (some t334)) else (none)) = some r := H
            have A26 := Aside0.mk A260
            clear A260
            by_cases c27 : t333 = true
            · subst c27
              have H1 : ((weirkeeperlaw16_awake.f kj5).bind fun t334 => (some t334)) = some r := by rw [if_pos rfl] at H; exact H
              clear H
              have H := H1
              clear H1
              replace H := Option.bind_eq_some_iff.mp H
              obtain ⟨t334, A280, H⟩ := H
              replace H : (some t334) = some r := H
              have A28 := Aside0.mk A280
              clear A280
              obtain rfl := Option.some.inj H
              have hnb29 := NB302_303.out
              have hnc29 := NB303_302.out
              have hcz30_0 : wc.cell? ⟨gb302, 0, none⟩ = some (.string a3_0) := (blk_cell BK302.out 0).trans rfl
              have hcz30_1 : wc.cell? ⟨gb302, 1, none⟩ = some (.string a3_1) := (blk_cell BK302.out 1).trans rfl
              have hcz30_2 : wc.cell? ⟨gb302, 2, none⟩ = some (.bool a3_2) := (blk_cell BK302.out 2).trans rfl
              have hfz30_0 := blk_frozen BK302.out 0
              have hfz30_1 := blk_frozen BK302.out 1
              have hfz30_2 := blk_frozen BK302.out 2
              have hcz31_0 : wc.cell? ⟨gb303, 0, none⟩ = some (.string a4_0) := (blk_cell BK303.out 0).trans rfl
              have hcz31_1 : wc.cell? ⟨gb303, 1, none⟩ = some (.string a4_1) := (blk_cell BK303.out 1).trans rfl
              have hcz31_2 : wc.cell? ⟨gb303, 2, none⟩ = some (.bool a4_2) := (blk_cell BK303.out 2).trans rfl
              have hfz31_0 := blk_frozen BK303.out 0
              have hfz31_1 := blk_frozen BK303.out 1
              have hfz31_2 := blk_frozen BK303.out 2
              try go_wp2_with (first | ((with_reducible refine gate_dst (N := 28) rfl ?_); refine Kd.R_lit k35 _ 35 ?hg (N := 28) ?hd (xs := ([(⟨a3_0, a3_1, a3_2⟩ : S35), (⟨a4_0, a4_1, a4_2⟩ : S35)] : List (S35))) (inner := [.string a3_0, .string a3_1, .bool a3_2, .string a4_0, .string a4_1, .bool a4_2]) (ok := fun _ => True) (okp := fun _ => True) ?hr ?hp (fun _ hk => hk) trivial (Below.refl _ _) (Nat.le_refl _) (by simp) ?_; (case hd => rfl); (case hg => rfl); (case hr => first | (go_simp; done) | (go_simp; rfl)); (case hp => exact (Reps.c3 (show Kd.M k35 _ _ _ (⟨a3_0, a3_1, a3_2⟩ : S35) [.string a3_0, .string a3_1, .bool a3_2] from (k35_mkM _ _ _ (⟨a3_0, a3_1, a3_2⟩ : S35) )) (Reps.c3 (show Kd.M k35 _ _ _ (⟨a4_0, a4_1, a4_2⟩ : S35) [.string a4_0, .string a4_1, .bool a4_2] from (k35_mkM _ _ _ (⟨a4_0, a4_1, a4_2⟩ : S35) )) (Reps.none _ _)))); intro v308 w32 ho33 hb hg_ hnew_; clear hg_ hnew_; (first | rw [← Ny307.out] at ho33 | (simp only [Int.reduceToNat] at ho33; rw [← Ny307.out] at ho33)); have n0_ := Aside0.mk (Kd.R_lower (Kd.R_newB (Kd.R_newB ho33 (g := gb302) (o := .cells #[.string a3_0, .string a3_1, .bool a3_2] 35 (0, 0)) (by (with_reducible repeat (first | refine blk_drewN ?_ _ | refine blk_drew ?_ | refine blk_alloc ?_ _)); exact BK302.out)) (g := gb303) (o := .cells #[.string a4_0, .string a4_1, .bool a4_2] 35 (0, 0)) (by (with_reducible repeat (first | refine blk_drewN ?_ _ | refine blk_drew ?_ | refine blk_alloc ?_ _)); exact BK303.out)) (below_size (by repeat (first | (with_reducible first | exact HB.out | apply below_alloc | apply pw_below_drewN | apply below_drew1 | refine below_set ?_ GE302.out | refine below_set ?_ GE303.out) | exact HB.out)))); have n1_ := Aside0.mk (blk_below (g := gb302) (o := .cells #[.string a3_0, .string a3_1, .bool a3_2] 35 (0, 0)) (by (with_reducible repeat (first | refine blk_drewN ?_ _ | refine blk_drew ?_ | refine blk_alloc ?_ _)); exact BK302.out) hb); have n2_ := Aside0.mk (blk_below (g := gb303) (o := .cells #[.string a4_0, .string a4_1, .bool a4_2] 35 (0, 0)) (by (with_reducible repeat (first | refine blk_drewN ?_ _ | refine blk_drew ?_ | refine blk_alloc ?_ _)); exact BK303.out) hb); have n3_ := Aside0.mk (below_step (by repeat (first | (with_reducible first | exact HB.out | apply below_alloc | apply pw_below_drewN | apply below_drew1 | refine below_set ?_ GE302.out | refine below_set ?_ GE303.out) | exact HB.out)) hb); clear BK302; clear BK303; clear HB; have HO309 := n0_; have BK302 := n1_; have BK303 := n2_; have HB := n3_; clear n0_ n1_ n2_ n3_; clear hb ho33; obtain ⟨Ao34, co34, eo34⟩ := Kd.R_slice HO309.out; subst eo34) | ((with_reducible refine gate_callee (f := 11) rfl ?_); refine goesL_ (some 29) rfl rfl Try.func11 (by kernel_rfl) rfl #[.slice A0 l0.length c0, .int .i64 a1, .int .i64 a2, .slice Ao34 y307.length co34] rfl (by (try simp only [List.map_toArray, List.map_cons, List.map_nil]); first | done | rfl | (simp only [List.length_drop, List.length_take]; rfl)) ?_; (with_reducible refine (trail_Since.calls kj5 _ _ l0 a1 a2 _ _ y307 t310 _ ?side1 ?side2 ?side3 ?side4 A18.out).mono ?_); (case side1 => repeat (first | exact (Kd.C_below HR0.out HB.out) | (with_reducible refine Kd.C_alloc ?_ _) | (with_reducible refine Kd.C_drewN ?_ _) | (with_reducible refine Kd.C_drew ?_))); (case side2 => exact HC0.out); (case side3 => repeat (first | exact (Kd.R_reads' HO309.out).2.2 | (with_reducible refine Kd.C_alloc ?_ _) | (with_reducible refine Kd.C_drewN ?_ _) | (with_reducible refine Kd.C_drew ?_))); (case side4 => exact (Kd.R_reads' HO309.out).2.1); rintro e w35 ⟨v311, rfl, ho0, hb⟩; refine ⟨_, rfl, ?_⟩; have n0_ := Aside0.mk (Kd.R_below (by (with_reducible repeat (first | apply Kd.R_alloc | apply Kd.R_drewN | apply Kd.R_drew)); exact HO309.out) hb); have n1_ := Aside0.mk (Kd.R_lower ho0 (below_size (by repeat (first | (with_reducible first | exact HB.out | apply below_alloc | apply pw_below_drewN | apply below_drew1 | refine below_set ?_ GE302.out | refine below_set ?_ GE303.out) | exact HB.out)))); have n2_ := Aside0.mk (blk_below (g := gb302) (o := .cells #[.string a3_0, .string a3_1, .bool a3_2] 35 (0, 0)) (by (with_reducible repeat (first | refine blk_drewN ?_ _ | refine blk_drew ?_ | refine blk_alloc ?_ _)); exact BK302.out) hb); have n3_ := Aside0.mk (blk_below (g := gb303) (o := .cells #[.string a4_0, .string a4_1, .bool a4_2] 35 (0, 0)) (by (with_reducible repeat (first | refine blk_drewN ?_ _ | refine blk_drew ?_ | refine blk_alloc ?_ _)); exact BK303.out) hb); have n4_ := Aside0.mk (below_step (by repeat (first | (with_reducible first | exact HB.out | apply below_alloc | apply pw_below_drewN | apply below_drew1 | refine below_set ?_ GE302.out | refine below_set ?_ GE303.out) | exact HB.out)) hb); clear HO309; clear BK302; clear BK303; clear HB; have HO309 := n0_; have HO312 := n1_; have BK302 := n2_; have BK303 := n3_; have HB := n4_; clear n0_ n1_ n2_ n3_ n4_; (try clear hb); (try clear hb2); (try clear hk); (try clear hi); (try clear ho0); have hcz36_0 : w35.cell? ⟨gb303, 0, none⟩ = some (.string a4_0) := (blk_cell BK303.out 0).trans rfl; have hcz36_1 : w35.cell? ⟨gb303, 1, none⟩ = some (.string a4_1) := (blk_cell BK303.out 1).trans rfl; have hcz36_2 : w35.cell? ⟨gb303, 2, none⟩ = some (.bool a4_2) := (blk_cell BK303.out 2).trans rfl; have hfz36_0 := blk_frozen BK303.out 0; have hfz36_1 := blk_frozen BK303.out 1; have hfz36_2 := blk_frozen BK303.out 2; have hcz37_0 : w35.cell? ⟨gb302, 0, none⟩ = some (.string a3_0) := (blk_cell BK302.out 0).trans rfl; have hcz37_1 : w35.cell? ⟨gb302, 1, none⟩ = some (.string a3_1) := (blk_cell BK302.out 1).trans rfl; have hcz37_2 : w35.cell? ⟨gb302, 2, none⟩ = some (.bool a3_2) := (blk_cell BK302.out 2).trans rfl; have hfz37_0 := blk_frozen BK302.out 0; have hfz37_1 := blk_frozen BK302.out 1; have hfz37_2 := blk_frozen BK302.out 2) | ((with_reducible refine gate_dst (N := 35) rfl ?_); refine Kd.R_lit k35 _ 35 ?hg (N := 35) ?hd (xs := ([(⟨a4_0, a4_1, a4_2⟩ : S35), (⟨a3_0, a3_1, a3_2⟩ : S35)] : List (S35))) (inner := [.string a4_0, .string a4_1, .bool a4_2, .string a3_0, .string a3_1, .bool a3_2]) (ok := fun _ => True) (okp := fun _ => True) ?hr ?hp (fun _ hk => hk) trivial (Below.refl _ _) (Nat.le_refl _) (by simp) ?_; (case hd => rfl); (case hg => rfl); (case hr => first | (go_simp; done) | (go_simp; rfl)); (case hp => exact (Reps.c3 (show Kd.M k35 _ _ _ (⟨a4_0, a4_1, a4_2⟩ : S35) [.string a4_0, .string a4_1, .bool a4_2] from (k35_mkM _ _ _ (⟨a4_0, a4_1, a4_2⟩ : S35) )) (Reps.c3 (show Kd.M k35 _ _ _ (⟨a3_0, a3_1, a3_2⟩ : S35) [.string a3_0, .string a3_1, .bool a3_2] from (k35_mkM _ _ _ (⟨a3_0, a3_1, a3_2⟩ : S35) )) (Reps.none _ _)))); intro v314 w38 ho39 hb hg_ hnew_; clear hg_ hnew_; (first | rw [← Ny313.out] at ho39 | (simp only [Int.reduceToNat] at ho39; rw [← Ny313.out] at ho39)); have n0_ := Aside0.mk (Kd.R_elder' (by (with_reducible repeat (first | apply Kd.R_alloc | apply Kd.R_drewN | apply Kd.R_drew)); exact HO309.out) (Kd.R_base ho39) hb); have n1_ := Aside0.mk (Kd.R_below (by (with_reducible repeat (first | apply Kd.R_alloc | apply Kd.R_drewN | apply Kd.R_drew)); exact HO312.out) hb); have n2_ := Aside0.mk (Kd.R_lower (Kd.R_newB (Kd.R_newB (Kd.R_new' ho39 (Kd.R_lt (by (with_reducible repeat (first | apply Kd.R_alloc | apply Kd.R_drewN | apply Kd.R_drew)); exact HO309.out))) (g := gb302) (o := .cells #[.string a3_0, .string a3_1, .bool a3_2] 35 (0, 0)) (by (with_reducible repeat (first | refine blk_drewN ?_ _ | refine blk_drew ?_ | refine blk_alloc ?_ _)); exact BK302.out)) (g := gb303) (o := .cells #[.string a4_0, .string a4_1, .bool a4_2] 35 (0, 0)) (by (with_reducible repeat (first | refine blk_drewN ?_ _ | refine blk_drew ?_ | refine blk_alloc ?_ _)); exact BK303.out)) (below_size (by repeat (first | (with_reducible first | exact HB.out | apply below_alloc | apply pw_below_drewN | apply below_drew1 | refine below_set ?_ GE302.out | refine below_set ?_ GE303.out) | exact HB.out)))); have n3_ := Aside0.mk (blk_below (g := gb302) (o := .cells #[.string a3_0, .string a3_1, .bool a3_2] 35 (0, 0)) (by (with_reducible repeat (first | refine blk_drewN ?_ _ | refine blk_drew ?_ | refine blk_alloc ?_ _)); exact BK302.out) hb); have n4_ := Aside0.mk (blk_below (g := gb303) (o := .cells #[.string a4_0, .string a4_1, .bool a4_2] 35 (0, 0)) (by (with_reducible repeat (first | refine blk_drewN ?_ _ | refine blk_drew ?_ | refine blk_alloc ?_ _)); exact BK303.out) hb); have n5_ := Aside0.mk (below_step (by repeat (first | (with_reducible first | exact HB.out | apply below_alloc | apply pw_below_drewN | apply below_drew1 | refine below_set ?_ GE302.out | refine below_set ?_ GE303.out) | exact HB.out)) hb); clear HO309; clear HO312; clear BK302; clear BK303; clear HB; have HO309 := n0_; have HO312 := n1_; have HO315 := n2_; have BK302 := n3_; have BK303 := n4_; have HB := n5_; clear n0_ n1_ n2_ n3_ n4_ n5_; clear hb ho39; obtain ⟨Ao40, co40, eo40⟩ := Kd.R_slice HO315.out; subst eo40) | ((with_reducible refine gate_callee (f := 11) rfl ?_); refine goesL_ (some 36) rfl rfl Try.func11 (by kernel_rfl) rfl #[.slice A0 l0.length c0, .int .i64 a1, .int .i64 a2, .slice Ao40 y313.length co40] rfl (by (try simp only [List.map_toArray, List.map_cons, List.map_nil]); first | done | rfl | (simp only [List.length_drop, List.length_take]; rfl)) ?_; (with_reducible refine (trail_Since.calls kj5 _ _ l0 a1 a2 _ _ y313 t316 _ ?side1 ?side2 ?side3 ?side4 A19.out).mono ?_); (case side1 => repeat (first | exact (Kd.C_below HR0.out HB.out) | (with_reducible refine Kd.C_alloc ?_ _) | (with_reducible refine Kd.C_drewN ?_ _) | (with_reducible refine Kd.C_drew ?_))); (case side2 => exact HC0.out); (case side3 => repeat (first | exact (Kd.R_reads' HO315.out).2.2 | (with_reducible refine Kd.C_alloc ?_ _) | (with_reducible refine Kd.C_drewN ?_ _) | (with_reducible refine Kd.C_drew ?_))); (case side4 => exact (Kd.R_reads' HO315.out).2.1); rintro e w41 ⟨v317, rfl, ho0, hb⟩; refine ⟨_, rfl, ?_⟩; have n0_ := Aside0.mk (Kd.R_below (by (with_reducible repeat (first | apply Kd.R_alloc | apply Kd.R_drewN | apply Kd.R_drew)); exact HO309.out) hb); have n1_ := Aside0.mk (Kd.R_elder' (by (with_reducible repeat (first | apply Kd.R_alloc | apply Kd.R_drewN | apply Kd.R_drew)); exact HO312.out) (Kd.R_base ho0) hb); have n2_ := Aside0.mk (Kd.R_below (by (with_reducible repeat (first | apply Kd.R_alloc | apply Kd.R_drewN | apply Kd.R_drew)); exact HO315.out) hb); have n3_ := Aside0.mk (Kd.R_lower (Kd.R_new' ho0 (Kd.R_lt (by (with_reducible repeat (first | apply Kd.R_alloc | apply Kd.R_drewN | apply Kd.R_drew)); exact HO312.out))) (below_size (by repeat (first | (with_reducible first | exact HB.out | apply below_alloc | apply pw_below_drewN | apply below_drew1 | refine below_set ?_ GE302.out | refine below_set ?_ GE303.out) | exact HB.out)))); have n4_ := Aside0.mk (blk_below (g := gb302) (o := .cells #[.string a3_0, .string a3_1, .bool a3_2] 35 (0, 0)) (by (with_reducible repeat (first | refine blk_drewN ?_ _ | refine blk_drew ?_ | refine blk_alloc ?_ _)); exact BK302.out) hb); have n5_ := Aside0.mk (blk_below (g := gb303) (o := .cells #[.string a4_0, .string a4_1, .bool a4_2] 35 (0, 0)) (by (with_reducible repeat (first | refine blk_drewN ?_ _ | refine blk_drew ?_ | refine blk_alloc ?_ _)); exact BK303.out) hb); have n6_ := Aside0.mk (below_step (by repeat (first | (with_reducible first | exact HB.out | apply below_alloc | apply pw_below_drewN | apply below_drew1 | refine below_set ?_ GE302.out | refine below_set ?_ GE303.out) | exact HB.out)) hb); clear HO309; clear HO312; clear HO315; clear BK302; clear BK303; clear HB; have HO309 := n0_; have HO312 := n1_; have HO315 := n2_; have HO318 := n3_; have BK302 := n4_; have BK303 := n5_; have HB := n6_; clear n0_ n1_ n2_ n3_ n4_ n5_ n6_; (try clear hb); (try clear hb2); (try clear hk); (try clear hi); (try clear ho0)))
              have n0_ := Aside0.mk (Kd.R_drew HO309.out)
              have n1_ := Aside0.mk (Kd.R_drew HO312.out)
              have n2_ := Aside0.mk (Kd.R_drew HO315.out)
              have n3_ := Aside0.mk (Kd.R_drew HO318.out)
              have n4_ := Aside0.mk (blk_drew BK302.out)
              have n5_ := Aside0.mk (blk_drew BK303.out)
              have n6_ := Aside0.mk (below_drew1 HB.out)
              clear HO309
              clear HO312
              clear HO315
              clear HO318
              clear BK302
              clear BK303
              clear HB
              have HO309 := n0_
              have HO312 := n1_
              have HO315 := n2_
              have HO318 := n3_
              have BK302 := n4_
              have BK303 := n5_
              have HB := n6_
              clear n0_ n1_ n2_ n3_ n4_ n5_ n6_
              refine start_ (n := 13) (S := fun w' => True) (ds := []) #[false, false, false, false, false, false, false, false, false, false, false, false, false] (by kernel_rfl) rfl rfl trivial (fun hHeld => ?_); refine with_tabW weirkeeperlaw16_TrailMeets.tab5 weirkeeperlaw16_TrailMeets.bits5 (fun HT_ HW_ => ?_)
              generalize w41.drew = w42 at HO309 HO312 HO315 HO318 BK302 BK303 HB hHeld ⊢
              refine pure_ (i := 0) (N := some 37) (v := ?_) (a' := ?_) #[true, false, false, false, false, false, false, false, false, false, false, false, false] rfl rfl (any_of HT_.out (by kernel_rfl)) (fun _ _ _ h => h) (Or.inl ⟨by rfl, ?_⟩) ?_ ?_
              rotate_left
              · intro w'
                go_simp
                with_reducible rfl
              rotate_left
              · simp only [Act.put, List.setIfInBounds_toArray, List.set_cons_zero, List.set_cons_succ, i64_w, i32_w]
                rfl
              refine pure_ (i := 1) (N := some 38) (v := ?_) (a' := ?_) #[true, true, false, false, false, false, false, false, false, false, false, false, false] rfl rfl (any_of HT_.out (by kernel_rfl)) (fun _ _ _ h => h) (Or.inl ⟨by rfl, ?_⟩) ?_ ?_
              rotate_left
              · intro w'
                go_simp
                with_reducible rfl
              rotate_left
              · simp only [Act.put, List.setIfInBounds_toArray, List.set_cons_zero, List.set_cons_succ, i64_w, i32_w]
                rfl
              refine pure_ (i := 2) (N := some 39) (v := ?_) (a' := ?_) #[true, true, true, false, false, false, false, false, false, false, false, false, false] rfl rfl (any_of HT_.out (by kernel_rfl)) (fun _ _ _ h => h) (Or.inl ⟨by rfl, ?_⟩) ?_ ?_
              rotate_left
              · intro w'
                go_simp
                with_reducible rfl
              rotate_left
              · simp only [Act.put, List.setIfInBounds_toArray, List.set_cons_zero, List.set_cons_succ, i64_w, i32_w]
                rfl
              refine pure_ (i := 7) (N := some 44) (v := ?_) (a' := ?_) #[true, true, true, false, false, false, false, true, false, false, false, false, false] rfl rfl (any_of HT_.out (by kernel_rfl)) (fun _ _ _ h => h) (Or.inl ⟨by rfl, ?_⟩) ?_ ?_
              rotate_left
              · intro w'
                go_simp
                with_reducible rfl
              rotate_left
              · simp only [Act.put, List.setIfInBounds_toArray, List.set_cons_zero, List.set_cons_succ, i64_w, i32_w]
                rfl
              refine pure_ (i := 8) (N := some 45) (v := ?_) (a' := ?_) #[true, true, true, false, false, false, false, true, true, false, false, false, false] rfl rfl (any_of HT_.out (by kernel_rfl)) (fun _ _ _ h => h) (Or.inl ⟨by rfl, ?_⟩) ?_ ?_
              rotate_left
              · intro w'
                go_simp
                with_reducible rfl
              rotate_left
              · simp only [Act.put, List.setIfInBounds_toArray, List.set_cons_zero, List.set_cons_succ, i64_w, i32_w]
                rfl
              refine inv_at [3, 4, 5, 6, 9, 10, 11, 12] (fun a0_ b a w' => ∃ (v320 : Value) (v323 : Value) (v326 : Value) (v329 : Value) (m12_ : Value), a = putSel a0_ b [(3, 40, .int .i64 (l0.length : Int)), (4, 41, .agg #[.string a3_0, .string a3_1, .bool a3_2]), (5, 42, v320), (6, 43, v323), (9, 46, .agg #[.string a4_0, .string a4_1, .bool a4_2]), (10, 47, v326), (11, 48, v329), (12, 13, m12_)] ∧ (Kd.R k35 35 w' w.heap.size (fun k_ => some k_ ≠ (.slice Ao40 y313.length co40 : Value).ownBlock ∧ k_ ≠ gb302 ∧ k_ ≠ gb303) (.slice Ao34 y307.length co34) y307) ∧ (Kd.R k30 30 w' w.heap.size (fun k_ => some k_ ≠ (v317 : Value).ownBlock) v311 t310) ∧ (Kd.R k35 35 w' w.heap.size (fun k_ => some k_ ≠ (.slice Ao34 y307.length co34 : Value).ownBlock ∧ k_ ≠ gb302 ∧ k_ ≠ gb303) (.slice Ao40 y313.length co40) y313) ∧ (Kd.R k30 30 w' w.heap.size (fun k_ => some k_ ≠ (v311 : Value).ownBlock) v317 t316) ∧ (w'.heap[gb302]? = some (.cells #[.string a3_0, .string a3_1, .bool a3_2] 35 (0, 0))) ∧ (w'.heap[gb303]? = some (.cells #[.string a4_0, .string a4_1, .bool a4_2] 35 (0, 0))) ∧ (Below w.heap.size w w') ∧ (b 5 = true → Kd.R k35 35 w' w.heap.size (fun k_ => some k_ ≠ (.slice Ao34 y307.length co34 : Value).ownBlock ∧ some k_ ≠ (.slice Ao40 y313.length co40 : Value).ownBlock ∧ k_ ≠ gb302 ∧ k_ ≠ gb303) v320 y319) ∧ (b 6 = true → Kd.R k30 30 w' w.heap.size (fun k_ => some k_ ≠ (v311 : Value).ownBlock ∧ some k_ ≠ (v317 : Value).ownBlock) v323 t322) ∧ (b 10 = true → Kd.R k35 35 w' w.heap.size (fun k_ => some k_ ≠ (.slice Ao34 y307.length co34 : Value).ownBlock ∧ some k_ ≠ (.slice Ao40 y313.length co40 : Value).ownBlock ∧ k_ ≠ gb302 ∧ k_ ≠ gb303) v326 y325) ∧ (b 11 = true → Kd.R k30 30 w' w.heap.size (fun k_ => some k_ ≠ (v311 : Value).ownBlock ∧ some k_ ≠ (v317 : Value).ownBlock) v329 t328) ∧ (b 12 = true → (m12_ : Value) = v329)) HT_.out HW_.out (by kernel_rfl) (by kernel_rfl) ?_ ?_ ?_
              · exact ⟨.bool false, .bool false, .bool false, .bool false, .bool false, by simp only [putSel, Bool.false_eq_true, if_false], (by first | exact HO309.out | exact Kd.R_mono HO309.out (fun _ hk => by grind)), (by first | exact HO312.out | exact Kd.R_mono HO312.out (fun _ hk => by grind)), (by first | exact HO315.out | exact Kd.R_mono HO315.out (fun _ hk => by grind)), (by first | exact HO318.out | exact Kd.R_mono HO318.out (fun _ hk => by grind)), BK302.out, BK303.out, HB.out, fun h_ => absurd h_ (by decide), fun h_ => absurd h_ (by decide), fun h_ => absurd h_ (by decide), fun h_ => absurd h_ (by decide), fun h_ => absurd h_ (by decide)⟩
              · skip
                clear BK302 BK303 HB HO309 HO312 HO315 HO318
                refine steps_cons ?_ ?_
                · rintro b a w' ⟨v320, v323, v326, v329, m12_, ha, Q_HO309, Q_HO312, Q_HO315, Q_HO318, Q_BK302, Q_BK303, Q_HB, Q_HO321, Q_HO324, Q_HO327, Q_HO330, Q_X12_⟩ hb_ hon hoff
                  refine ⟨_, rfl, fun K hK => ?_⟩
                  have e39 : a.tmps[39]? = some (.slice A0 l0.length c0) := by rw [ha]; exact (putSel_off rfl).trans rfl
                  replace ha := Aside0.mk ha
                  have HO309 := Aside0.mk Q_HO309
                  have HO312 := Aside0.mk Q_HO312
                  have HO315 := Aside0.mk Q_HO315
                  have HO318 := Aside0.mk Q_HO318
                  have BK302 := Aside0.mk Q_BK302
                  have BK303 := Aside0.mk Q_BK303
                  have HB := Aside0.mk Q_HB
                  refine value_ (w1 := w') (v := .int .i64 (l0.length : Int)) (by rfl) rfl ?_ ?_
                  · go_simp
                    (try simp only [i64_w])
                    try rfl
                  refine hK.out _ _ ⟨v320, v323, v326, v329, m12_, (by rw [ha.out]; exact putSel_upk 0 hb_ rfl rfl rfl), Q_HO309, Q_HO312, Q_HO315, Q_HO318, Q_BK302, Q_BK303, Q_HB, Q_HO321, fun h0_ => absurd ((hoff 6 (by kernel_rfl)).symm.trans h0_) (by decide), Q_HO327, fun h0_ => absurd ((hoff 11 (by kernel_rfl)).symm.trans h0_) (by decide), fun h0_ => absurd ((hoff 12 (by kernel_rfl)).symm.trans h0_) (by decide)⟩
                refine steps_cons ?_ ?_
                · rintro b a w' ⟨v320, v323, v326, v329, m12_, ha, Q_HO309, Q_HO312, Q_HO315, Q_HO318, Q_BK302, Q_BK303, Q_HB, Q_HO321, Q_HO324, Q_HO327, Q_HO330, Q_X12_⟩ hb_ hon hoff
                  refine ⟨_, rfl, fun K hK => ?_⟩
                  have e8 : a.tmps[8]? = some (.pointer (some ⟨gb302, 0, none⟩)) := by rw [ha]; exact (putSel_off rfl).trans rfl
                  replace ha := Aside0.mk ha
                  have HO309 := Aside0.mk Q_HO309
                  have HO312 := Aside0.mk Q_HO312
                  have HO315 := Aside0.mk Q_HO315
                  have HO318 := Aside0.mk Q_HO318
                  have BK302 := Aside0.mk Q_BK302
                  have BK303 := Aside0.mk Q_BK303
                  have HB := Aside0.mk Q_HB
                  have hc0_ : w'.cell? ⟨gb302, 0, none⟩ = some (.string a3_0) := (blk_cell BK302.out 0).trans rfl
                  have hc1_ : w'.cell? ⟨gb302, 1, none⟩ = some (.string a3_1) := (blk_cell BK302.out 1).trans rfl
                  have hc2_ : w'.cell? ⟨gb302, 2, none⟩ = some (.bool a3_2) := (blk_cell BK302.out 2).trans rfl
                  refine value_ (w1 := w') (v := .agg #[.string a3_0, .string a3_1, .bool a3_2]) (by rfl) rfl ?_ ?_
                  · go_simp
                    (try simp only [i64_w])
                    try rfl
                  refine hK.out _ _ ⟨v320, v323, v326, v329, m12_, (by rw [ha.out]; exact putSel_upk 1 hb_ rfl rfl rfl), Q_HO309, Q_HO312, Q_HO315, Q_HO318, Q_BK302, Q_BK303, Q_HB, fun h0_ => absurd ((hoff 5 (by kernel_rfl)).symm.trans h0_) (by decide), fun h0_ => absurd ((hoff 6 (by kernel_rfl)).symm.trans h0_) (by decide), Q_HO327, fun h0_ => absurd ((hoff 11 (by kernel_rfl)).symm.trans h0_) (by decide), fun h0_ => absurd ((hoff 12 (by kernel_rfl)).symm.trans h0_) (by decide)⟩
                refine steps_cons ?_ ?_
                · rintro b a w' ⟨v320, v323, v326, v329, m12_, ha, Q_HO309, Q_HO312, Q_HO315, Q_HO318, Q_BK302, Q_BK303, Q_HB, Q_HO321, Q_HO324, Q_HO327, Q_HO330, Q_X12_⟩ hb_ hon hoff
                  refine ⟨_, rfl, fun K hK => ?_⟩
                  have e41 : a.tmps[41]? = some (.agg #[.string a3_0, .string a3_1, .bool a3_2]) := by rw [ha]; exact putSel_on (e := (4, 41, .agg #[.string a3_0, .string a3_1, .bool a3_2])) 1 rfl rfl (hon 4 (by kernel_rfl)) rfl
                  replace ha := Aside0.mk ha
                  have HO309 := Aside0.mk Q_HO309
                  have HO312 := Aside0.mk Q_HO312
                  have HO315 := Aside0.mk Q_HO315
                  have HO318 := Aside0.mk Q_HO318
                  have BK302 := Aside0.mk Q_BK302
                  have BK303 := Aside0.mk Q_BK303
                  have HB := Aside0.mk Q_HB
                  refine Kd.R_lit_step k35 _ 35 ?hg (N := 42) ?hd (xs := ([(⟨a3_0, a3_1, a3_2⟩ : S35)] : List (S35))) (inner := [.string a3_0, .string a3_1, .bool a3_2]) (ok := fun _ => True) (okp := fun _ => True) ?hr ?hp (fun _ hk => hk) trivial (Below.refl _ _) (Nat.le_refl _) (by simp) ?_; (case hd => rfl); (case hg => rfl); (case hr => first | (go_simp; done) | (go_simp; rfl)); (case hp => exact (Reps.c3 (show Kd.M k35 _ _ _ (⟨a3_0, a3_1, a3_2⟩ : S35) [.string a3_0, .string a3_1, .bool a3_2] from (k35_mkM _ _ _ (⟨a3_0, a3_1, a3_2⟩ : S35) )) (Reps.none _ _)))
                  intro v320 w43 ho44 hb hg_ hnew_
                  clear hg_ hnew_
                  (first | rw [← Ny319.out] at ho44 | (simp only [Int.reduceToNat] at ho44; rw [← Ny319.out] at ho44))
                  have n0_ := Aside0.mk (Kd.R_elder' (by (with_reducible repeat (first | apply Kd.R_alloc | apply Kd.R_drewN | apply Kd.R_drew)); exact HO309.out) (Kd.R_base ho44) hb)
                  have n1_ := Aside0.mk (Kd.R_below (by (with_reducible repeat (first | apply Kd.R_alloc | apply Kd.R_drewN | apply Kd.R_drew)); exact HO312.out) hb)
                  have n2_ := Aside0.mk (Kd.R_elder' (by (with_reducible repeat (first | apply Kd.R_alloc | apply Kd.R_drewN | apply Kd.R_drew)); exact HO315.out) (Kd.R_base ho44) hb)
                  have n3_ := Aside0.mk (Kd.R_below (by (with_reducible repeat (first | apply Kd.R_alloc | apply Kd.R_drewN | apply Kd.R_drew)); exact HO318.out) hb)
                  have n4_ := Aside0.mk (Kd.R_lower (Kd.R_newB (Kd.R_newB (Kd.R_new' (Kd.R_new' ho44 (Kd.R_lt (by (with_reducible repeat (first | apply Kd.R_alloc | apply Kd.R_drewN | apply Kd.R_drew)); exact HO309.out))) (Kd.R_lt (by (with_reducible repeat (first | apply Kd.R_alloc | apply Kd.R_drewN | apply Kd.R_drew)); exact HO315.out))) (g := gb302) (o := .cells #[.string a3_0, .string a3_1, .bool a3_2] 35 (0, 0)) (by (with_reducible repeat (first | refine blk_drewN ?_ _ | refine blk_drew ?_ | refine blk_alloc ?_ _)); exact BK302.out)) (g := gb303) (o := .cells #[.string a4_0, .string a4_1, .bool a4_2] 35 (0, 0)) (by (with_reducible repeat (first | refine blk_drewN ?_ _ | refine blk_drew ?_ | refine blk_alloc ?_ _)); exact BK303.out)) (below_size (by repeat (first | (with_reducible first | exact HB.out | apply below_alloc | apply pw_below_drewN | apply below_drew1 | refine below_set ?_ GE302.out | refine below_set ?_ GE303.out) | exact HB.out))))
                  have n5_ := Aside0.mk (blk_below (g := gb302) (o := .cells #[.string a3_0, .string a3_1, .bool a3_2] 35 (0, 0)) (by (with_reducible repeat (first | refine blk_drewN ?_ _ | refine blk_drew ?_ | refine blk_alloc ?_ _)); exact BK302.out) hb)
                  have n6_ := Aside0.mk (blk_below (g := gb303) (o := .cells #[.string a4_0, .string a4_1, .bool a4_2] 35 (0, 0)) (by (with_reducible repeat (first | refine blk_drewN ?_ _ | refine blk_drew ?_ | refine blk_alloc ?_ _)); exact BK303.out) hb)
                  have n7_ := Aside0.mk (below_step (by repeat (first | (with_reducible first | exact HB.out | apply below_alloc | apply pw_below_drewN | apply below_drew1 | refine below_set ?_ GE302.out | refine below_set ?_ GE303.out) | exact HB.out)) hb)
                  have z_HO327 := fun (h0_ : b 10 = true) => (show Kd.R k35 35 w43 w.heap.size (fun k_ => some k_ ≠ (.slice Ao34 y307.length co34 : Value).ownBlock ∧ some k_ ≠ (.slice Ao40 y313.length co40 : Value).ownBlock ∧ k_ ≠ gb302 ∧ k_ ≠ gb303) v326 y325 from by first | exact (Kd.R_elder' (by (with_reducible repeat (first | apply Kd.R_alloc | apply Kd.R_drewN | apply Kd.R_drew)); exact (Q_HO327 h0_)) (Kd.R_base ho44) hb) | exact Kd.R_mono (Kd.R_elder' (by (with_reducible repeat (first | apply Kd.R_alloc | apply Kd.R_drewN | apply Kd.R_drew)); exact (Q_HO327 h0_)) (Kd.R_base ho44) hb) (fun _ h_ => by first | trivial | exact h_ | exact h_.1))
                  clear HO309
                  clear HO312
                  clear HO315
                  clear HO318
                  clear BK302
                  clear BK303
                  clear HB
                  have HO309 := n0_
                  have HO312 := n1_
                  have HO315 := n2_
                  have HO318 := n3_
                  have HO321 := n4_
                  have BK302 := n5_
                  have BK303 := n6_
                  have HB := n7_
                  clear n0_ n1_ n2_ n3_ n4_ n5_ n6_ n7_
                  clear hb ho44
                  refine hK.out _ _ ⟨v320, v323, v326, v329, m12_, (by rw [ha.out]; exact putSel_upk 2 hb_ rfl rfl rfl), (by (with_reducible repeat (first | apply Kd.R_alloc | apply Kd.R_drewN | apply Kd.R_drew)); exact Kd.R_mono HO309.out (fun _ hk => by first | exact ⟨hk.1.2, ⟨hk.2, ⟨hk.1.1.1.2, hk.1.1.2⟩⟩⟩ | grind)), (by (with_reducible repeat (first | apply Kd.R_alloc | apply Kd.R_drewN | apply Kd.R_drew)); exact Kd.R_mono HO312.out (fun _ hk => by first | exact hk.2 | grind)), (by (with_reducible repeat (first | apply Kd.R_alloc | apply Kd.R_drewN | apply Kd.R_drew)); exact Kd.R_mono HO315.out (fun _ hk => by first | exact ⟨hk.1.1.1.2, ⟨hk.2, ⟨hk.1.1.2, hk.1.2⟩⟩⟩ | grind)), (by (with_reducible repeat (first | apply Kd.R_alloc | apply Kd.R_drewN | apply Kd.R_drew)); exact Kd.R_mono HO318.out (fun _ hk => by first | exact hk.2 | grind)), (by (with_reducible repeat (first | refine blk_drewN ?_ _ | refine blk_drew ?_ | refine blk_alloc ?_ _)); exact BK302.out), (by (with_reducible repeat (first | refine blk_drewN ?_ _ | refine blk_drew ?_ | refine blk_alloc ?_ _)); exact BK303.out), (by repeat (first | (with_reducible first | exact HB.out | apply below_alloc | apply pw_below_drewN | apply below_drew1 | refine below_set ?_ GE302.out | refine below_set ?_ GE303.out) | exact HB.out)), fun _ => (by (with_reducible repeat (first | apply Kd.R_alloc | apply Kd.R_drewN | apply Kd.R_drew)); exact Kd.R_mono HO321.out (fun _ hk => by first | exact ⟨hk.1.1.1.2, ⟨hk.1.1.2, ⟨hk.1.2, hk.2⟩⟩⟩ | grind)), fun h0_ => absurd ((hoff 6 (by kernel_rfl)).symm.trans h0_) (by decide), z_HO327, fun h0_ => absurd ((hoff 11 (by kernel_rfl)).symm.trans h0_) (by decide), fun h0_ => absurd ((hoff 12 (by kernel_rfl)).symm.trans h0_) (by decide)⟩
                refine steps_cons ?_ ?_
                · rintro b a w' ⟨v320, v323, v326, v329, m12_, ha, Q_HO309, Q_HO312, Q_HO315, Q_HO318, Q_BK302, Q_BK303, Q_HB, Q_HO321, Q_HO324, Q_HO327, Q_HO330, Q_X12_⟩ hb_ hon hoff
                  refine ⟨_, rfl, fun K hK => ?_⟩
                  have e37 : a.tmps[37]? = some (.slice A0 l0.length c0) := by rw [ha]; exact (putSel_off rfl).trans rfl
                  have e38 : a.tmps[38]? = some (.int .i64 a1) := by rw [ha]; exact (putSel_off rfl).trans rfl
                  have e40 : a.tmps[40]? = some (.int .i64 (l0.length : Int)) := by rw [ha]; exact putSel_on (e := (3, 40, .int .i64 (l0.length : Int))) 0 rfl rfl (hon 3 (by kernel_rfl)) rfl
                  have e42 : a.tmps[42]? = some (v320) := by rw [ha]; exact putSel_on (e := (5, 42, v320)) 2 rfl rfl (hon 5 (by kernel_rfl)) rfl
                  replace ha := Aside0.mk ha
                  have HO309 := Aside0.mk Q_HO309
                  have HO312 := Aside0.mk Q_HO312
                  have HO315 := Aside0.mk Q_HO315
                  have HO318 := Aside0.mk Q_HO318
                  have BK302 := Aside0.mk Q_BK302
                  have BK303 := Aside0.mk Q_BK303
                  have HB := Aside0.mk Q_HB
                  have HO321 := Aside0.mk (Q_HO321 (hon 5 (by kernel_rfl)))
                  obtain ⟨Ao46, co46, eo46⟩ := Kd.R_slice HO321.out
                  (first | subst eo46 | (injection eo46 with f1_ f2_ f3_; have f4_ := f1_.symm; have f5_ := f3_.symm; clear f1_ f2_ f3_; subst f4_; subst f5_))
                  refine goes_ Try.func11 (by kernel_rfl) rfl #[.slice A0 l0.length c0, .int .i64 a1, .int .i64 (l0.length : Int), .slice Ao46 y319.length co46] (by rfl) rfl rfl (by first | (simp only [List.map_toArray, List.map_cons, List.map_nil, Act.eval, Array.getD_eq_getD_getElem?, Option.getD_some, e37, e38, e40, e42]; done) | (simp only [List.map_toArray, List.map_cons, List.map_nil, Act.eval, Array.getD_eq_getD_getElem?, Option.getD_some, e37, e38, e40, e42]; rfl)) ?_
                  with_reducible refine (trail_Since.calls kj5 _ _ l0 a1 (l0.length : Int) _ _ y319 t322 _ ?side1 ?side2 ?side3 ?side4 A20.out).mono ?_
                  (case side1 => repeat (first | exact (Kd.C_below HR0.out HB.out) | (with_reducible refine Kd.C_alloc ?_ _) | (with_reducible refine Kd.C_drewN ?_ _) | (with_reducible refine Kd.C_drew ?_)))
                  (case side2 => exact HC0.out)
                  (case side3 => repeat (first | exact (Kd.R_reads' HO321.out).2.2 | (with_reducible refine Kd.C_alloc ?_ _) | (with_reducible refine Kd.C_drewN ?_ _) | (with_reducible refine Kd.C_drew ?_)))
                  (case side4 => exact (Kd.R_reads' HO321.out).2.1)
                  rintro e w47 ⟨v323, rfl, ho0, hb⟩
                  refine ⟨_, rfl, ?_⟩
                  have n0_ := Aside0.mk (Kd.R_below (by (with_reducible repeat (first | apply Kd.R_alloc | apply Kd.R_drewN | apply Kd.R_drew)); exact HO309.out) hb)
                  have n1_ := Aside0.mk (Kd.R_elder' (by (with_reducible repeat (first | apply Kd.R_alloc | apply Kd.R_drewN | apply Kd.R_drew)); exact HO312.out) (Kd.R_base ho0) hb)
                  have n2_ := Aside0.mk (Kd.R_below (by (with_reducible repeat (first | apply Kd.R_alloc | apply Kd.R_drewN | apply Kd.R_drew)); exact HO315.out) hb)
                  have n3_ := Aside0.mk (Kd.R_elder' (by (with_reducible repeat (first | apply Kd.R_alloc | apply Kd.R_drewN | apply Kd.R_drew)); exact HO318.out) (Kd.R_base ho0) hb)
                  have n4_ := Aside0.mk (Kd.R_below (by (with_reducible repeat (first | apply Kd.R_alloc | apply Kd.R_drewN | apply Kd.R_drew)); exact HO321.out) hb)
                  have n5_ := Aside0.mk (Kd.R_lower (Kd.R_new' (Kd.R_new' ho0 (Kd.R_lt (by (with_reducible repeat (first | apply Kd.R_alloc | apply Kd.R_drewN | apply Kd.R_drew)); exact HO312.out))) (Kd.R_lt (by (with_reducible repeat (first | apply Kd.R_alloc | apply Kd.R_drewN | apply Kd.R_drew)); exact HO318.out))) (below_size (by repeat (first | (with_reducible first | exact HB.out | apply below_alloc | apply pw_below_drewN | apply below_drew1 | refine below_set ?_ GE302.out | refine below_set ?_ GE303.out) | exact HB.out))))
                  have n6_ := Aside0.mk (blk_below (g := gb302) (o := .cells #[.string a3_0, .string a3_1, .bool a3_2] 35 (0, 0)) (by (with_reducible repeat (first | refine blk_drewN ?_ _ | refine blk_drew ?_ | refine blk_alloc ?_ _)); exact BK302.out) hb)
                  have n7_ := Aside0.mk (blk_below (g := gb303) (o := .cells #[.string a4_0, .string a4_1, .bool a4_2] 35 (0, 0)) (by (with_reducible repeat (first | refine blk_drewN ?_ _ | refine blk_drew ?_ | refine blk_alloc ?_ _)); exact BK303.out) hb)
                  have n8_ := Aside0.mk (below_step (by repeat (first | (with_reducible first | exact HB.out | apply below_alloc | apply pw_below_drewN | apply below_drew1 | refine below_set ?_ GE302.out | refine below_set ?_ GE303.out) | exact HB.out)) hb)
                  have z_HO327 := fun (h0_ : b 10 = true) => (show Kd.R k35 35 w47 w.heap.size (fun k_ => some k_ ≠ (.slice Ao34 y307.length co34 : Value).ownBlock ∧ some k_ ≠ (.slice Ao40 y313.length co40 : Value).ownBlock ∧ k_ ≠ gb302 ∧ k_ ≠ gb303) v326 y325 from by first | exact (Kd.R_below (by (with_reducible repeat (first | apply Kd.R_alloc | apply Kd.R_drewN | apply Kd.R_drew)); exact (Q_HO327 h0_)) hb) | exact Kd.R_mono (Kd.R_below (by (with_reducible repeat (first | apply Kd.R_alloc | apply Kd.R_drewN | apply Kd.R_drew)); exact (Q_HO327 h0_)) hb) (fun _ h_ => by first | trivial | exact h_ | exact h_.1))
                  clear HO309
                  clear HO312
                  clear HO315
                  clear HO318
                  clear HO321
                  clear BK302
                  clear BK303
                  clear HB
                  have HO309 := n0_
                  have HO312 := n1_
                  have HO315 := n2_
                  have HO318 := n3_
                  have HO321 := n4_
                  have HO324 := n5_
                  have BK302 := n6_
                  have BK303 := n7_
                  have HB := n8_
                  clear n0_ n1_ n2_ n3_ n4_ n5_ n6_ n7_ n8_
                  (try clear hb)
                  (try clear hb2)
                  (try clear hk)
                  (try clear hi)
                  (try clear ho0)
                  refine hK.out _ _ ⟨.slice Ao46 y319.length co46, v323, v326, v329, m12_, (by rw [ha.out]; exact putSel_upk 3 hb_ rfl rfl rfl), (by (with_reducible repeat (first | apply Kd.R_alloc | apply Kd.R_drewN | apply Kd.R_drew)); first | exact HO309.out | exact Kd.R_mono HO309.out (fun _ hk => by grind)), (by (with_reducible repeat (first | apply Kd.R_alloc | apply Kd.R_drewN | apply Kd.R_drew)); first | exact HO312.out | exact Kd.R_mono HO312.out (fun _ hk => by grind)), (by (with_reducible repeat (first | apply Kd.R_alloc | apply Kd.R_drewN | apply Kd.R_drew)); first | exact HO315.out | exact Kd.R_mono HO315.out (fun _ hk => by grind)), (by (with_reducible repeat (first | apply Kd.R_alloc | apply Kd.R_drewN | apply Kd.R_drew)); first | exact HO318.out | exact Kd.R_mono HO318.out (fun _ hk => by grind)), (by (with_reducible repeat (first | refine blk_drewN ?_ _ | refine blk_drew ?_ | refine blk_alloc ?_ _)); exact BK302.out), (by (with_reducible repeat (first | refine blk_drewN ?_ _ | refine blk_drew ?_ | refine blk_alloc ?_ _)); exact BK303.out), (by repeat (first | (with_reducible first | exact HB.out | apply below_alloc | apply pw_below_drewN | apply below_drew1 | refine below_set ?_ GE302.out | refine below_set ?_ GE303.out) | exact HB.out)), fun _ => (by (with_reducible repeat (first | apply Kd.R_alloc | apply Kd.R_drewN | apply Kd.R_drew)); first | exact HO321.out | exact Kd.R_mono HO321.out (fun _ hk => by grind)), fun _ => (by (with_reducible repeat (first | apply Kd.R_alloc | apply Kd.R_drewN | apply Kd.R_drew)); exact Kd.R_mono HO324.out (fun _ hk => by first | exact ⟨hk.1.2, hk.2⟩ | grind)), z_HO327, fun h0_ => absurd ((hoff 11 (by kernel_rfl)).symm.trans h0_) (by decide), fun h0_ => absurd ((hoff 12 (by kernel_rfl)).symm.trans h0_) (by decide)⟩
                refine steps_cons ?_ ?_
                · rintro b a w' ⟨v320, v323, v326, v329, m12_, ha, Q_HO309, Q_HO312, Q_HO315, Q_HO318, Q_BK302, Q_BK303, Q_HB, Q_HO321, Q_HO324, Q_HO327, Q_HO330, Q_X12_⟩ hb_ hon hoff
                  refine ⟨_, rfl, fun K hK => ?_⟩
                  have e9 : a.tmps[9]? = some (.pointer (some ⟨gb303, 0, none⟩)) := by rw [ha]; exact (putSel_off rfl).trans rfl
                  replace ha := Aside0.mk ha
                  have HO309 := Aside0.mk Q_HO309
                  have HO312 := Aside0.mk Q_HO312
                  have HO315 := Aside0.mk Q_HO315
                  have HO318 := Aside0.mk Q_HO318
                  have BK302 := Aside0.mk Q_BK302
                  have BK303 := Aside0.mk Q_BK303
                  have HB := Aside0.mk Q_HB
                  have hc0_ : w'.cell? ⟨gb303, 0, none⟩ = some (.string a4_0) := (blk_cell BK303.out 0).trans rfl
                  have hc1_ : w'.cell? ⟨gb303, 1, none⟩ = some (.string a4_1) := (blk_cell BK303.out 1).trans rfl
                  have hc2_ : w'.cell? ⟨gb303, 2, none⟩ = some (.bool a4_2) := (blk_cell BK303.out 2).trans rfl
                  refine value_ (w1 := w') (v := .agg #[.string a4_0, .string a4_1, .bool a4_2]) (by rfl) rfl ?_ ?_
                  · go_simp
                    (try simp only [i64_w])
                    try rfl
                  refine hK.out _ _ ⟨v320, v323, v326, v329, m12_, (by rw [ha.out]; exact putSel_upk 4 hb_ rfl rfl rfl), Q_HO309, Q_HO312, Q_HO315, Q_HO318, Q_BK302, Q_BK303, Q_HB, Q_HO321, Q_HO324, fun h0_ => absurd ((hoff 10 (by kernel_rfl)).symm.trans h0_) (by decide), fun h0_ => absurd ((hoff 11 (by kernel_rfl)).symm.trans h0_) (by decide), fun h0_ => absurd ((hoff 12 (by kernel_rfl)).symm.trans h0_) (by decide)⟩
                refine steps_cons ?_ ?_
                · rintro b a w' ⟨v320, v323, v326, v329, m12_, ha, Q_HO309, Q_HO312, Q_HO315, Q_HO318, Q_BK302, Q_BK303, Q_HB, Q_HO321, Q_HO324, Q_HO327, Q_HO330, Q_X12_⟩ hb_ hon hoff
                  refine ⟨_, rfl, fun K hK => ?_⟩
                  have e46 : a.tmps[46]? = some (.agg #[.string a4_0, .string a4_1, .bool a4_2]) := by rw [ha]; exact putSel_on (e := (9, 46, .agg #[.string a4_0, .string a4_1, .bool a4_2])) 4 rfl rfl (hon 9 (by kernel_rfl)) rfl
                  replace ha := Aside0.mk ha
                  have HO309 := Aside0.mk Q_HO309
                  have HO312 := Aside0.mk Q_HO312
                  have HO315 := Aside0.mk Q_HO315
                  have HO318 := Aside0.mk Q_HO318
                  have BK302 := Aside0.mk Q_BK302
                  have BK303 := Aside0.mk Q_BK303
                  have HB := Aside0.mk Q_HB
                  refine Kd.R_lit_step k35 _ 35 ?hg (N := 47) ?hd (xs := ([(⟨a4_0, a4_1, a4_2⟩ : S35)] : List (S35))) (inner := [.string a4_0, .string a4_1, .bool a4_2]) (ok := fun _ => True) (okp := fun _ => True) ?hr ?hp (fun _ hk => hk) trivial (Below.refl _ _) (Nat.le_refl _) (by simp) ?_; (case hd => rfl); (case hg => rfl); (case hr => first | (go_simp; done) | (go_simp; rfl)); (case hp => exact (Reps.c3 (show Kd.M k35 _ _ _ (⟨a4_0, a4_1, a4_2⟩ : S35) [.string a4_0, .string a4_1, .bool a4_2] from (k35_mkM _ _ _ (⟨a4_0, a4_1, a4_2⟩ : S35) )) (Reps.none _ _)))
                  intro v326 w43 ho44 hb hg_ hnew_
                  clear hg_ hnew_
                  (first | rw [← Ny325.out] at ho44 | (simp only [Int.reduceToNat] at ho44; rw [← Ny325.out] at ho44))
                  have n0_ := Aside0.mk (Kd.R_elder' (by (with_reducible repeat (first | apply Kd.R_alloc | apply Kd.R_drewN | apply Kd.R_drew)); exact HO309.out) (Kd.R_base ho44) hb)
                  have n1_ := Aside0.mk (Kd.R_below (by (with_reducible repeat (first | apply Kd.R_alloc | apply Kd.R_drewN | apply Kd.R_drew)); exact HO312.out) hb)
                  have n2_ := Aside0.mk (Kd.R_elder' (by (with_reducible repeat (first | apply Kd.R_alloc | apply Kd.R_drewN | apply Kd.R_drew)); exact HO315.out) (Kd.R_base ho44) hb)
                  have n3_ := Aside0.mk (Kd.R_below (by (with_reducible repeat (first | apply Kd.R_alloc | apply Kd.R_drewN | apply Kd.R_drew)); exact HO318.out) hb)
                  have n4_ := Aside0.mk (Kd.R_lower (Kd.R_newB (Kd.R_newB (Kd.R_new' (Kd.R_new' ho44 (Kd.R_lt (by (with_reducible repeat (first | apply Kd.R_alloc | apply Kd.R_drewN | apply Kd.R_drew)); exact HO309.out))) (Kd.R_lt (by (with_reducible repeat (first | apply Kd.R_alloc | apply Kd.R_drewN | apply Kd.R_drew)); exact HO315.out))) (g := gb302) (o := .cells #[.string a3_0, .string a3_1, .bool a3_2] 35 (0, 0)) (by (with_reducible repeat (first | refine blk_drewN ?_ _ | refine blk_drew ?_ | refine blk_alloc ?_ _)); exact BK302.out)) (g := gb303) (o := .cells #[.string a4_0, .string a4_1, .bool a4_2] 35 (0, 0)) (by (with_reducible repeat (first | refine blk_drewN ?_ _ | refine blk_drew ?_ | refine blk_alloc ?_ _)); exact BK303.out)) (below_size (by repeat (first | (with_reducible first | exact HB.out | apply below_alloc | apply pw_below_drewN | apply below_drew1 | refine below_set ?_ GE302.out | refine below_set ?_ GE303.out) | exact HB.out))))
                  have n5_ := Aside0.mk (blk_below (g := gb302) (o := .cells #[.string a3_0, .string a3_1, .bool a3_2] 35 (0, 0)) (by (with_reducible repeat (first | refine blk_drewN ?_ _ | refine blk_drew ?_ | refine blk_alloc ?_ _)); exact BK302.out) hb)
                  have n6_ := Aside0.mk (blk_below (g := gb303) (o := .cells #[.string a4_0, .string a4_1, .bool a4_2] 35 (0, 0)) (by (with_reducible repeat (first | refine blk_drewN ?_ _ | refine blk_drew ?_ | refine blk_alloc ?_ _)); exact BK303.out) hb)
                  have n7_ := Aside0.mk (below_step (by repeat (first | (with_reducible first | exact HB.out | apply below_alloc | apply pw_below_drewN | apply below_drew1 | refine below_set ?_ GE302.out | refine below_set ?_ GE303.out) | exact HB.out)) hb)
                  have z_HO321 := fun (h0_ : b 5 = true) => (show Kd.R k35 35 w43 w.heap.size (fun k_ => some k_ ≠ (.slice Ao34 y307.length co34 : Value).ownBlock ∧ some k_ ≠ (.slice Ao40 y313.length co40 : Value).ownBlock ∧ k_ ≠ gb302 ∧ k_ ≠ gb303) v320 y319 from by first | exact (Kd.R_elder' (by (with_reducible repeat (first | apply Kd.R_alloc | apply Kd.R_drewN | apply Kd.R_drew)); exact (Q_HO321 h0_)) (Kd.R_base ho44) hb) | exact Kd.R_mono (Kd.R_elder' (by (with_reducible repeat (first | apply Kd.R_alloc | apply Kd.R_drewN | apply Kd.R_drew)); exact (Q_HO321 h0_)) (Kd.R_base ho44) hb) (fun _ h_ => by first | trivial | exact h_ | exact h_.1))
                  have z_HO324 := fun (h0_ : b 6 = true) => (show Kd.R k30 30 w43 w.heap.size (fun k_ => some k_ ≠ (v311 : Value).ownBlock ∧ some k_ ≠ (v317 : Value).ownBlock) v323 t322 from by first | exact (Kd.R_below (by (with_reducible repeat (first | apply Kd.R_alloc | apply Kd.R_drewN | apply Kd.R_drew)); exact (Q_HO324 h0_)) hb) | exact Kd.R_mono (Kd.R_below (by (with_reducible repeat (first | apply Kd.R_alloc | apply Kd.R_drewN | apply Kd.R_drew)); exact (Q_HO324 h0_)) hb) (fun _ h_ => by first | trivial | exact h_ | exact h_.1))
                  clear HO309
                  clear HO312
                  clear HO315
                  clear HO318
                  clear BK302
                  clear BK303
                  clear HB
                  have HO309 := n0_
                  have HO312 := n1_
                  have HO315 := n2_
                  have HO318 := n3_
                  have HO327 := n4_
                  have BK302 := n5_
                  have BK303 := n6_
                  have HB := n7_
                  clear n0_ n1_ n2_ n3_ n4_ n5_ n6_ n7_
                  clear hb ho44
                  refine hK.out _ _ ⟨v320, v323, v326, v329, m12_, (by rw [ha.out]; exact putSel_upk 5 hb_ rfl rfl rfl), (by (with_reducible repeat (first | apply Kd.R_alloc | apply Kd.R_drewN | apply Kd.R_drew)); exact Kd.R_mono HO309.out (fun _ hk => by first | exact ⟨hk.1.2, ⟨hk.2, ⟨hk.1.1.1.2, hk.1.1.2⟩⟩⟩ | grind)), (by (with_reducible repeat (first | apply Kd.R_alloc | apply Kd.R_drewN | apply Kd.R_drew)); exact Kd.R_mono HO312.out (fun _ hk => by first | exact hk.2 | grind)), (by (with_reducible repeat (first | apply Kd.R_alloc | apply Kd.R_drewN | apply Kd.R_drew)); exact Kd.R_mono HO315.out (fun _ hk => by first | exact ⟨hk.1.1.1.2, ⟨hk.2, ⟨hk.1.1.2, hk.1.2⟩⟩⟩ | grind)), (by (with_reducible repeat (first | apply Kd.R_alloc | apply Kd.R_drewN | apply Kd.R_drew)); exact Kd.R_mono HO318.out (fun _ hk => by first | exact hk.2 | grind)), (by (with_reducible repeat (first | refine blk_drewN ?_ _ | refine blk_drew ?_ | refine blk_alloc ?_ _)); exact BK302.out), (by (with_reducible repeat (first | refine blk_drewN ?_ _ | refine blk_drew ?_ | refine blk_alloc ?_ _)); exact BK303.out), (by repeat (first | (with_reducible first | exact HB.out | apply below_alloc | apply pw_below_drewN | apply below_drew1 | refine below_set ?_ GE302.out | refine below_set ?_ GE303.out) | exact HB.out)), z_HO321, z_HO324, fun _ => (by (with_reducible repeat (first | apply Kd.R_alloc | apply Kd.R_drewN | apply Kd.R_drew)); exact Kd.R_mono HO327.out (fun _ hk => by first | exact ⟨hk.1.1.1.2, ⟨hk.1.1.2, ⟨hk.1.2, hk.2⟩⟩⟩ | grind)), fun h0_ => absurd ((hoff 11 (by kernel_rfl)).symm.trans h0_) (by decide), fun h0_ => absurd ((hoff 12 (by kernel_rfl)).symm.trans h0_) (by decide)⟩
                refine steps_cons ?_ ?_
                · rintro b a w' ⟨v320, v323, v326, v329, m12_, ha, Q_HO309, Q_HO312, Q_HO315, Q_HO318, Q_BK302, Q_BK303, Q_HB, Q_HO321, Q_HO324, Q_HO327, Q_HO330, Q_X12_⟩ hb_ hon hoff
                  refine ⟨_, rfl, fun K hK => ?_⟩
                  have e43 : a.tmps[43]? = some (v323) := by rw [ha]; exact putSel_on (e := (6, 43, v323)) 3 rfl rfl (hon 6 (by kernel_rfl)) rfl
                  have e44 : a.tmps[44]? = some (.int .i64 a1) := by rw [ha]; exact (putSel_off rfl).trans rfl
                  have e45 : a.tmps[45]? = some (.int .i64 a2) := by rw [ha]; exact (putSel_off rfl).trans rfl
                  have e47 : a.tmps[47]? = some (v326) := by rw [ha]; exact putSel_on (e := (10, 47, v326)) 5 rfl rfl (hon 10 (by kernel_rfl)) rfl
                  replace ha := Aside0.mk ha
                  have HO309 := Aside0.mk Q_HO309
                  have HO312 := Aside0.mk Q_HO312
                  have HO315 := Aside0.mk Q_HO315
                  have HO318 := Aside0.mk Q_HO318
                  have BK302 := Aside0.mk Q_BK302
                  have BK303 := Aside0.mk Q_BK303
                  have HB := Aside0.mk Q_HB
                  have HO321 := Aside0.mk (Q_HO321 (hon 5 (by kernel_rfl)))
                  have HO324 := Aside0.mk (Q_HO324 (hon 6 (by kernel_rfl)))
                  have HO327 := Aside0.mk (Q_HO327 (hon 10 (by kernel_rfl)))
                  obtain ⟨Ao50, co50, eo50⟩ := Kd.R_slice HO324.out
                  (first | subst eo50 | (injection eo50 with f1_ f2_ f3_; have f4_ := f1_.symm; have f5_ := f3_.symm; clear f1_ f2_ f3_; subst f4_; subst f5_))
                  obtain ⟨Ao51, co51, eo51⟩ := Kd.R_slice HO327.out
                  (first | subst eo51 | (injection eo51 with f1_ f2_ f3_; have f4_ := f1_.symm; have f5_ := f3_.symm; clear f1_ f2_ f3_; subst f4_; subst f5_))
                  refine goes_ Try.func11 (by kernel_rfl) rfl #[.slice Ao50 t322.length co50, .int .i64 a1, .int .i64 a2, .slice Ao51 y325.length co51] (by rfl) rfl rfl (by first | (simp only [List.map_toArray, List.map_cons, List.map_nil, Act.eval, Array.getD_eq_getD_getElem?, Option.getD_some, e43, e44, e45, e47]; done) | (simp only [List.map_toArray, List.map_cons, List.map_nil, Act.eval, Array.getD_eq_getD_getElem?, Option.getD_some, e43, e44, e45, e47]; rfl)) ?_
                  with_reducible refine (trail_Since.calls kj5 _ _ t322 a1 a2 _ _ y325 t328 _ ?side1 ?side2 ?side3 ?side4 A21.out).mono ?_
                  (case side1 => repeat (first | exact (Kd.R_reads' HO324.out).2.2 | (with_reducible refine Kd.C_alloc ?_ _) | (with_reducible refine Kd.C_drewN ?_ _) | (with_reducible refine Kd.C_drew ?_)))
                  (case side2 => exact (Kd.R_reads' HO324.out).2.1)
                  (case side3 => repeat (first | exact (Kd.R_reads' HO327.out).2.2 | (with_reducible refine Kd.C_alloc ?_ _) | (with_reducible refine Kd.C_drewN ?_ _) | (with_reducible refine Kd.C_drew ?_)))
                  (case side4 => exact (Kd.R_reads' HO327.out).2.1)
                  rintro e w52 ⟨v329, rfl, ho0, hb⟩
                  refine ⟨_, rfl, ?_⟩
                  have n0_ := Aside0.mk (Kd.R_below (by (with_reducible repeat (first | apply Kd.R_alloc | apply Kd.R_drewN | apply Kd.R_drew)); exact HO309.out) hb)
                  have n1_ := Aside0.mk (Kd.R_elder' (by (with_reducible repeat (first | apply Kd.R_alloc | apply Kd.R_drewN | apply Kd.R_drew)); exact HO312.out) (Kd.R_base ho0) hb)
                  have n2_ := Aside0.mk (Kd.R_below (by (with_reducible repeat (first | apply Kd.R_alloc | apply Kd.R_drewN | apply Kd.R_drew)); exact HO315.out) hb)
                  have n3_ := Aside0.mk (Kd.R_elder' (by (with_reducible repeat (first | apply Kd.R_alloc | apply Kd.R_drewN | apply Kd.R_drew)); exact HO318.out) (Kd.R_base ho0) hb)
                  have n4_ := Aside0.mk (Kd.R_below (by (with_reducible repeat (first | apply Kd.R_alloc | apply Kd.R_drewN | apply Kd.R_drew)); exact HO321.out) hb)
                  have n5_ := Aside0.mk (Kd.R_elder' (by (with_reducible repeat (first | apply Kd.R_alloc | apply Kd.R_drewN | apply Kd.R_drew)); exact HO324.out) (Kd.R_base ho0) hb)
                  have n6_ := Aside0.mk (Kd.R_below (by (with_reducible repeat (first | apply Kd.R_alloc | apply Kd.R_drewN | apply Kd.R_drew)); exact HO327.out) hb)
                  have n7_ := Aside0.mk (Kd.R_lower (Kd.R_new' (Kd.R_new' (Kd.R_new' ho0 (Kd.R_lt (by (with_reducible repeat (first | apply Kd.R_alloc | apply Kd.R_drewN | apply Kd.R_drew)); exact HO312.out))) (Kd.R_lt (by (with_reducible repeat (first | apply Kd.R_alloc | apply Kd.R_drewN | apply Kd.R_drew)); exact HO318.out))) (Kd.R_lt (by (with_reducible repeat (first | apply Kd.R_alloc | apply Kd.R_drewN | apply Kd.R_drew)); exact HO324.out))) (below_size (by repeat (first | (with_reducible first | exact HB.out | apply below_alloc | apply pw_below_drewN | apply below_drew1 | refine below_set ?_ GE302.out | refine below_set ?_ GE303.out) | exact HB.out))))
                  have n8_ := Aside0.mk (blk_below (g := gb302) (o := .cells #[.string a3_0, .string a3_1, .bool a3_2] 35 (0, 0)) (by (with_reducible repeat (first | refine blk_drewN ?_ _ | refine blk_drew ?_ | refine blk_alloc ?_ _)); exact BK302.out) hb)
                  have n9_ := Aside0.mk (blk_below (g := gb303) (o := .cells #[.string a4_0, .string a4_1, .bool a4_2] 35 (0, 0)) (by (with_reducible repeat (first | refine blk_drewN ?_ _ | refine blk_drew ?_ | refine blk_alloc ?_ _)); exact BK303.out) hb)
                  have n10_ := Aside0.mk (below_step (by repeat (first | (with_reducible first | exact HB.out | apply below_alloc | apply pw_below_drewN | apply below_drew1 | refine below_set ?_ GE302.out | refine below_set ?_ GE303.out) | exact HB.out)) hb)
                  clear HO309
                  clear HO312
                  clear HO315
                  clear HO318
                  clear HO321
                  clear HO324
                  clear HO327
                  clear BK302
                  clear BK303
                  clear HB
                  have HO309 := n0_
                  have HO312 := n1_
                  have HO315 := n2_
                  have HO318 := n3_
                  have HO321 := n4_
                  have HO324 := n5_
                  have HO327 := n6_
                  have HO330 := n7_
                  have BK302 := n8_
                  have BK303 := n9_
                  have HB := n10_
                  clear n0_ n1_ n2_ n3_ n4_ n5_ n6_ n7_ n8_ n9_ n10_
                  (try clear hb)
                  (try clear hb2)
                  (try clear hk)
                  (try clear hi)
                  (try clear ho0)
                  refine hK.out _ _ ⟨v320, .slice Ao50 t322.length co50, .slice Ao51 y325.length co51, v329, m12_, (by rw [ha.out]; exact putSel_upk 6 hb_ rfl rfl rfl), (by (with_reducible repeat (first | apply Kd.R_alloc | apply Kd.R_drewN | apply Kd.R_drew)); first | exact HO309.out | exact Kd.R_mono HO309.out (fun _ hk => by grind)), (by (with_reducible repeat (first | apply Kd.R_alloc | apply Kd.R_drewN | apply Kd.R_drew)); exact Kd.R_mono HO312.out (fun _ hk => by first | exact ⟨hk.1.1, ⟨hk.1.2, hk.2⟩⟩ | grind)), (by (with_reducible repeat (first | apply Kd.R_alloc | apply Kd.R_drewN | apply Kd.R_drew)); first | exact HO315.out | exact Kd.R_mono HO315.out (fun _ hk => by grind)), (by (with_reducible repeat (first | apply Kd.R_alloc | apply Kd.R_drewN | apply Kd.R_drew)); exact Kd.R_mono HO318.out (fun _ hk => by first | exact ⟨hk.1.1, ⟨hk.1.2, hk.2⟩⟩ | grind)), (by (with_reducible repeat (first | refine blk_drewN ?_ _ | refine blk_drew ?_ | refine blk_alloc ?_ _)); exact BK302.out), (by (with_reducible repeat (first | refine blk_drewN ?_ _ | refine blk_drew ?_ | refine blk_alloc ?_ _)); exact BK303.out), (by repeat (first | (with_reducible first | exact HB.out | apply below_alloc | apply pw_below_drewN | apply below_drew1 | refine below_set ?_ GE302.out | refine below_set ?_ GE303.out) | exact HB.out)), fun _ => (by (with_reducible repeat (first | apply Kd.R_alloc | apply Kd.R_drewN | apply Kd.R_drew)); first | exact HO321.out | exact Kd.R_mono HO321.out (fun _ hk => by grind)), fun _ => (by (with_reducible repeat (first | apply Kd.R_alloc | apply Kd.R_drewN | apply Kd.R_drew)); exact Kd.R_mono HO324.out (fun _ hk => by first | exact ⟨hk.1.1, ⟨hk.1.2, hk.2⟩⟩ | grind)), fun _ => (by (with_reducible repeat (first | apply Kd.R_alloc | apply Kd.R_drewN | apply Kd.R_drew)); first | exact HO327.out | exact Kd.R_mono HO327.out (fun _ hk => by grind)), fun _ => (by (with_reducible repeat (first | apply Kd.R_alloc | apply Kd.R_drewN | apply Kd.R_drew)); exact Kd.R_mono HO330.out (fun _ hk => by first | exact ⟨hk.1.1.2, ⟨hk.1.2, hk.2⟩⟩ | grind)), fun h0_ => absurd ((hoff 12 (by kernel_rfl)).symm.trans h0_) (by decide)⟩
                refine steps_cons ?_ ?_
                · rintro b a w' ⟨v320, v323, v326, v329, m12_, ha, Q_HO309, Q_HO312, Q_HO315, Q_HO318, Q_BK302, Q_BK303, Q_HB, Q_HO321, Q_HO324, Q_HO327, Q_HO330, Q_X12_⟩ hb_ hon hoff
                  refine ⟨_, rfl, fun K hK => ?_⟩
                  have e48 : a.tmps[48]? = some (v329) := by rw [ha]; exact putSel_on (e := (11, 48, v329)) 6 rfl rfl (hon 11 (by kernel_rfl)) rfl
                  replace ha := Aside0.mk ha
                  have HO309 := Aside0.mk Q_HO309
                  have HO312 := Aside0.mk Q_HO312
                  have HO315 := Aside0.mk Q_HO315
                  have HO318 := Aside0.mk Q_HO318
                  have BK302 := Aside0.mk Q_BK302
                  have BK303 := Aside0.mk Q_BK303
                  have HB := Aside0.mk Q_HB
                  have HO321 := Aside0.mk (Q_HO321 (hon 5 (by kernel_rfl)))
                  have HO324 := Aside0.mk (Q_HO324 (hon 6 (by kernel_rfl)))
                  have HO327 := Aside0.mk (Q_HO327 (hon 10 (by kernel_rfl)))
                  have HO330 := Aside0.mk (Q_HO330 (hon 11 (by kernel_rfl)))
                  refine value_ (w1 := w') (v := v329) (by rfl) rfl ?_ ?_
                  · go_simp
                    (try simp only [i64_w])
                    try rfl
                  refine hK.out _ _ ⟨v320, v323, v326, v329, (v329), (by rw [ha.out]; exact putSel_upk 7 hb_ rfl rfl rfl), Q_HO309, Q_HO312, Q_HO315, Q_HO318, Q_BK302, Q_BK303, Q_HB, Q_HO321, Q_HO324, Q_HO327, Q_HO330, fun _ => rfl⟩
                exact steps_nil
              rintro b a w52 hall ⟨v320, v323, v326, v329, m12_, ha, Q_HO309, Q_HO312, Q_HO315, Q_HO318, Q_BK302, Q_BK303, Q_HB, Q_HO321, Q_HO324, Q_HO327, Q_HO330, Q_X12_⟩
              clear BK302 BK303 HB HO309 HO312 HO315 HO318
              have hb3_ := hall 3 (by kernel_rfl)
              have hb4_ := hall 4 (by kernel_rfl)
              have hb5_ := hall 5 (by kernel_rfl)
              have hb6_ := hall 6 (by kernel_rfl)
              have hb9_ := hall 9 (by kernel_rfl)
              have hb10_ := hall 10 (by kernel_rfl)
              have hb11_ := hall 11 (by kernel_rfl)
              have hb12_ := hall 12 (by kernel_rfl)
              subst ha
              obtain rfl := Q_X12_ hb12_
              simp only [putSel, hb3_, hb4_, hb5_, hb6_, hb9_, hb10_, hb11_, hb12_, if_true, Act.put, List.setIfInBounds_toArray, List.set_cons_zero, List.set_cons_succ]
              have HO309 := Aside0.mk Q_HO309
              clear Q_HO309
              have HO312 := Aside0.mk Q_HO312
              clear Q_HO312
              have HO315 := Aside0.mk Q_HO315
              clear Q_HO315
              have HO318 := Aside0.mk Q_HO318
              clear Q_HO318
              have BK302 := Aside0.mk Q_BK302
              clear Q_BK302
              have BK303 := Aside0.mk Q_BK303
              clear Q_BK303
              have HB := Aside0.mk Q_HB
              clear Q_HB
              have HO321 := Aside0.mk (Q_HO321 hb5_)
              clear Q_HO321
              have HO324 := Aside0.mk (Q_HO324 hb6_)
              clear Q_HO324
              have HO327 := Aside0.mk (Q_HO327 hb10_)
              clear Q_HO327
              have HO330 := Aside0.mk (Q_HO330 hb11_)
              clear Q_HO330
              clear hall hb3_ hb4_ hb5_ hb6_ hb9_ hb10_ hb11_ hb12_
              obtain ⟨Ao53, co53, eo53⟩ := Kd.R_slice HO312.out
              subst eo53
              obtain ⟨Ao54, co54, eo54⟩ := Kd.R_slice HO318.out
              subst eo54
              try go_wp2_with (first | ((with_reducible refine gate_callee (f := 17) rfl ?_); refine goesL_ (some 51) rfl rfl Try.func17 (by kernel_rfl) rfl #[.slice Ao53 t310.length co53, .slice Ao54 t316.length co54] rfl (by (try simp only [List.map_toArray, List.map_cons, List.map_nil]); first | done | rfl | (simp only [List.length_drop, List.length_take]; rfl)) ?_; (with_reducible refine (weirkeeperref13_Same.calls kj5 _ _ t310 _ _ t316 true _ ?side1 ?side2 ?side3 ?side4 A22.out).mono ?_); (case side1 => repeat (first | exact (Kd.R_reads' HO312.out).2.2 | (with_reducible refine Kd.C_alloc ?_ _) | (with_reducible refine Kd.C_drewN ?_ _) | (with_reducible refine Kd.C_drew ?_))); (case side2 => exact (Kd.R_reads' HO312.out).2.1); (case side3 => repeat (first | exact (Kd.R_reads' HO318.out).2.2 | (with_reducible refine Kd.C_alloc ?_ _) | (with_reducible refine Kd.C_drewN ?_ _) | (with_reducible refine Kd.C_drew ?_))); (case side4 => exact (Kd.R_reads' HO318.out).2.1); rintro e w' ⟨rfl, ⟨nd, rfl⟩⟩; refine ⟨_, rfl, ?_⟩; obtain ⟨Ao55, co55, eo55⟩ := Kd.R_slice HO330.out; subst eo55) | (go_at_call 17; (with_reducible refine (weirkeeperref13_Same.calls kj5 _ _ t310 _ _ t328 true _ ?side1 ?side2 ?side3 ?side4 A24.out).mono ?_); (case side1 => repeat (first | exact (Kd.R_reads' HO312.out).2.2 | (with_reducible refine Kd.C_alloc ?_ _) | (with_reducible refine Kd.C_drewN ?_ _) | (with_reducible refine Kd.C_drew ?_))); (case side2 => exact (Kd.R_reads' HO312.out).2.1); (case side3 => repeat (first | exact (Kd.R_reads' HO330.out).2.2 | (with_reducible refine Kd.C_alloc ?_ _) | (with_reducible refine Kd.C_drewN ?_ _) | (with_reducible refine Kd.C_drew ?_))); (case side4 => exact (Kd.R_reads' HO330.out).2.1); rintro e w' ⟨rfl, ⟨nd, rfl⟩⟩) | (go_at_call 15; (with_reducible refine (trail_Right.calls kj5 _ _ t310 true _ ?side1 ?side2 A26.out).mono ?_); (case side1 => repeat (first | exact (Kd.R_reads' HO312.out).2.2 | (with_reducible refine Kd.C_alloc ?_ _) | (with_reducible refine Kd.C_drewN ?_ _) | (with_reducible refine Kd.C_drew ?_))); (case side2 => exact (Kd.R_reads' HO312.out).2.1); rintro e w56 ⟨rfl, hb⟩; have n0_ := Aside0.mk (Kd.R_below (by (with_reducible repeat (first | apply Kd.R_alloc | apply Kd.R_drewN | apply Kd.R_drew)); exact HO309.out) hb); have n1_ := Aside0.mk (Kd.R_below (by (with_reducible repeat (first | apply Kd.R_alloc | apply Kd.R_drewN | apply Kd.R_drew)); exact HO312.out) hb); have n2_ := Aside0.mk (Kd.R_below (by (with_reducible repeat (first | apply Kd.R_alloc | apply Kd.R_drewN | apply Kd.R_drew)); exact HO315.out) hb); have n3_ := Aside0.mk (Kd.R_below (by (with_reducible repeat (first | apply Kd.R_alloc | apply Kd.R_drewN | apply Kd.R_drew)); exact HO318.out) hb); have n4_ := Aside0.mk (Kd.R_below (by (with_reducible repeat (first | apply Kd.R_alloc | apply Kd.R_drewN | apply Kd.R_drew)); exact HO321.out) hb); have n5_ := Aside0.mk (Kd.R_below (by (with_reducible repeat (first | apply Kd.R_alloc | apply Kd.R_drewN | apply Kd.R_drew)); exact HO324.out) hb); have n6_ := Aside0.mk (Kd.R_below (by (with_reducible repeat (first | apply Kd.R_alloc | apply Kd.R_drewN | apply Kd.R_drew)); exact HO327.out) hb); have n7_ := Aside0.mk (Kd.R_below (by (with_reducible repeat (first | apply Kd.R_alloc | apply Kd.R_drewN | apply Kd.R_drew)); exact HO330.out) hb); have n8_ := Aside0.mk (blk_below (g := gb302) (o := .cells #[.string a3_0, .string a3_1, .bool a3_2] 35 (0, 0)) (by (with_reducible repeat (first | refine blk_drewN ?_ _ | refine blk_drew ?_ | refine blk_alloc ?_ _)); exact BK302.out) hb); have n9_ := Aside0.mk (blk_below (g := gb303) (o := .cells #[.string a4_0, .string a4_1, .bool a4_2] 35 (0, 0)) (by (with_reducible repeat (first | refine blk_drewN ?_ _ | refine blk_drew ?_ | refine blk_alloc ?_ _)); exact BK303.out) hb); have n10_ := Aside0.mk (below_step (by repeat (first | (with_reducible first | exact HB.out | apply below_alloc | apply pw_below_drewN | apply below_drew1 | refine below_set ?_ GE302.out | refine below_set ?_ GE303.out) | exact HB.out)) hb); clear HO309; clear HO312; clear HO315; clear HO318; clear HO321; clear HO324; clear HO327; clear HO330; clear BK302; clear BK303; clear HB; have HO309 := n0_; have HO312 := n1_; have HO315 := n2_; have HO318 := n3_; have HO321 := n4_; have HO324 := n5_; have HO327 := n6_; have HO330 := n7_; have BK302 := n8_; have BK303 := n9_; have HB := n10_; clear n0_ n1_ n2_ n3_ n4_ n5_ n6_ n7_ n8_ n9_ n10_; (try clear hb); (try clear hb2); (try clear hk); (try clear hi)) | (go_at_call 10; (with_reducible refine (weirkeeperlaw16_awake.calls kj5  t334 _ A28.out).mono ?_); rintro e w57 ⟨rfl, hb⟩; have n0_ := Aside0.mk (Kd.R_below (by (with_reducible repeat (first | apply Kd.R_alloc | apply Kd.R_drewN | apply Kd.R_drew)); exact HO309.out) hb); have n1_ := Aside0.mk (Kd.R_below (by (with_reducible repeat (first | apply Kd.R_alloc | apply Kd.R_drewN | apply Kd.R_drew)); exact HO312.out) hb); have n2_ := Aside0.mk (Kd.R_below (by (with_reducible repeat (first | apply Kd.R_alloc | apply Kd.R_drewN | apply Kd.R_drew)); exact HO315.out) hb); have n3_ := Aside0.mk (Kd.R_below (by (with_reducible repeat (first | apply Kd.R_alloc | apply Kd.R_drewN | apply Kd.R_drew)); exact HO318.out) hb); have n4_ := Aside0.mk (Kd.R_below (by (with_reducible repeat (first | apply Kd.R_alloc | apply Kd.R_drewN | apply Kd.R_drew)); exact HO321.out) hb); have n5_ := Aside0.mk (Kd.R_below (by (with_reducible repeat (first | apply Kd.R_alloc | apply Kd.R_drewN | apply Kd.R_drew)); exact HO324.out) hb); have n6_ := Aside0.mk (Kd.R_below (by (with_reducible repeat (first | apply Kd.R_alloc | apply Kd.R_drewN | apply Kd.R_drew)); exact HO327.out) hb); have n7_ := Aside0.mk (Kd.R_below (by (with_reducible repeat (first | apply Kd.R_alloc | apply Kd.R_drewN | apply Kd.R_drew)); exact HO330.out) hb); have n8_ := Aside0.mk (blk_below (g := gb302) (o := .cells #[.string a3_0, .string a3_1, .bool a3_2] 35 (0, 0)) (by (with_reducible repeat (first | refine blk_drewN ?_ _ | refine blk_drew ?_ | refine blk_alloc ?_ _)); exact BK302.out) hb); have n9_ := Aside0.mk (blk_below (g := gb303) (o := .cells #[.string a4_0, .string a4_1, .bool a4_2] 35 (0, 0)) (by (with_reducible repeat (first | refine blk_drewN ?_ _ | refine blk_drew ?_ | refine blk_alloc ?_ _)); exact BK303.out) hb); have n10_ := Aside0.mk (below_step (by repeat (first | (with_reducible first | exact HB.out | apply below_alloc | apply pw_below_drewN | apply below_drew1 | refine below_set ?_ GE302.out | refine below_set ?_ GE303.out) | exact HB.out)) hb); clear HO309; clear HO312; clear HO315; clear HO318; clear HO321; clear HO324; clear HO327; clear HO330; clear BK302; clear BK303; clear HB; have HO309 := n0_; have HO312 := n1_; have HO315 := n2_; have HO318 := n3_; have HO321 := n4_; have HO324 := n5_; have HO327 := n6_; have HO330 := n7_; have BK302 := n8_; have BK303 := n9_; have HB := n10_; clear n0_ n1_ n2_ n3_ n4_ n5_ n6_ n7_ n8_ n9_ n10_; (try clear hb); (try clear hb2); (try clear hk); (try clear hi)))
              go_ret
              exact ⟨by first | rfl | (simp [errW_none, errW_some] <;> rfl) | (simp [*, errW_none, errW_some] <;> rfl), by repeat (first | (with_reducible first | exact HB.out | apply below_alloc | apply pw_below_drewN | apply below_drew1 | refine below_set ?_ GE302.out | refine below_set ?_ GE303.out) | exact HB.out)⟩
            · replace c27 := Bool.eq_false_iff.mpr c27
              subst c27
              have H1 : (none) = some r := by rw [if_neg (show ¬ (false = true) by decide)] at H; exact H
              clear H
              have H := H1
              clear H1
              exact absurd H (by simp)
          · replace c25 := Bool.eq_false_iff.mpr c25
            subst c25
            have H1 : (none) = some r := by rw [if_neg (show ¬ (false = true) by decide)] at H; exact H
            clear H
            have H := H1
            clear H1
            exact absurd H (by simp)
        · replace c23 := Bool.eq_false_iff.mpr c23
          subst c23
          have H1 : (none) = some r := by rw [if_neg (show ¬ (false = true) by decide)] at H; exact H
          clear H
          have H := H1
          clear H1
          exact absurd H (by simp)

end Go.Proofs.Ytldccimehioakaa.X
