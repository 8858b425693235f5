-- Written by a program of this session (wip/tools/xprint.py) out of the translation. Not trusted: Lean checks it.
import Derived.Test.YtgjngaeoojcioaaXx0
import Derived.Test.YtgjngaeoojcioaaXx14
import Derived.Test.YtgjngaeoojcioaaXx15
namespace Go.Proofs.Ytgjngaeoojcioaa.X
open Go.RowKit Go.Proofs.YtgjngaeoojcioaaW.PrintWords Go.Proofs.YtgjngaeoojcioaaW.PrintLast Go.Proofs.YtgjngaeoojcioaaW.PrintMore
attribute [local go_sem] max2_int min2_int max_two min_two max_three min_three max_four min_four max2_str min2_str   -- for this text's walks alone
set_option linter.unusedVariables false
set_option linter.unusedSimpArgs false

/-! ### weirkeeperref14_Get: function 11 -/
mutual
def weirkeeperref14_Get.l0 : Nat → Int → Bool → Int → Int → List (S33) → Option (Int × (List (S33)) × Int × ByteArray × Bool × Bool)
  | 0, _, _, _, _, _ => none
  | k + 1, x1, x7, x8, x213000, x213001 => if x8 < (x213001.length : Int) then (weirkeeperref14_Get.j1 k x1 x7 x8 x7 x213000 x213001) else (weirkeeperref14_Get.j1 k x1 x7 x8 false x213000 x213001)
def weirkeeperref14_Get.j1 : Nat → Int → Bool → Int → Bool → Int → List (S33) → Option (Int × (List (S33)) × Int × ByteArray × Bool × Bool)
  | 0, _, _, _, _, _, _ => none
  | k + 1, x1, x7, x8, x18, x213000, x213001 => if x18 = true then (if 0 ≤ x8 then (if x8 < (x213001.length : Int) then (if ((rd_T33 x213001 x8).f0) = x1 then ((weirkeeperref14_first.f k x213001 ((rd_T33 x213001 x8).f0) ((rd_T33 x213001 x8).f1) ((rd_T33 x213001 x8).f2)).bind fun t218 => (some (x213000, t218, (rd_T33 x213001 x8).f0, (rd_T33 x213001 x8).f1, (rd_T33 x213001 x8).f2, true))) else (weirkeeperref14_Get.l0 k x1 x7 (wrap64 (x8 + 1)) x213000 x213001)) else (none)) else (none)) else (some (x213000, x213001, 0, (⟨#[]⟩ : ByteArray), false, false))
end
def weirkeeperref14_Get.f (k : Nat) (a0_0 : Int) (l0_1 : List (S33)) (a1 : Int) : Option (Int × (List (S33)) × Int × ByteArray × Bool × Bool) := (weirkeeperref14_Right.f k a0_0 l0_1).bind fun t215 => (weirkeeperref14_Get.l0 k a1 t215 0 a0_0 l0_1)
theorem weirkeeperref14_Get.mono_l : ∀ k, (∀ y0 y1 y2 y3 y4, LeO (weirkeeperref14_Get.l0 k y0 y1 y2 y3 y4) (weirkeeperref14_Get.l0 (k + 1) y0 y1 y2 y3 y4)) ∧ (∀ y0 y1 y2 y3 y4 y5, LeO (weirkeeperref14_Get.j1 k y0 y1 y2 y3 y4 y5) (weirkeeperref14_Get.j1 (k + 1) y0 y1 y2 y3 y4 y5))
  | 0 => ⟨fun _ _ _ _ _ r h => by simp [weirkeeperref14_Get.l0] at h, fun _ _ _ _ _ _ r h => by simp [weirkeeperref14_Get.j1] at h⟩
  | k + 1 => by
    obtain ⟨ih0, ih1⟩ := weirkeeperref14_Get.mono_l k
    refine ⟨?_, ?_⟩
    · intro y0 y1 y2 y3 y4
      unfold weirkeeperref14_Get.l0
      repeat' first
      | (with_reducible exact ih0 _ _ _ _ _)
      | (with_reducible exact ih1 _ _ _ _ _ _)
      | (with_reducible exact weirkeeperref14_Right.mono _ _ _)
      | (with_reducible exact weirkeeperref14_first.mono _ _ _ _ _)
      | (with_reducible exact LeO.refl _)
      | (with_reducible exact LeO.none _)
      | (with_reducible refine LeO.ite ?_ ?_)
      | (with_reducible refine LeO.bind ?_ (fun _ => ?_))
      | exact ih0 _ _ _ _ _
      | exact ih1 _ _ _ _ _ _
      | exact weirkeeperref14_Right.mono _ _ _
      | exact weirkeeperref14_first.mono _ _ _ _ _
      | exact LeO.none _
      | refine LeO.ite ?_ ?_
      | refine LeO.bind ?_ (fun _ => ?_)
    · intro y0 y1 y2 y3 y4 y5
      unfold weirkeeperref14_Get.j1
      repeat' first
      | (with_reducible exact ih0 _ _ _ _ _)
      | (with_reducible exact ih1 _ _ _ _ _ _)
      | (with_reducible exact weirkeeperref14_Right.mono _ _ _)
      | (with_reducible exact weirkeeperref14_first.mono _ _ _ _ _)
      | (with_reducible exact LeO.refl _)
      | (with_reducible exact LeO.none _)
      | (with_reducible refine LeO.ite ?_ ?_)
      | (with_reducible refine LeO.bind ?_ (fun _ => ?_))
      | exact ih0 _ _ _ _ _
      | exact ih1 _ _ _ _ _ _
      | exact weirkeeperref14_Right.mono _ _ _
      | exact weirkeeperref14_first.mono _ _ _ _ _
      | exact LeO.none _
      | refine LeO.ite ?_ ?_
      | refine LeO.bind ?_ (fun _ => ?_)
theorem weirkeeperref14_Get.mono : ∀ a0 a1 a2 k, LeO (weirkeeperref14_Get.f k a0 a1 a2) (weirkeeperref14_Get.f (k + 1) a0 a1 a2) := by
  intro a0 a1 a2 k
  obtain ⟨ih0, ih1⟩ := weirkeeperref14_Get.mono_l k
  unfold weirkeeperref14_Get.f
  repeat' first
      | (with_reducible exact ih0 _ _ _ _ _)
      | (with_reducible exact ih1 _ _ _ _ _ _)
      | (with_reducible exact weirkeeperref14_Right.mono _ _ _)
      | (with_reducible exact weirkeeperref14_first.mono _ _ _ _ _)
      | (with_reducible exact LeO.refl _)
      | (with_reducible exact LeO.none _)
      | (with_reducible refine LeO.ite ?_ ?_)
      | (with_reducible refine LeO.bind ?_ (fun _ => ?_))
      | exact ih0 _ _ _ _ _
      | exact ih1 _ _ _ _ _ _
      | exact weirkeeperref14_Right.mono _ _ _
      | exact weirkeeperref14_first.mono _ _ _ _ _
      | exact LeO.none _
      | refine LeO.ite ?_ ?_
      | refine LeO.bind ?_ (fun _ => ?_)
def weirkeeperref14_Get.T6 : Bool × List (List Nat × List Nat) := (true, [([], []), ([0], [0]), ([], []), ([2], [2]), ([], []), ([4], [4]), ([], []), ([5, 6], [5, 6]), ([7], [7]), ([3, 8], [3, 8]), ([1, 9], [1, 9]), ([], []), ([11], [11]), ([], []), ([12, 13], [12, 13]), ([14], [14]), ([10, 9, 0, 1, 2, 3, 4, 5, 6, 7, 8, 9, 10], [10]), ([15, 16, 0, 1, 2, 3, 4, 5, 6, 7, 8, 9, 10, 11, 12, 13, 14, 15, 16], [15]), ([17, 0, 1, 2, 3, 4, 5, 6, 7, 8, 9, 10, 11, 12, 13, 14, 15, 16, 17], [])])
def weirkeeperref14_Get.B6 : List Nat := [0, 1, 0, 4, 0, 16, 0, 112, 240, 508, 1023, 0, 2048, 0, 14336, 30720, 2047, 131071, 262143]
theorem weirkeeperref14_Get.tab6 : rtab .any (opsOf Try.f11 6) = weirkeeperref14_Get.T6 := by kernel_rfl
theorem weirkeeperref14_Get.bits6 : waitsOk weirkeeperref14_Get.T6.2 weirkeeperref14_Get.B6 = true := by kernel_rfl
set_option maxHeartbeats 8000000 in
set_option maxRecDepth 100000 in
theorem weirkeeperref14_Get.calls (k : Nat) (a0_0 : Int) (P0_1_ : Nat → Prop) (A0_1 : Option Addr) (c0_1 : Nat) (l0_1 : List (S33)) (a1 : Int) (r1 : Int) (r2 : List (S33)) (r3 : Int) (r4 : ByteArray) (r5 : Bool) (r6 : Bool) (w : World) (hs0_1 : Kd.V k33 33 w w.heap.size (fun k_ => P0_1_ k_) (.slice A0_1 l0_1.length c0_1) l0_1) (h : weirkeeperref14_Get.f k a0_0 l0_1 a1 = some (r1, r2, r3, r4, r5, r6)) :
    Calls Try.prog 11 #[.agg #[.int .i64 a0_0, .slice A0_1 l0_1.length c0_1], .int .i64 a1] w fun e w' => ∃ v1_ : Value, e = .returned (.tuple #[.agg #[.int .i64 r1, v1_], .agg #[.int .i64 r3, .string r4, .bool r5], .bool r6]) ∧ Kd.V k33 33 w' w.heap.size (fun k_ => (P0_1_ k_ ∨ w.heap.size ≤ k_)) v1_ r2 ∧ Below w.heap.size w w' := by
  have hu32 := Try.underlying32
  have hu33 := Try.underlying33
  have HO0_1 := Aside0.mk (show Kd.V k33 33 w w.heap.size (fun k_ => (P0_1_ k_ ∨ w.heap.size ≤ k_)) (.slice A0_1 l0_1.length c0_1) l0_1 from Kd.V_mono hs0_1 (fun k_ hk => .inl hk))
  have HB := Aside0.mk (Below.refl w.heap.size w)
  have H : ((weirkeeperref14_Right.f k a0_0 l0_1).bind fun t215 => (weirkeeperref14_Get.l0 k a1 t215 0 a0_0 l0_1)) = some (r1, r2, r3, r4, r5, r6) := h
  clear h
  replace H := Option.bind_eq_some_iff.mp H
  obtain ⟨t215, A30, H⟩ := H
  replace H : (weirkeeperref14_Get.l0 k a1 t215 0 a0_0 l0_1) = some (r1, r2, r3, r4, r5, r6) := H
  have A3 := Aside0.mk A30
  clear A30
  have H' := Aside0.mk H
  clear H
  go_enter Try.func11, Try.ntmps11
  go_wp2_with (first | ((with_reducible refine gate_dst (N := 2) rfl ?_); refine box_event ?hg (N := 2) ?hd (cs := #[.int .i64 a0_0, .slice A0_1 l0_1.length c0_1]) (t := 32) ?hr ?_; (case hd => rfl); (case hg => rfl); (case hr => first | (go_simp; done) | (go_simp; rfl)); intro gb212 hg w4 hbox hb; have n0_ := Aside0.mk (Kd.V_below (Kd.V_elderB (by (with_reducible repeat (first | apply Kd.V_alloc | apply Kd.V_drewN | apply Kd.V_drew)); exact HO0_1.out) gb212 (Nat.le_of_eq hg.symm)) hb); have n1_ := Aside0.mk (below_step (by repeat (first | (with_reducible first | exact HB.out | apply below_alloc | apply pw_below_drewN | apply below_drew1) | exact HB.out)) hb); have n2_ := Aside0.mk (hbox); have n3_ := Aside0.mk ((by rw [hg]; exact (below_size (by repeat (first | (with_reducible first | exact HB.out | apply below_alloc | apply pw_below_drewN | apply below_drew1) | exact HB.out))) : w.heap.size ≤ gb212)); have n4_ := Aside0.mk ((by rw [hg]; exact (below_size (by repeat (first | (with_reducible first | exact HB.out | apply below_alloc | apply pw_below_drewN | apply below_drew1) | exact HB.out))) : w.heap.size ≤ gb212)); clear HO0_1; clear HB; have HO0_1 := n0_; have HB := n1_; have BK212 := n2_; have GW212 := n3_; have GE212 := n4_; clear n0_ n1_ n2_ n3_ n4_; clear hb hbox hg) | ((with_reducible refine gate_dst (N := 4) rfl ?_); refine box_event ?hg (N := 4) ?hd (cs := #[.int .i64 0, .slice none 0 0]) (t := 32) ?hr ?_; (case hd => rfl); (case hg => rfl); (case hr => first | (go_simp; done) | (go_simp; rfl)); intro gb213 hg w5 hbox hb; have n0_ := Aside0.mk (Kd.V_below (Kd.V_elderB (by (with_reducible repeat (first | apply Kd.V_alloc | apply Kd.V_drewN | apply Kd.V_drew)); exact HO0_1.out) gb213 (Nat.le_of_eq hg.symm)) hb); have n1_ := Aside0.mk (blk_below (g := gb212) (o := .cells #[.int .i64 a0_0, .slice A0_1 l0_1.length c0_1] 32 (0, 0)) (by (with_reducible repeat (first | refine blk_drewN ?_ _ | refine blk_drew ?_ | refine blk_alloc ?_ _)); exact BK212.out) hb); have n2_ := Aside0.mk (below_step (by repeat (first | (with_reducible first | exact HB.out | apply below_alloc | apply pw_below_drewN | apply below_drew1 | refine below_set ?_ GE212.out) | exact HB.out)) hb); have n3_ := Aside0.mk (hbox); have n4_ := Aside0.mk ((by rw [hg]; exact (below_size (by repeat (first | (with_reducible first | exact HB.out | apply below_alloc | apply pw_below_drewN | apply below_drew1 | refine below_set ?_ GE212.out) | exact HB.out))) : w.heap.size ≤ gb213)); have n5_ := Aside0.mk ((by rw [hg]; exact (below_size (by repeat (first | (with_reducible first | exact HB.out | apply below_alloc | apply pw_below_drewN | apply below_drew1 | refine below_set ?_ GE212.out) | exact HB.out))) : w.heap.size ≤ gb213)); have n6_ := Aside0.mk ((by rw [hg]; exact Nat.ne_of_lt (blk_lt (g := gb212) (o := .cells #[.int .i64 a0_0, .slice A0_1 l0_1.length c0_1] 32 (0, 0)) (by (with_reducible repeat (first | refine blk_drewN ?_ _ | refine blk_drew ?_ | refine blk_alloc ?_ _)); exact BK212.out)) : gb212 ≠ gb213)); have n7_ := Aside0.mk ((by rw [hg]; exact Nat.ne_of_gt (blk_lt (g := gb212) (o := .cells #[.int .i64 a0_0, .slice A0_1 l0_1.length c0_1] 32 (0, 0)) (by (with_reducible repeat (first | refine blk_drewN ?_ _ | refine blk_drew ?_ | refine blk_alloc ?_ _)); exact BK212.out)) : gb213 ≠ gb212)); clear HO0_1; clear BK212; clear HB; have HO0_1 := n0_; have BK212 := n1_; have HB := n2_; have BK213 := n3_; have GW213 := n4_; have GE213 := n5_; have NB212_213 := n6_; have NB213_212 := n7_; clear n0_ n1_ n2_ n3_ n4_ n5_ n6_ n7_; clear hb hbox hg) | ((with_reducible refine gate_dst (N := 5) rfl ?_); refine box_event ?hg (N := 5) ?hd (cs := #[.int .i64 0, .string (⟨#[]⟩ : ByteArray), .bool false]) (t := 33) ?hr ?_; (case hd => rfl); (case hg => rfl); (case hr => first | (go_simp; done) | (go_simp; rfl)); intro gb214 hg w6 hbox hb; have n0_ := Aside0.mk (Kd.V_below (Kd.V_elderB (by (with_reducible repeat (first | apply Kd.V_alloc | apply Kd.V_drewN | apply Kd.V_drew)); exact HO0_1.out) gb214 (Nat.le_of_eq hg.symm)) hb); have n1_ := Aside0.mk (blk_below (g := gb212) (o := .cells #[.int .i64 a0_0, .slice A0_1 l0_1.length c0_1] 32 (0, 0)) (by (with_reducible repeat (first | refine blk_drewN ?_ _ | refine blk_drew ?_ | refine blk_alloc ?_ _)); exact BK212.out) hb); have n2_ := Aside0.mk (blk_below (g := gb213) (o := .cells #[.int .i64 0, .slice none 0 0] 32 (0, 0)) (by (with_reducible repeat (first | refine blk_drewN ?_ _ | refine blk_drew ?_ | refine blk_alloc ?_ _)); exact BK213.out) hb); have n3_ := Aside0.mk (below_step (by repeat (first | (with_reducible first | exact HB.out | apply below_alloc | apply pw_below_drewN | apply below_drew1 | refine below_set ?_ GE212.out | refine below_set ?_ GE213.out) | exact HB.out)) hb); have n4_ := Aside0.mk (hbox); have n5_ := Aside0.mk ((by rw [hg]; exact (below_size (by repeat (first | (with_reducible first | exact HB.out | apply below_alloc | apply pw_below_drewN | apply below_drew1 | refine below_set ?_ GE212.out | refine below_set ?_ GE213.out) | exact HB.out))) : w.heap.size ≤ gb214)); have n6_ := Aside0.mk ((by rw [hg]; exact (below_size (by repeat (first | (with_reducible first | exact HB.out | apply below_alloc | apply pw_below_drewN | apply below_drew1 | refine below_set ?_ GE212.out | refine below_set ?_ GE213.out) | exact HB.out))) : w.heap.size ≤ gb214)); have n7_ := Aside0.mk ((by rw [hg]; exact Nat.ne_of_lt (blk_lt (g := gb212) (o := .cells #[.int .i64 a0_0, .slice A0_1 l0_1.length c0_1] 32 (0, 0)) (by (with_reducible repeat (first | refine blk_drewN ?_ _ | refine blk_drew ?_ | refine blk_alloc ?_ _)); exact BK212.out)) : gb212 ≠ gb214)); have n8_ := Aside0.mk ((by rw [hg]; exact Nat.ne_of_gt (blk_lt (g := gb212) (o := .cells #[.int .i64 a0_0, .slice A0_1 l0_1.length c0_1] 32 (0, 0)) (by (with_reducible repeat (first | refine blk_drewN ?_ _ | refine blk_drew ?_ | refine blk_alloc ?_ _)); exact BK212.out)) : gb214 ≠ gb212)); have n9_ := Aside0.mk ((by rw [hg]; exact Nat.ne_of_lt (blk_lt (g := gb213) (o := .cells #[.int .i64 0, .slice none 0 0] 32 (0, 0)) (by (with_reducible repeat (first | refine blk_drewN ?_ _ | refine blk_drew ?_ | refine blk_alloc ?_ _)); exact BK213.out)) : gb213 ≠ gb214)); have n10_ := Aside0.mk ((by rw [hg]; exact Nat.ne_of_gt (blk_lt (g := gb213) (o := .cells #[.int .i64 0, .slice none 0 0] 32 (0, 0)) (by (with_reducible repeat (first | refine blk_drewN ?_ _ | refine blk_drew ?_ | refine blk_alloc ?_ _)); exact BK213.out)) : gb214 ≠ gb213)); clear HO0_1; clear BK212; clear BK213; clear HB; have HO0_1 := n0_; have BK212 := n1_; have BK213 := n2_; have HB := n3_; have BK214 := n4_; have GW214 := n5_; have GE214 := n6_; have NB212_214 := n7_; have NB214_212 := n8_; have NB213_214 := n9_; have NB214_213 := n10_; clear n0_ n1_ n2_ n3_ n4_ n5_ n6_ n7_ n8_ n9_ n10_; clear hb hbox hg; have hnb7 := NB212_213.out; have hnc7 := NB213_212.out; have hnb8 := NB212_214.out; have hnc8 := NB214_212.out; have hcz9_0 : w6.cell? ⟨gb212, 0, none⟩ = some (.int .i64 a0_0) := (blk_cell BK212.out 0).trans rfl; have hcz9_1 : w6.cell? ⟨gb212, 1, none⟩ = some (.slice A0_1 l0_1.length c0_1) := (blk_cell BK212.out 1).trans rfl; have hfz9_0 := blk_frozen BK212.out 0; have hfz9_1 := blk_frozen BK212.out 1) | ((with_reducible refine gate_callee (f := 20) rfl ?_); refine goesL_ (some 10) rfl rfl Try.func20 (by kernel_rfl) rfl #[.agg #[.int .i64 a0_0, .slice A0_1 l0_1.length c0_1]] rfl (by (try simp only [List.map_toArray, List.map_cons, List.map_nil]); first | done | rfl | (simp only [List.length_drop, List.length_take]; rfl)) ?_; (with_reducible refine (weirkeeperref14_Right.calls k a0_0 _ _ l0_1 t215 _ ?side1 ?side2 A3.out).mono ?_); (case side1 => repeat (first | exact (Kd.V_reads' HO0_1.out).2.2 | (with_reducible refine Kd.C_alloc ?_ _) | (with_reducible refine Kd.C_drewN ?_ _) | (with_reducible refine Kd.C_drew ?_))); (case side2 => exact (Kd.V_reads' HO0_1.out).2.1); rintro e w10 ⟨rfl, hb⟩; refine ⟨_, rfl, ?_⟩; have n0_ := Aside0.mk (Kd.V_below (by (with_reducible repeat (first | apply Kd.V_alloc | apply Kd.V_drewN | apply Kd.V_drew)); exact HO0_1.out) hb); have n1_ := Aside0.mk (blk_below (g := gb212) (o := .cells #[.int .i64 a0_0, .slice A0_1 l0_1.length c0_1] 32 (0, 0)) (by (with_reducible repeat (first | refine blk_drewN ?_ _ | refine blk_drew ?_ | refine blk_alloc ?_ _)); exact BK212.out) hb); have n2_ := Aside0.mk (blk_below (g := gb213) (o := .cells #[.int .i64 0, .slice none 0 0] 32 (0, 0)) (by (with_reducible repeat (first | refine blk_drewN ?_ _ | refine blk_drew ?_ | refine blk_alloc ?_ _)); exact BK213.out) hb); have n3_ := Aside0.mk (blk_below (g := gb214) (o := .cells #[.int .i64 0, .string (⟨#[]⟩ : ByteArray), .bool false] 33 (0, 0)) (by (with_reducible repeat (first | refine blk_drewN ?_ _ | refine blk_drew ?_ | refine blk_alloc ?_ _)); exact BK214.out) hb); have n4_ := Aside0.mk (below_step (by repeat (first | (with_reducible first | exact HB.out | apply below_alloc | apply pw_below_drewN | apply below_drew1 | refine below_set ?_ GE212.out | refine below_set ?_ GE213.out | refine below_set ?_ GE214.out) | exact HB.out)) hb); clear HO0_1; clear BK212; clear BK213; clear BK214; clear HB; have HO0_1 := n0_; have BK212 := n1_; have BK213 := n2_; have BK214 := n3_; have HB := n4_; clear n0_ n1_ n2_ n3_ n4_; (try clear hb); (try clear hb2); (try clear hk); (try clear hi)))
  go_loopg [8] k (fun kq v8 w' => ∃ (x8_1 : Int) (x214000_1 : Int) (x215000_1 : Int) (x215001_1 : ByteArray) (x215002_1 : Bool), v8 = .int .i64 x8_1 ∧ Aside0 (weirkeeperref14_Get.l0 kq a1 t215 x8_1 a0_0 l0_1 = some (r1, r2, r3, r4, r5, r6)) ∧ Aside0 (kq ≤ k) ∧ Aside0 (Kd.V k33 33 w' w.heap.size (fun k_ => (P0_1_ k_ ∨ w.heap.size ≤ k_) ∧ k_ ≠ gb212 ∧ k_ ≠ gb213 ∧ k_ ≠ gb214) (.slice A0_1 l0_1.length c0_1) l0_1) ∧ Aside0 (w'.heap[gb212]? = some (.cells #[.int .i64 a0_0, (.slice A0_1 l0_1.length c0_1)] 32 (0, 0))) ∧ Aside0 (w'.heap[gb213]? = some (.cells #[.int .i64 x214000_1, (.slice none 0 0)] 32 (0, 0))) ∧ Aside0 (w'.heap[gb214]? = some (.cells #[.int .i64 x215000_1, .string x215001_1, .bool x215002_1] 33 (0, 0))) ∧ Aside0 (Below w.heap.size w w'))
  case atStart => exact ⟨(0), (0), (0), ((⟨#[]⟩ : ByteArray)), (false), (by first | rfl | (simp; done) | (simp [*]; done)), H', ⟨Nat.le_refl _⟩, ⟨by (with_reducible repeat (first | apply Kd.V_alloc | apply Kd.V_drewN | apply Kd.V_drew)); exact Kd.V_mono HO0_1.out (fun _ hk => ⟨hk.1.1.1, ⟨hk.1.1.2, ⟨hk.1.2, hk.2⟩⟩⟩)⟩, ⟨by (with_reducible repeat (first | refine blk_drewN ?_ _ | refine blk_drew ?_ | refine blk_alloc ?_ _)); exact BK212.out⟩, ⟨by (with_reducible repeat (first | refine blk_drewN ?_ _ | refine blk_drew ?_ | refine blk_alloc ?_ _)); exact BK213.out⟩, ⟨by (with_reducible repeat (first | refine blk_drewN ?_ _ | refine blk_drew ?_ | refine blk_alloc ?_ _)); exact BK214.out⟩, ⟨by repeat (first | (with_reducible first | exact HB.out | apply below_alloc | apply pw_below_drewN | apply below_drew1 | refine below_set ?_ GE212.out | refine below_set ?_ GE213.out | refine below_set ?_ GE214.out) | exact HB.out)⟩⟩
  case round =>
    clear H'
    try clear c1
    try clear c2
    try clear p2
    try clear c7
    try clear c8
    try clear hcz9_0
    try clear hcz9_1
    try clear hfz9_0
    try clear hfz9_1
    obtain ⟨x8_1, x214000_1, x215000_1, x215001_1, x215002_1, rfl, HA, HK1, HO_213001, BK212, BK213, BK214, HB⟩ := hrel
    cases gk with
    | zero => exact absurd HA.out (by simp [weirkeeperref14_Get.l0])
    | succ k1 =>
      have H := HA.out
      clear HA
      simp only [weirkeeperref14_Get.l0] at H
      have HC11 := Aside0.mk H
      clear H
      go_upto_region 3 with (fail)
      go_cut [18] (fun v18 wc => ∃ (kq : Nat) (x18_10 : Bool), v18 = .bool x18_10 ∧ Aside0 (weirkeeperref14_Get.j1 kq a1 t215 x8_1 x18_10 a0_0 l0_1 = some (r1, r2, r3, r4, r5, r6)) ∧ Aside0 (kq ≤ k1) ∧ Aside0 (Kd.V k33 33 wc w.heap.size (fun k_ => (P0_1_ k_ ∨ w.heap.size ≤ k_) ∧ k_ ≠ gb212 ∧ k_ ≠ gb213 ∧ k_ ≠ gb214) (.slice A0_1 l0_1.length c0_1) l0_1) ∧ Aside0 (wc.heap[gb212]? = some (.cells #[.int .i64 a0_0, (.slice A0_1 l0_1.length c0_1)] 32 (0, 0))) ∧ Aside0 (wc.heap[gb213]? = some (.cells #[.int .i64 x214000_1, (.slice none 0 0)] 32 (0, 0))) ∧ Aside0 (wc.heap[gb214]? = some (.cells #[.int .i64 x215000_1, .string x215001_1, .bool x215002_1] 33 (0, 0))) ∧ Aside0 (Below w.heap.size w wc))
      case first =>
        have H := HC11.out
        clear HC11
        by_cases c12 : x8_1 < (l0_1.length : Int)
        · rw [if_pos c12] at H
          have c12b0 : decide (x8_1 < (l0_1.length : Int)) = true := decide_eq_true c12
          clear c12
          (first | rw [c12b0] | (simp only [i64_w, i32_w]; rw [c12b0]) | skip)
          have H' := Aside0.mk H
          clear H
          have hnb13 := NB212_213.out
          have hnc13 := NB213_212.out
          have hnb14 := NB212_214.out
          have hnc14 := NB214_212.out
          have hcz15_0 : wr.cell? ⟨gb212, 0, none⟩ = some (.int .i64 a0_0) := (blk_cell BK212.out 0).trans rfl
          have hcz15_1 : wr.cell? ⟨gb212, 1, none⟩ = some (.slice A0_1 l0_1.length c0_1) := (blk_cell BK212.out 1).trans rfl
          have hfz15_0 := blk_frozen BK212.out 0
          have hfz15_1 := blk_frozen BK212.out 1
          go_wp2
          go_meet
          case rel => exact ⟨_, (t215), (by first | rfl | (simp; done) | (simp [*]; done)), H', ⟨by have := HK1.out; first | omega | exact Nat.le_refl _⟩, ⟨by (with_reducible repeat (first | apply Kd.V_alloc | apply Kd.V_drewN | apply Kd.V_drew)); exact HO_213001.out⟩, ⟨by (with_reducible repeat (first | refine blk_drewN ?_ _ | refine blk_drew ?_ | refine blk_alloc ?_ _)); exact BK212.out⟩, ⟨by (with_reducible repeat (first | refine blk_drewN ?_ _ | refine blk_drew ?_ | refine blk_alloc ?_ _)); exact BK213.out⟩, ⟨by (with_reducible repeat (first | refine blk_drewN ?_ _ | refine blk_drew ?_ | refine blk_alloc ?_ _)); exact BK214.out⟩, ⟨by repeat (first | (with_reducible first | exact HB.out | apply below_alloc | apply pw_below_drewN | apply below_drew1 | refine below_set ?_ GE212.out | refine below_set ?_ GE213.out | refine below_set ?_ GE214.out) | exact HB.out)⟩⟩
        · rw [if_neg c12] at H
          have c12b0 : decide (x8_1 < (l0_1.length : Int)) = false := decide_eq_false c12
          clear c12
          (first | rw [c12b0] | (simp only [i64_w, i32_w]; rw [c12b0]) | skip)
          have H' := Aside0.mk H
          clear H
          have hnb16 := NB212_213.out
          have hnc16 := NB213_212.out
          have hnb17 := NB212_214.out
          have hnc17 := NB214_212.out
          have hcz18_0 : wr.cell? ⟨gb212, 0, none⟩ = some (.int .i64 a0_0) := (blk_cell BK212.out 0).trans rfl
          have hcz18_1 : wr.cell? ⟨gb212, 1, none⟩ = some (.slice A0_1 l0_1.length c0_1) := (blk_cell BK212.out 1).trans rfl
          have hfz18_0 := blk_frozen BK212.out 0
          have hfz18_1 := blk_frozen BK212.out 1
          go_wp2
          go_meet
          case rel => exact ⟨_, (false), (by first | rfl | (simp; done) | (simp [*]; done)), H', ⟨by have := HK1.out; first | omega | exact Nat.le_refl _⟩, ⟨by (with_reducible repeat (first | apply Kd.V_alloc | apply Kd.V_drewN | apply Kd.V_drew)); exact HO_213001.out⟩, ⟨by (with_reducible repeat (first | refine blk_drewN ?_ _ | refine blk_drew ?_ | refine blk_alloc ?_ _)); exact BK212.out⟩, ⟨by (with_reducible repeat (first | refine blk_drewN ?_ _ | refine blk_drew ?_ | refine blk_alloc ?_ _)); exact BK213.out⟩, ⟨by (with_reducible repeat (first | refine blk_drewN ?_ _ | refine blk_drew ?_ | refine blk_alloc ?_ _)); exact BK214.out⟩, ⟨by repeat (first | (with_reducible first | exact HB.out | apply below_alloc | apply pw_below_drewN | apply below_drew1 | refine below_set ?_ GE212.out | refine below_set ?_ GE213.out | refine below_set ?_ GE214.out) | exact HB.out)⟩⟩
      case rest =>
        clear HC11
        try clear c1
        try clear c2
        try clear p2
        try clear c7
        try clear c8
        try clear c11
        try clear c12
        try clear c12b0
        try clear c13
        try clear c14
        try clear c16
        try clear c17
        try clear hcz15_0
        try clear hcz15_1
        try clear hcz18_0
        try clear hcz18_1
        try clear hcz9_0
        try clear hcz9_1
        try clear hfz15_0
        try clear hfz15_1
        try clear hfz18_0
        try clear hfz18_1
        try clear hfz9_0
        try clear hfz9_1
        try clear p2
        obtain ⟨kq, x18_10, rfl, HA, HJ10, HO_213001, BK212, BK213, BK214, HB⟩ := hcut
        cases kq with
        | zero => exact absurd HA.out (by simp [weirkeeperref14_Get.j1])
        | succ kj10 =>
          have H := HA.out
          clear HA
          simp only [weirkeeperref14_Get.j1] at H
          by_cases c19 : x18_10 = true
          · subst c19
            have H1 : (if 0 ≤ x8_1 then (if x8_1 < (l0_1.length : Int) then (if ((rd_T33 l0_1 x8_1).f0) = a1 then ((weirkeeperref14_first.f kj10 l0_1 ((rd_T33 l0_1 x8_1).f0) ((rd_T33 l0_1 x8_1).f1) ((rd_T33 l0_1 x8_1).f2)).bind fun t218 => (some (a0_0, t218, (rd_T33 l0_1 x8_1).f0, (rd_T33 l0_1 x8_1).f1, (rd_T33 l0_1 x8_1).f2, true))) else (weirkeeperref14_Get.l0 kj10 a1 t215 (wrap64 (x8_1 + 1)) a0_0 l0_1)) else (none)) else (none)) = some (r1, r2, r3, r4, r5, r6) := by rw [if_pos rfl] at H; exact H
            clear H
            have H := H1
            clear H1
            by_cases c20 : 0 ≤ x8_1
            · rw [if_pos c20] at H
              have c20b0 : decide (0 ≤ x8_1) = true := decide_eq_true c20
              clear c20
              by_cases c21 : x8_1 < (l0_1.length : Int)
              · rw [if_pos c21] at H
                have c21b0 : decide (x8_1 < (l0_1.length : Int)) = true := decide_eq_true c21
                clear c21
                by_cases c22 : ((rd_T33 l0_1 x8_1).f0) = a1
                · rw [if_pos c22] at H
                  have c22b0 : (((rd_T33 l0_1 x8_1).f0) == a1) = true := beq_iff_eq.mpr c22
                  have c22b1 : (((rd_T33 l0_1 x8_1).f0) != a1) = false := bne_eq_false_iff_eq.mpr c22
                  clear c22
                  replace H := Option.bind_eq_some_iff.mp H
                  obtain ⟨t218, A230, H⟩ := H
                  replace H : (some (a0_0, t218, (rd_T33 l0_1 x8_1).f0, (rd_T33 l0_1 x8_1).f1, (rd_T33 l0_1 x8_1).f2, true)) = some (r1, r2, r3, r4, r5, r6) := H
                  have A23 := Aside0.mk A230
                  clear A230
                  simp only [Option.some.injEq, Prod.mk.injEq] at H
                  obtain ⟨rfl, rfl, rfl, rfl, rfl, rfl⟩ := H
                  have hnb24 := NB212_213.out
                  have hnc24 := NB213_212.out
                  have hnb25 := NB212_214.out
                  have hnc25 := NB214_212.out
                  have hcz26_0 : wc.cell? ⟨gb212, 0, none⟩ = some (.int .i64 a0_0) := (blk_cell BK212.out 0).trans rfl
                  have hcz26_1 : wc.cell? ⟨gb212, 1, none⟩ = some (.slice A0_1 l0_1.length c0_1) := (blk_cell BK212.out 1).trans rfl
                  have hfz26_0 := blk_frozen BK212.out 0
                  have hfz26_1 := blk_frozen BK212.out 1
                  have p216 : 0 ≤ (x8_1 : Int) := of_decide_eq_true (by first | (with_reducible assumption) | assumption)
                  have q216 : x8_1 < (l0_1.length : Int) := of_decide_eq_true (by first | (with_reducible assumption) | assumption)
                  obtain ⟨ad216, e216, hx216_0, hx216_1, hx216_2⟩ := at_T33 (Kd.V_reads' HO_213001.out).2.2 x8_1 p216 q216
                  cases e216
                  replace p216 := eq_true p216
                  replace q216 := eq_true q216
                  try go_wp2
                  have n0_ := Aside0.mk (Kd.V_drew HO_213001.out)
                  have n1_ := Aside0.mk (blk_drew BK212.out)
                  have n2_ := Aside0.mk (blk_drew BK213.out)
                  have n3_ := Aside0.mk (blk_drew BK214.out)
                  have n4_ := Aside0.mk (below_drew1 HB.out)
                  clear HO_213001
                  clear BK212
                  clear BK213
                  clear BK214
                  clear HB
                  have HO_213001 := n0_
                  have BK212 := n1_
                  have BK213 := n2_
                  have BK214 := n3_
                  have HB := n4_
                  clear n0_ n1_ n2_ n3_ n4_
                  have p217 : 0 ≤ (x8_1 : Int) := of_decide_eq_true (by first | (with_reducible assumption) | assumption)
                  have q217 : x8_1 < (l0_1.length : Int) := of_decide_eq_true (by first | (with_reducible assumption) | assumption)
                  obtain ⟨ad217, e217, hx217_0, hx217_1, hx217_2⟩ := at_T33 (Kd.V_reads' HO_213001.out).2.2 x8_1 p217 q217
                  obtain rfl : ad216 = ad217 := (by injection e217)
                  replace p217 := eq_true p217
                  replace q217 := eq_true q217
                  have p221 : 0 ≤ (x8_1 : Int) := of_decide_eq_true (by first | (with_reducible assumption) | assumption)
                  have q221 : x8_1 < (l0_1.length : Int) := of_decide_eq_true (by first | (with_reducible assumption) | assumption)
                  obtain ⟨ad221, e221, hx221_0, hx221_1, hx221_2⟩ := at_T33 (Kd.V_reads' HO_213001.out).2.2 x8_1 p221 q221
                  obtain rfl : ad216 = ad221 := (by injection e221)
                  replace p221 := eq_true p221
                  replace q221 := eq_true q221
                  refine start_ (n := 19) (S := fun w' => w'.cell? ⟨gb212, 0, none⟩ = some (.int .i64 a0_0) ∧ w'.cell? ⟨gb212, 1, none⟩ = some (.slice (some ad216) l0_1.length c0_1) ∧ w'.cell? (ad216.add ((x8_1).toNat * 3)) = some (.int .i64 ((rd_T33 l0_1 x8_1).f0)) ∧ w'.cell? ⟨(ad216.add ((x8_1).toNat * 3)).block, (ad216.add ((x8_1).toNat * 3)).off + 1, none⟩ = some (.string ((rd_T33 l0_1 x8_1).f1)) ∧ w'.cell? ⟨(ad216.add ((x8_1).toNat * 3)).block, (ad216.add ((x8_1).toNat * 3)).off + 2, none⟩ = some (.bool ((rd_T33 l0_1 x8_1).f2)) ∧ w'.cell? (ad216.add ((x8_1).toNat * 3)) = some (.int .i64 ((rd_T33 l0_1 x8_1).f0)) ∧ w'.cell? ⟨(ad216.add ((x8_1).toNat * 3)).block, (ad216.add ((x8_1).toNat * 3)).off + 1, none⟩ = some (.string ((rd_T33 l0_1 x8_1).f1)) ∧ w'.cell? ⟨(ad216.add ((x8_1).toNat * 3)).block, (ad216.add ((x8_1).toNat * 3)).off + 2, none⟩ = some (.bool ((rd_T33 l0_1 x8_1).f2))) (ds := []) #[false, false, false, false, false, false, false, false, false, false, false, false, false, false, false, false, false, false, false] (by kernel_rfl) rfl rfl ⟨(blk_cell BK212.out 0).trans rfl, (blk_cell BK212.out 1).trans rfl, hx217_0, hx217_1, hx217_2, hx221_0, hx221_1, hx221_2⟩ (fun hHeld => ?_); refine with_tabW weirkeeperref14_Get.tab6 weirkeeperref14_Get.bits6 (fun HT_ HW_ => ?_)
                  generalize wc.drew = w27 at HO_213001 BK212 BK213 BK214 HB hx217_0 hx217_1 hx217_2 hx221_0 hx221_1 hx221_2 hHeld ⊢
                  refine pure_ (i := 0) (N := some 29) (v := ?_) (a' := ?_) #[true, false, false, false, false, false, false, false, false, false, false, false, false, false, false, false, false, false, false] rfl rfl (any_of HT_.out (by kernel_rfl)) (fun _ _ _ h => h) (Or.inl ⟨by rfl, ?_⟩) ?_ ?_
                  rotate_left
                  · intro w'
                    go_simp
                    with_reducible rfl
                  rotate_left
                  · simp only [Act.put, List.setIfInBounds_toArray, List.set_cons_zero, List.set_cons_succ, i64_w, i32_w]
                    rfl
                  refine pure_ (i := 2) (N := some 31) (v := ?_) (a' := ?_) #[true, false, true, false, false, false, false, false, false, false, false, false, false, false, false, false, false, false, false] rfl rfl (any_of HT_.out (by kernel_rfl)) (fun _ _ _ h => h) (Or.inl ⟨by rfl, ?_⟩) ?_ ?_
                  rotate_left
                  · intro w'
                    go_simp
                    with_reducible rfl
                  rotate_left
                  · simp only [Act.put, List.setIfInBounds_toArray, List.set_cons_zero, List.set_cons_succ, i64_w, i32_w]
                    rfl
                  refine pure_ (i := 4) (N := some 33) (v := ?_) (a' := ?_) #[true, false, true, false, true, false, false, false, false, false, false, false, false, false, false, false, false, false, false] rfl rfl (any_of HT_.out (by kernel_rfl)) (fun _ _ _ h => h) (Or.inl ⟨by rfl, ?_⟩) ?_ ?_
                  rotate_left
                  · intro w'
                    go_simp
                    with_reducible rfl
                  rotate_left
                  · simp only [Act.put, List.setIfInBounds_toArray, List.set_cons_zero, List.set_cons_succ, i64_w, i32_w]
                    rfl
                  refine pure_ (i := 6) (N := some 35) (v := ?_) (a' := ?_) #[true, false, true, false, true, false, true, false, false, false, false, false, false, false, false, false, false, false, false] rfl rfl (any_of HT_.out (by kernel_rfl)) (fun _ _ _ h => h) (Or.inl ⟨by rfl, ?_⟩) ?_ ?_
                  rotate_left
                  · intro w'
                    go_simp
                    with_reducible rfl
                  rotate_left
                  · simp only [Act.put, List.setIfInBounds_toArray, List.set_cons_zero, List.set_cons_succ, i64_w, i32_w]
                    rfl
                  refine pure_ (i := 11) (N := some 40) (v := ?_) (a' := ?_) #[true, false, true, false, true, false, true, false, false, false, false, true, false, false, false, false, false, false, false] rfl rfl (any_of HT_.out (by kernel_rfl)) (fun _ _ _ h => h) (Or.inl ⟨by rfl, ?_⟩) ?_ ?_
                  rotate_left
                  · intro w'
                    go_simp
                    with_reducible rfl
                  rotate_left
                  · simp only [Act.put, List.setIfInBounds_toArray, List.set_cons_zero, List.set_cons_succ, i64_w, i32_w]
                    rfl
                  refine pure_ (i := 13) (N := some 42) (v := ?_) (a' := ?_) #[true, false, true, false, true, false, true, false, false, false, false, true, false, true, false, false, false, false, false] rfl rfl (any_of HT_.out (by kernel_rfl)) (fun _ _ _ h => h) (Or.inl ⟨by rfl, ?_⟩) ?_ ?_
                  rotate_left
                  · intro w'
                    go_simp
                    with_reducible rfl
                  rotate_left
                  · simp only [Act.put, List.setIfInBounds_toArray, List.set_cons_zero, List.set_cons_succ, i64_w, i32_w]
                    rfl
                  refine take_ (i := 1) (N := some 30) (v := ?_) (a' := ?_) #[true, true, true, false, true, false, true, false, false, false, false, true, false, true, false, false, false, false, false] rfl rfl (take_ofW HT_.out HW_.out (by kernel_rfl)) (fun _ _ _ h => h) (Or.inl ⟨by rfl, ?_⟩) hHeld ?_ ?_
                  rotate_left
                  · rintro w' ⟨s0, s1, s2, s3, s4, s5, s6, s7⟩
                    go_simp
                    with_reducible rfl
                  rotate_left
                  · simp only [Act.put, List.setIfInBounds_toArray, List.set_cons_zero, List.set_cons_succ, i64_w, i32_w]
                    rfl
                  refine take_ (i := 3) (N := some 32) (v := ?_) (a' := ?_) #[true, true, true, true, true, false, true, false, false, false, false, true, false, true, false, false, false, false, false] rfl rfl (take_ofW HT_.out HW_.out (by kernel_rfl)) (fun _ _ _ h => h) (Or.inl ⟨by rfl, ?_⟩) hHeld ?_ ?_
                  rotate_left
                  · rintro w' ⟨s0, s1, s2, s3, s4, s5, s6, s7⟩
                    go_simp
                    with_reducible rfl
                  rotate_left
                  · simp only [Act.put, List.setIfInBounds_toArray, List.set_cons_zero, List.set_cons_succ, i64_w, i32_w]
                    rfl
                  refine take_ (i := 5) (N := some 34) (v := ?_) (a' := ?_) #[true, true, true, true, true, true, true, false, false, false, false, true, false, true, false, false, false, false, false] rfl rfl (take_ofW HT_.out HW_.out (by kernel_rfl)) (fun _ _ _ h => h) (Or.inl ⟨by rfl, ?_⟩) hHeld ?_ ?_
                  rotate_left
                  · rintro w' ⟨s0, s1, s2, s3, s4, s5, s6, s7⟩
                    go_simp
                    with_reducible rfl
                  rotate_left
                  · simp only [Act.put, List.setIfInBounds_toArray, List.set_cons_zero, List.set_cons_succ, i64_w, i32_w]
                    rfl
                  refine pure_ (i := 7) (N := some 36) (v := ?_) (a' := ?_) #[true, true, true, true, true, true, true, true, false, false, false, true, false, true, false, false, false, false, false] rfl rfl (any_of HT_.out (by kernel_rfl)) (fun _ _ _ h => h) (Or.inl ⟨by rfl, ?_⟩) ?_ ?_
                  rotate_left
                  · intro w'
                    go_simp
                    with_reducible rfl
                  rotate_left
                  · simp only [Act.put, List.setIfInBounds_toArray, List.set_cons_zero, List.set_cons_succ, i64_w, i32_w]
                    rfl
                  refine take_ (i := 8) (N := some 37) (v := ?_) (a' := ?_) #[true, true, true, true, true, true, true, true, true, false, false, true, false, true, false, false, false, false, false] rfl rfl (take_ofW HT_.out HW_.out (by kernel_rfl)) (fun _ _ _ h => h) (Or.inl ⟨by rfl, ?_⟩) hHeld ?_ ?_
                  rotate_left
                  · rintro w' ⟨s0, s1, s2, s3, s4, s5, s6, s7⟩
                    go_simp
                    with_reducible rfl
                  rotate_left
                  · simp only [Act.put, List.setIfInBounds_toArray, List.set_cons_zero, List.set_cons_succ, i64_w, i32_w]
                    rfl
                  refine take_ (i := 12) (N := some 41) (v := ?_) (a' := ?_) #[true, true, true, true, true, true, true, true, true, false, false, true, true, true, false, false, false, false, false] rfl rfl (take_ofW HT_.out HW_.out (by kernel_rfl)) (fun _ _ _ h => h) (Or.inl ⟨by rfl, ?_⟩) hHeld ?_ ?_
                  rotate_left
                  · rintro w' ⟨s0, s1, s2, s3, s4, s5, s6, s7⟩
                    go_simp
                    with_reducible rfl
                  rotate_left
                  · simp only [Act.put, List.setIfInBounds_toArray, List.set_cons_zero, List.set_cons_succ, i64_w, i32_w]
                    rfl
                  refine pure_ (i := 14) (N := some 43) (v := ?_) (a' := ?_) #[true, true, true, true, true, true, true, true, true, false, false, true, true, true, true, false, false, false, false] rfl rfl (any_of HT_.out (by kernel_rfl)) (fun _ _ _ h => h) (Or.inl ⟨by rfl, ?_⟩) ?_ ?_
                  rotate_left
                  · intro w'
                    go_simp
                    with_reducible rfl
                  rotate_left
                  · simp only [Act.put, List.setIfInBounds_toArray, List.set_cons_zero, List.set_cons_succ, i64_w, i32_w]
                    rfl
                  refine take_ (i := 15) (N := some 44) (v := ?_) (a' := ?_) #[true, true, true, true, true, true, true, true, true, false, false, true, true, true, true, true, false, false, false] rfl rfl (take_ofW HT_.out HW_.out (by kernel_rfl)) (fun _ _ _ h => h) (Or.inl ⟨by rfl, ?_⟩) hHeld ?_ ?_
                  rotate_left
                  · rintro w' ⟨s0, s1, s2, s3, s4, s5, s6, s7⟩
                    go_simp
                    with_reducible rfl
                  rotate_left
                  · simp only [Act.put, List.setIfInBounds_toArray, List.set_cons_zero, List.set_cons_succ, i64_w, i32_w]
                    rfl
                  refine one_ (i := 9) (N := some 38) #[true, true, true, true, true, true, true, true, true, true, false, true, true, true, true, true, false, false, false] rfl rfl (one_of HT_.out (by kernel_rfl)) (by decide) (fun K hK => ?_)
                  refine goes_ Try.func25 (by kernel_rfl) rfl #[.slice (some ad216) l0_1.length c0_1, .agg #[.int .i64 ((rd_T33 l0_1 x8_1).f0), .string ((rd_T33 l0_1 x8_1).f1), .bool ((rd_T33 l0_1 x8_1).f2)]] (by rfl) rfl rfl (by (try simp only [List.map_toArray, List.map_cons, List.map_nil]); first | done | rfl | (simp only [List.length_drop, List.length_take]; rfl)) ?_
                  with_reducible refine (weirkeeperref14_first.calls kj10 _ _ l0_1 ((rd_T33 l0_1 x8_1).f0) ((rd_T33 l0_1 x8_1).f1) ((rd_T33 l0_1 x8_1).f2) t218 _ ?side1 ?side2 A23.out).mono ?_
                  (case side1 => repeat (first | exact (Kd.V_reads' HO_213001.out).2.2 | (with_reducible refine Kd.C_alloc ?_ _) | (with_reducible refine Kd.C_drewN ?_ _) | (with_reducible refine Kd.C_drew ?_)))
                  (case side2 => exact (Kd.V_reads' HO_213001.out).2.1)
                  rintro e w28 ⟨v219, rfl, ho0, hb⟩
                  have HS2_ := (hb.cell (World.block_lt_of_cell? _ _ (hHeld.2.2.1))).trans (hHeld.2.2.1)
                  have HS3_ := (hb.cell (World.block_lt_of_cell? _ _ (hHeld.2.2.2.1))).trans (hHeld.2.2.2.1)
                  have HS4_ := (hb.cell (World.block_lt_of_cell? _ _ (hHeld.2.2.2.2.1))).trans (hHeld.2.2.2.2.1)
                  have HS5_ := (hb.cell (World.block_lt_of_cell? _ _ (hHeld.2.2.2.2.2.1))).trans (hHeld.2.2.2.2.2.1)
                  have HS6_ := (hb.cell (World.block_lt_of_cell? _ _ (hHeld.2.2.2.2.2.2.1))).trans (hHeld.2.2.2.2.2.2.1)
                  have HS7_ := (hb.cell (World.block_lt_of_cell? _ _ (hHeld.2.2.2.2.2.2.2))).trans (hHeld.2.2.2.2.2.2.2)
                  refine ⟨_, rfl, ?_⟩
                  have n0_ := Aside0.mk (Kd.V_elder' (by (with_reducible repeat (first | apply Kd.V_alloc | apply Kd.V_drewN | apply Kd.V_drew)); exact HO_213001.out) (Kd.R_base ho0) hb)
                  have n1_ := Aside0.mk (Kd.R_lower (Kd.R_newB (Kd.R_newM (M := fun k_ => (w.heap.size ≤ k_)) ho0 (below_size (by repeat (first | (with_reducible first | exact HB.out | apply below_alloc | apply pw_below_drewN | apply below_drew1 | refine below_set ?_ GE212.out | refine below_set ?_ GE213.out | refine below_set ?_ GE214.out) | exact HB.out))) (fun k_ h_ => h_)) (g := gb214) (o := .cells #[.int .i64 x215000_1, .string x215001_1, .bool x215002_1] 33 (0, 0)) (by (with_reducible repeat (first | refine blk_drewN ?_ _ | refine blk_drew ?_ | refine blk_alloc ?_ _)); exact BK214.out)) (below_size (by repeat (first | (with_reducible first | exact HB.out | apply below_alloc | apply pw_below_drewN | apply below_drew1 | refine below_set ?_ GE212.out | refine below_set ?_ GE213.out | refine below_set ?_ GE214.out) | exact HB.out))))
                  have n2_ := Aside0.mk (blk_below (g := gb212) (o := .cells #[.int .i64 a0_0, .slice (some ad216) l0_1.length c0_1] 32 (0, 0)) (by (with_reducible repeat (first | refine blk_drewN ?_ _ | refine blk_drew ?_ | refine blk_alloc ?_ _)); exact BK212.out) hb)
                  have n3_ := Aside0.mk (blk_below (g := gb213) (o := .cells #[.int .i64 x214000_1, .slice none 0 0] 32 (0, 0)) (by (with_reducible repeat (first | refine blk_drewN ?_ _ | refine blk_drew ?_ | refine blk_alloc ?_ _)); exact BK213.out) hb)
                  have n4_ := Aside0.mk (blk_below (g := gb214) (o := .cells #[.int .i64 x215000_1, .string x215001_1, .bool x215002_1] 33 (0, 0)) (by (with_reducible repeat (first | refine blk_drewN ?_ _ | refine blk_drew ?_ | refine blk_alloc ?_ _)); exact BK214.out) hb)
                  have n5_ := Aside0.mk (below_step (by repeat (first | (with_reducible first | exact HB.out | apply below_alloc | apply pw_below_drewN | apply below_drew1 | refine below_set ?_ GE212.out | refine below_set ?_ GE213.out | refine below_set ?_ GE214.out) | exact HB.out)) hb)
                  clear HO_213001
                  clear BK212
                  clear BK213
                  clear BK214
                  clear HB
                  have HO_213001 := n0_
                  have HO220 := n1_
                  have BK212 := n2_
                  have BK213 := n3_
                  have BK214 := n4_
                  have HB := n5_
                  clear n0_ n1_ n2_ n3_ n4_ n5_
                  (try clear hb)
                  (try clear hb2)
                  (try clear hk)
                  (try clear hi)
                  (try clear ho0)
                  obtain ⟨Ao29, co29, eo29⟩ := Kd.R_slice HO220.out
                  (first | subst eo29 | (injection eo29 with f1_ f2_ f3_; have f4_ := f1_.symm; have f5_ := f3_.symm; clear f1_ f2_ f3_; subst f4_; subst f5_))
                  refine hK.out _ _ ⟨(blk_cell BK212.out 0).trans rfl, (blk_cell BK212.out 1).trans rfl, HS2_, HS3_, HS4_, HS5_, HS6_, HS7_⟩ (fun hHeld => ?_)
                  clear hK K
                  refine norm_ (a' := ?_) ?_ ?_
                  rotate_left
                  · show Act.put _ (some 38) _ = _
                    simp only [Act.put, List.setIfInBounds_toArray, List.set_cons_zero, List.set_cons_succ, i64_w, i32_w]
                    rfl
                  refine pure_ (i := 10) (N := some 39) (v := ?_) (a' := ?_) #[true, true, true, true, true, true, true, true, true, true, true, true, true, true, true, true, false, false, false] rfl rfl (any_of HT_.out (by kernel_rfl)) (fun _ _ _ h => h) (Or.inl ⟨by rfl, ?_⟩) ?_ ?_
                  rotate_left
                  · intro w'
                    go_simp
                    with_reducible rfl
                  rotate_left
                  · simp only [Act.put, List.setIfInBounds_toArray, List.set_cons_zero, List.set_cons_succ, i64_w, i32_w]
                    rfl
                  refine one_ (i := 16) (N := none) #[true, true, true, true, true, true, true, true, true, true, true, true, true, true, true, true, true, false, false] rfl rfl (one_of HT_.out (by kernel_rfl)) (by decide) (fun K hK => ?_)
                  have hs30 : w28.cell? ⟨gb213, 0, none⟩ = some (.int .i64 x214000_1) := (blk_cell BK213.out 0).trans rfl
                  have hfs30 := blk_frozen BK213.out 0
                  have hns30_0 := NB212_213.out
                  have hns30_2 := NB214_213.out
                  have hms30_0 := NB213_212.out
                  have hms30_2 := NB213_214.out
                  have hs31 : w28.cell? ⟨gb213, 1, none⟩ = some (.slice none 0 0) := (blk_cell BK213.out 1).trans rfl
                  have hfs31 := blk_frozen BK213.out 1
                  have hns31_0 := NB212_213.out
                  have hns31_2 := NB214_213.out
                  have hms31_0 := NB213_212.out
                  have hms31_2 := NB213_214.out
                  refine skip_ (w1 := ?_) (by rfl) rfl ?_ ?_
                  rotate_left
                  · go_simp
                    rfl
                  refine hK.out _ _ ⟨((cell_far (p := ⟨gb213, _, none⟩) NB212_213.out _).trans (((cell_far (p := ⟨gb213, _, none⟩) NB212_213.out _).trans (hHeld.1)))), ((cell_far (p := ⟨gb213, _, none⟩) NB212_213.out _).trans (((cell_far (p := ⟨gb213, _, none⟩) NB212_213.out _).trans (hHeld.2.1)))), ((cell_far (p := ⟨gb213, _, none⟩) (by first | exact Kd.own_blk (Kd.V_away HO_213001.out (fun _ hk => hk.1.2.2.1)) | (rw [add_block]; exact Kd.own_blk (Kd.V_away HO_213001.out (fun _ hk => hk.1.2.2.1))) | (show (Addr.add _ _).block ≠ _; rw [add_block]; exact Kd.own_blk (Kd.V_away HO_213001.out (fun _ hk => hk.1.2.2.1))) | (dsimp only; exact Kd.own_blk (Kd.V_away HO_213001.out (fun _ hk => hk.1.2.2.1)))) _).trans (((cell_far (p := ⟨gb213, _, none⟩) (by first | exact Kd.own_blk (Kd.V_away HO_213001.out (fun _ hk => hk.1.2.2.1)) | (rw [add_block]; exact Kd.own_blk (Kd.V_away HO_213001.out (fun _ hk => hk.1.2.2.1))) | (show (Addr.add _ _).block ≠ _; rw [add_block]; exact Kd.own_blk (Kd.V_away HO_213001.out (fun _ hk => hk.1.2.2.1))) | (dsimp only; exact Kd.own_blk (Kd.V_away HO_213001.out (fun _ hk => hk.1.2.2.1)))) _).trans (hHeld.2.2.1)))), ((cell_far (p := ⟨gb213, _, none⟩) (by first | exact Kd.own_blk (Kd.V_away HO_213001.out (fun _ hk => hk.1.2.2.1)) | (rw [add_block]; exact Kd.own_blk (Kd.V_away HO_213001.out (fun _ hk => hk.1.2.2.1))) | (show (Addr.add _ _).block ≠ _; rw [add_block]; exact Kd.own_blk (Kd.V_away HO_213001.out (fun _ hk => hk.1.2.2.1))) | (dsimp only; exact Kd.own_blk (Kd.V_away HO_213001.out (fun _ hk => hk.1.2.2.1)))) _).trans (((cell_far (p := ⟨gb213, _, none⟩) (by first | exact Kd.own_blk (Kd.V_away HO_213001.out (fun _ hk => hk.1.2.2.1)) | (rw [add_block]; exact Kd.own_blk (Kd.V_away HO_213001.out (fun _ hk => hk.1.2.2.1))) | (show (Addr.add _ _).block ≠ _; rw [add_block]; exact Kd.own_blk (Kd.V_away HO_213001.out (fun _ hk => hk.1.2.2.1))) | (dsimp only; exact Kd.own_blk (Kd.V_away HO_213001.out (fun _ hk => hk.1.2.2.1)))) _).trans (hHeld.2.2.2.1)))), ((cell_far (p := ⟨gb213, _, none⟩) (by first | exact Kd.own_blk (Kd.V_away HO_213001.out (fun _ hk => hk.1.2.2.1)) | (rw [add_block]; exact Kd.own_blk (Kd.V_away HO_213001.out (fun _ hk => hk.1.2.2.1))) | (show (Addr.add _ _).block ≠ _; rw [add_block]; exact Kd.own_blk (Kd.V_away HO_213001.out (fun _ hk => hk.1.2.2.1))) | (dsimp only; exact Kd.own_blk (Kd.V_away HO_213001.out (fun _ hk => hk.1.2.2.1)))) _).trans (((cell_far (p := ⟨gb213, _, none⟩) (by first | exact Kd.own_blk (Kd.V_away HO_213001.out (fun _ hk => hk.1.2.2.1)) | (rw [add_block]; exact Kd.own_blk (Kd.V_away HO_213001.out (fun _ hk => hk.1.2.2.1))) | (show (Addr.add _ _).block ≠ _; rw [add_block]; exact Kd.own_blk (Kd.V_away HO_213001.out (fun _ hk => hk.1.2.2.1))) | (dsimp only; exact Kd.own_blk (Kd.V_away HO_213001.out (fun _ hk => hk.1.2.2.1)))) _).trans (hHeld.2.2.2.2.1)))), ((cell_far (p := ⟨gb213, _, none⟩) (by first | exact Kd.own_blk (Kd.V_away HO_213001.out (fun _ hk => hk.1.2.2.1)) | (rw [add_block]; exact Kd.own_blk (Kd.V_away HO_213001.out (fun _ hk => hk.1.2.2.1))) | (show (Addr.add _ _).block ≠ _; rw [add_block]; exact Kd.own_blk (Kd.V_away HO_213001.out (fun _ hk => hk.1.2.2.1))) | (dsimp only; exact Kd.own_blk (Kd.V_away HO_213001.out (fun _ hk => hk.1.2.2.1)))) _).trans (((cell_far (p := ⟨gb213, _, none⟩) (by first | exact Kd.own_blk (Kd.V_away HO_213001.out (fun _ hk => hk.1.2.2.1)) | (rw [add_block]; exact Kd.own_blk (Kd.V_away HO_213001.out (fun _ hk => hk.1.2.2.1))) | (show (Addr.add _ _).block ≠ _; rw [add_block]; exact Kd.own_blk (Kd.V_away HO_213001.out (fun _ hk => hk.1.2.2.1))) | (dsimp only; exact Kd.own_blk (Kd.V_away HO_213001.out (fun _ hk => hk.1.2.2.1)))) _).trans (hHeld.2.2.2.2.2.1)))), ((cell_far (p := ⟨gb213, _, none⟩) (by first | exact Kd.own_blk (Kd.V_away HO_213001.out (fun _ hk => hk.1.2.2.1)) | (rw [add_block]; exact Kd.own_blk (Kd.V_away HO_213001.out (fun _ hk => hk.1.2.2.1))) | (show (Addr.add _ _).block ≠ _; rw [add_block]; exact Kd.own_blk (Kd.V_away HO_213001.out (fun _ hk => hk.1.2.2.1))) | (dsimp only; exact Kd.own_blk (Kd.V_away HO_213001.out (fun _ hk => hk.1.2.2.1)))) _).trans (((cell_far (p := ⟨gb213, _, none⟩) (by first | exact Kd.own_blk (Kd.V_away HO_213001.out (fun _ hk => hk.1.2.2.1)) | (rw [add_block]; exact Kd.own_blk (Kd.V_away HO_213001.out (fun _ hk => hk.1.2.2.1))) | (show (Addr.add _ _).block ≠ _; rw [add_block]; exact Kd.own_blk (Kd.V_away HO_213001.out (fun _ hk => hk.1.2.2.1))) | (dsimp only; exact Kd.own_blk (Kd.V_away HO_213001.out (fun _ hk => hk.1.2.2.1)))) _).trans (hHeld.2.2.2.2.2.2.1)))), ((cell_far (p := ⟨gb213, _, none⟩) (by first | exact Kd.own_blk (Kd.V_away HO_213001.out (fun _ hk => hk.1.2.2.1)) | (rw [add_block]; exact Kd.own_blk (Kd.V_away HO_213001.out (fun _ hk => hk.1.2.2.1))) | (show (Addr.add _ _).block ≠ _; rw [add_block]; exact Kd.own_blk (Kd.V_away HO_213001.out (fun _ hk => hk.1.2.2.1))) | (dsimp only; exact Kd.own_blk (Kd.V_away HO_213001.out (fun _ hk => hk.1.2.2.1)))) _).trans (((cell_far (p := ⟨gb213, _, none⟩) (by first | exact Kd.own_blk (Kd.V_away HO_213001.out (fun _ hk => hk.1.2.2.1)) | (rw [add_block]; exact Kd.own_blk (Kd.V_away HO_213001.out (fun _ hk => hk.1.2.2.1))) | (show (Addr.add _ _).block ≠ _; rw [add_block]; exact Kd.own_blk (Kd.V_away HO_213001.out (fun _ hk => hk.1.2.2.1))) | (dsimp only; exact Kd.own_blk (Kd.V_away HO_213001.out (fun _ hk => hk.1.2.2.1)))) _).trans (hHeld.2.2.2.2.2.2.2))))⟩ (fun hHeld => ?_)
                  clear hK K
                  refine one_ (i := 17) (N := none) #[true, true, true, true, true, true, true, true, true, true, true, true, true, true, true, true, true, true, false] rfl rfl (one_of HT_.out (by kernel_rfl)) (by decide) (fun K hK => ?_)
                  have hs32 : w28.cell? ⟨gb214, 0, none⟩ = some (.int .i64 x215000_1) := (blk_cell BK214.out 0).trans rfl
                  have hfs32 := blk_frozen BK214.out 0
                  have hns32_0 := NB212_214.out
                  have hns32_1 := NB213_214.out
                  have hms32_0 := NB214_212.out
                  have hms32_1 := NB214_213.out
                  have hs33 : w28.cell? ⟨gb214, 1, none⟩ = some (.string x215001_1) := (blk_cell BK214.out 1).trans rfl
                  have hfs33 := blk_frozen BK214.out 1
                  have hns33_0 := NB212_214.out
                  have hns33_1 := NB213_214.out
                  have hms33_0 := NB214_212.out
                  have hms33_1 := NB214_213.out
                  have hs34 : w28.cell? ⟨gb214, 2, none⟩ = some (.bool x215002_1) := (blk_cell BK214.out 2).trans rfl
                  have hfs34 := blk_frozen BK214.out 2
                  have hns34_0 := NB212_214.out
                  have hns34_1 := NB213_214.out
                  have hms34_0 := NB214_212.out
                  have hms34_1 := NB214_213.out
                  refine skip_ (w1 := ?_) (by rfl) rfl ?_ ?_
                  rotate_left
                  · go_simp
                    rfl
                  refine hK.out _ _ ⟨((cell_far (p := ⟨gb214, _, none⟩) NB212_214.out _).trans (((cell_far (p := ⟨gb214, _, none⟩) NB212_214.out _).trans (((cell_far (p := ⟨gb214, _, none⟩) NB212_214.out _).trans (hHeld.1)))))), ((cell_far (p := ⟨gb214, _, none⟩) NB212_214.out _).trans (((cell_far (p := ⟨gb214, _, none⟩) NB212_214.out _).trans (((cell_far (p := ⟨gb214, _, none⟩) NB212_214.out _).trans (hHeld.2.1)))))), ((cell_far (p := ⟨gb214, _, none⟩) (by first | exact Kd.own_blk (Kd.V_away HO_213001.out (fun _ hk => hk.1.2.2.2)) | (rw [add_block]; exact Kd.own_blk (Kd.V_away HO_213001.out (fun _ hk => hk.1.2.2.2))) | (show (Addr.add _ _).block ≠ _; rw [add_block]; exact Kd.own_blk (Kd.V_away HO_213001.out (fun _ hk => hk.1.2.2.2))) | (dsimp only; exact Kd.own_blk (Kd.V_away HO_213001.out (fun _ hk => hk.1.2.2.2)))) _).trans (((cell_far (p := ⟨gb214, _, none⟩) (by first | exact Kd.own_blk (Kd.V_away HO_213001.out (fun _ hk => hk.1.2.2.2)) | (rw [add_block]; exact Kd.own_blk (Kd.V_away HO_213001.out (fun _ hk => hk.1.2.2.2))) | (show (Addr.add _ _).block ≠ _; rw [add_block]; exact Kd.own_blk (Kd.V_away HO_213001.out (fun _ hk => hk.1.2.2.2))) | (dsimp only; exact Kd.own_blk (Kd.V_away HO_213001.out (fun _ hk => hk.1.2.2.2)))) _).trans (((cell_far (p := ⟨gb214, _, none⟩) (by first | exact Kd.own_blk (Kd.V_away HO_213001.out (fun _ hk => hk.1.2.2.2)) | (rw [add_block]; exact Kd.own_blk (Kd.V_away HO_213001.out (fun _ hk => hk.1.2.2.2))) | (show (Addr.add _ _).block ≠ _; rw [add_block]; exact Kd.own_blk (Kd.V_away HO_213001.out (fun _ hk => hk.1.2.2.2))) | (dsimp only; exact Kd.own_blk (Kd.V_away HO_213001.out (fun _ hk => hk.1.2.2.2)))) _).trans (hHeld.2.2.1)))))), ((cell_far (p := ⟨gb214, _, none⟩) (by first | exact Kd.own_blk (Kd.V_away HO_213001.out (fun _ hk => hk.1.2.2.2)) | (rw [add_block]; exact Kd.own_blk (Kd.V_away HO_213001.out (fun _ hk => hk.1.2.2.2))) | (show (Addr.add _ _).block ≠ _; rw [add_block]; exact Kd.own_blk (Kd.V_away HO_213001.out (fun _ hk => hk.1.2.2.2))) | (dsimp only; exact Kd.own_blk (Kd.V_away HO_213001.out (fun _ hk => hk.1.2.2.2)))) _).trans (((cell_far (p := ⟨gb214, _, none⟩) (by first | exact Kd.own_blk (Kd.V_away HO_213001.out (fun _ hk => hk.1.2.2.2)) | (rw [add_block]; exact Kd.own_blk (Kd.V_away HO_213001.out (fun _ hk => hk.1.2.2.2))) | (show (Addr.add _ _).block ≠ _; rw [add_block]; exact Kd.own_blk (Kd.V_away HO_213001.out (fun _ hk => hk.1.2.2.2))) | (dsimp only; exact Kd.own_blk (Kd.V_away HO_213001.out (fun _ hk => hk.1.2.2.2)))) _).trans (((cell_far (p := ⟨gb214, _, none⟩) (by first | exact Kd.own_blk (Kd.V_away HO_213001.out (fun _ hk => hk.1.2.2.2)) | (rw [add_block]; exact Kd.own_blk (Kd.V_away HO_213001.out (fun _ hk => hk.1.2.2.2))) | (show (Addr.add _ _).block ≠ _; rw [add_block]; exact Kd.own_blk (Kd.V_away HO_213001.out (fun _ hk => hk.1.2.2.2))) | (dsimp only; exact Kd.own_blk (Kd.V_away HO_213001.out (fun _ hk => hk.1.2.2.2)))) _).trans (hHeld.2.2.2.1)))))), ((cell_far (p := ⟨gb214, _, none⟩) (by first | exact Kd.own_blk (Kd.V_away HO_213001.out (fun _ hk => hk.1.2.2.2)) | (rw [add_block]; exact Kd.own_blk (Kd.V_away HO_213001.out (fun _ hk => hk.1.2.2.2))) | (show (Addr.add _ _).block ≠ _; rw [add_block]; exact Kd.own_blk (Kd.V_away HO_213001.out (fun _ hk => hk.1.2.2.2))) | (dsimp only; exact Kd.own_blk (Kd.V_away HO_213001.out (fun _ hk => hk.1.2.2.2)))) _).trans (((cell_far (p := ⟨gb214, _, none⟩) (by first | exact Kd.own_blk (Kd.V_away HO_213001.out (fun _ hk => hk.1.2.2.2)) | (rw [add_block]; exact Kd.own_blk (Kd.V_away HO_213001.out (fun _ hk => hk.1.2.2.2))) | (show (Addr.add _ _).block ≠ _; rw [add_block]; exact Kd.own_blk (Kd.V_away HO_213001.out (fun _ hk => hk.1.2.2.2))) | (dsimp only; exact Kd.own_blk (Kd.V_away HO_213001.out (fun _ hk => hk.1.2.2.2)))) _).trans (((cell_far (p := ⟨gb214, _, none⟩) (by first | exact Kd.own_blk (Kd.V_away HO_213001.out (fun _ hk => hk.1.2.2.2)) | (rw [add_block]; exact Kd.own_blk (Kd.V_away HO_213001.out (fun _ hk => hk.1.2.2.2))) | (show (Addr.add _ _).block ≠ _; rw [add_block]; exact Kd.own_blk (Kd.V_away HO_213001.out (fun _ hk => hk.1.2.2.2))) | (dsimp only; exact Kd.own_blk (Kd.V_away HO_213001.out (fun _ hk => hk.1.2.2.2)))) _).trans (hHeld.2.2.2.2.1)))))), ((cell_far (p := ⟨gb214, _, none⟩) (by first | exact Kd.own_blk (Kd.V_away HO_213001.out (fun _ hk => hk.1.2.2.2)) | (rw [add_block]; exact Kd.own_blk (Kd.V_away HO_213001.out (fun _ hk => hk.1.2.2.2))) | (show (Addr.add _ _).block ≠ _; rw [add_block]; exact Kd.own_blk (Kd.V_away HO_213001.out (fun _ hk => hk.1.2.2.2))) | (dsimp only; exact Kd.own_blk (Kd.V_away HO_213001.out (fun _ hk => hk.1.2.2.2)))) _).trans (((cell_far (p := ⟨gb214, _, none⟩) (by first | exact Kd.own_blk (Kd.V_away HO_213001.out (fun _ hk => hk.1.2.2.2)) | (rw [add_block]; exact Kd.own_blk (Kd.V_away HO_213001.out (fun _ hk => hk.1.2.2.2))) | (show (Addr.add _ _).block ≠ _; rw [add_block]; exact Kd.own_blk (Kd.V_away HO_213001.out (fun _ hk => hk.1.2.2.2))) | (dsimp only; exact Kd.own_blk (Kd.V_away HO_213001.out (fun _ hk => hk.1.2.2.2)))) _).trans (((cell_far (p := ⟨gb214, _, none⟩) (by first | exact Kd.own_blk (Kd.V_away HO_213001.out (fun _ hk => hk.1.2.2.2)) | (rw [add_block]; exact Kd.own_blk (Kd.V_away HO_213001.out (fun _ hk => hk.1.2.2.2))) | (show (Addr.add _ _).block ≠ _; rw [add_block]; exact Kd.own_blk (Kd.V_away HO_213001.out (fun _ hk => hk.1.2.2.2))) | (dsimp only; exact Kd.own_blk (Kd.V_away HO_213001.out (fun _ hk => hk.1.2.2.2)))) _).trans (hHeld.2.2.2.2.2.1)))))), ((cell_far (p := ⟨gb214, _, none⟩) (by first | exact Kd.own_blk (Kd.V_away HO_213001.out (fun _ hk => hk.1.2.2.2)) | (rw [add_block]; exact Kd.own_blk (Kd.V_away HO_213001.out (fun _ hk => hk.1.2.2.2))) | (show (Addr.add _ _).block ≠ _; rw [add_block]; exact Kd.own_blk (Kd.V_away HO_213001.out (fun _ hk => hk.1.2.2.2))) | (dsimp only; exact Kd.own_blk (Kd.V_away HO_213001.out (fun _ hk => hk.1.2.2.2)))) _).trans (((cell_far (p := ⟨gb214, _, none⟩) (by first | exact Kd.own_blk (Kd.V_away HO_213001.out (fun _ hk => hk.1.2.2.2)) | (rw [add_block]; exact Kd.own_blk (Kd.V_away HO_213001.out (fun _ hk => hk.1.2.2.2))) | (show (Addr.add _ _).block ≠ _; rw [add_block]; exact Kd.own_blk (Kd.V_away HO_213001.out (fun _ hk => hk.1.2.2.2))) | (dsimp only; exact Kd.own_blk (Kd.V_away HO_213001.out (fun _ hk => hk.1.2.2.2)))) _).trans (((cell_far (p := ⟨gb214, _, none⟩) (by first | exact Kd.own_blk (Kd.V_away HO_213001.out (fun _ hk => hk.1.2.2.2)) | (rw [add_block]; exact Kd.own_blk (Kd.V_away HO_213001.out (fun _ hk => hk.1.2.2.2))) | (show (Addr.add _ _).block ≠ _; rw [add_block]; exact Kd.own_blk (Kd.V_away HO_213001.out (fun _ hk => hk.1.2.2.2))) | (dsimp only; exact Kd.own_blk (Kd.V_away HO_213001.out (fun _ hk => hk.1.2.2.2)))) _).trans (hHeld.2.2.2.2.2.2.1)))))), ((cell_far (p := ⟨gb214, _, none⟩) (by first | exact Kd.own_blk (Kd.V_away HO_213001.out (fun _ hk => hk.1.2.2.2)) | (rw [add_block]; exact Kd.own_blk (Kd.V_away HO_213001.out (fun _ hk => hk.1.2.2.2))) | (show (Addr.add _ _).block ≠ _; rw [add_block]; exact Kd.own_blk (Kd.V_away HO_213001.out (fun _ hk => hk.1.2.2.2))) | (dsimp only; exact Kd.own_blk (Kd.V_away HO_213001.out (fun _ hk => hk.1.2.2.2)))) _).trans (((cell_far (p := ⟨gb214, _, none⟩) (by first | exact Kd.own_blk (Kd.V_away HO_213001.out (fun _ hk => hk.1.2.2.2)) | (rw [add_block]; exact Kd.own_blk (Kd.V_away HO_213001.out (fun _ hk => hk.1.2.2.2))) | (show (Addr.add _ _).block ≠ _; rw [add_block]; exact Kd.own_blk (Kd.V_away HO_213001.out (fun _ hk => hk.1.2.2.2))) | (dsimp only; exact Kd.own_blk (Kd.V_away HO_213001.out (fun _ hk => hk.1.2.2.2)))) _).trans (((cell_far (p := ⟨gb214, _, none⟩) (by first | exact Kd.own_blk (Kd.V_away HO_213001.out (fun _ hk => hk.1.2.2.2)) | (rw [add_block]; exact Kd.own_blk (Kd.V_away HO_213001.out (fun _ hk => hk.1.2.2.2))) | (show (Addr.add _ _).block ≠ _; rw [add_block]; exact Kd.own_blk (Kd.V_away HO_213001.out (fun _ hk => hk.1.2.2.2))) | (dsimp only; exact Kd.own_blk (Kd.V_away HO_213001.out (fun _ hk => hk.1.2.2.2)))) _).trans (hHeld.2.2.2.2.2.2.2))))))⟩ (fun hHeld => ?_)
                  clear hK K
                  refine pure_ (i := 18) (N := some 6) (v := ?_) (a' := ?_) #[true, true, true, true, true, true, true, true, true, true, true, true, true, true, true, true, true, true, true] rfl rfl (any_of HT_.out (by kernel_rfl)) (fun _ _ _ h => h) (Or.inl ⟨by rfl, ?_⟩) ?_ ?_
                  rotate_left
                  · intro w'
                    go_simp
                    with_reducible rfl
                  rotate_left
                  · simp only [Act.put, List.setIfInBounds_toArray, List.set_cons_zero, List.set_cons_succ, i64_w, i32_w]
                    rfl
                  refine done_ (done_of HT_.out (by kernel_rfl)) ?_
                  try go_wp2
                  refine bodyPost_ret (results_list (rs := [.cell 4 32, .cell 5 33, .tmp 6]) rfl (by simp) (.cell gb213 32 #[.int .i64 a0_0, .slice Ao29 t218.length co29] (0, 0) _ rfl (by (with_reducible repeat (first | refine blk_drewN ?_ _ | refine blk_drew ?_ | refine blk_alloc ?_ _)); refine blk_far ?_ NB213_214.out _; (with_reducible repeat (first | refine blk_drewN ?_ _ | refine blk_drew ?_ | refine blk_alloc ?_ _)); refine blk_far ?_ NB213_214.out _; (with_reducible repeat (first | refine blk_drewN ?_ _ | refine blk_drew ?_ | refine blk_alloc ?_ _)); refine blk_far ?_ NB213_214.out _; (with_reducible repeat (first | refine blk_drewN ?_ _ | refine blk_drew ?_ | refine blk_alloc ?_ _)); refine blk_put (cs := #[.int .i64 a0_0, .slice none 0 0]) ?_ 1 _ rfl; (with_reducible repeat (first | refine blk_drewN ?_ _ | refine blk_drew ?_ | refine blk_alloc ?_ _)); refine blk_put (cs := #[.int .i64 x214000_1, .slice none 0 0]) ?_ 0 _ rfl; (with_reducible repeat (first | refine blk_drewN ?_ _ | refine blk_drew ?_ | refine blk_alloc ?_ _)); exact BK213.out) Try.underlying32 rfl (by kernel_rfl) (.cell gb214 33 #[.int .i64 ((rd_T33 l0_1 x8_1).f0), .string ((rd_T33 l0_1 x8_1).f1), .bool ((rd_T33 l0_1 x8_1).f2)] (0, 0) _ rfl (by (with_reducible repeat (first | refine blk_drewN ?_ _ | refine blk_drew ?_ | refine blk_alloc ?_ _)); refine blk_put (cs := #[.int .i64 ((rd_T33 l0_1 x8_1).f0), .string ((rd_T33 l0_1 x8_1).f1), .bool x215002_1]) ?_ 2 _ rfl; (with_reducible repeat (first | refine blk_drewN ?_ _ | refine blk_drew ?_ | refine blk_alloc ?_ _)); refine blk_put (cs := #[.int .i64 ((rd_T33 l0_1 x8_1).f0), .string x215001_1, .bool x215002_1]) ?_ 1 _ rfl; (with_reducible repeat (first | refine blk_drewN ?_ _ | refine blk_drew ?_ | refine blk_alloc ?_ _)); refine blk_put (cs := #[.int .i64 x215000_1, .string x215001_1, .bool x215002_1]) ?_ 0 _ rfl; (with_reducible repeat (first | refine blk_drewN ?_ _ | refine blk_drew ?_ | refine blk_alloc ?_ _)); refine blk_far ?_ NB214_213.out _; (with_reducible repeat (first | refine blk_drewN ?_ _ | refine blk_drew ?_ | refine blk_alloc ?_ _)); refine blk_far ?_ NB214_213.out _; (with_reducible repeat (first | refine blk_drewN ?_ _ | refine blk_drew ?_ | refine blk_alloc ?_ _)); exact BK214.out) Try.underlying33 rfl (by kernel_rfl) (.tmp .nil)))) rfl ?_
                  exact ⟨_, by first | rfl | (simp [errW_none, errW_some] <;> rfl) | (simp [*, errW_none, errW_some] <;> rfl), Kd.R_V (by (with_reducible repeat (first | apply Kd.R_alloc | apply Kd.R_drewN | apply Kd.R_drew)); exact Kd.R_mono (Kd.R_far (p := ⟨gb214, 2, none⟩) (Kd.R_far (p := ⟨gb214, 1, none⟩) (Kd.R_far (p := ⟨gb214, 0, none⟩) (Kd.R_far (p := ⟨gb213, 1, none⟩) (Kd.R_far (p := ⟨gb213, 0, none⟩) (Kd.R_mono (Kd.R_types HO220.out BK213.out (by decide)) (fun k_ hk => (⟨hk, hk.1.2⟩ : _ ∧ k_ ≠ gb214))) (fun _ hk => hk.1.2) (.int .i64 a0_0)) (fun _ hk => hk.1.2) (.slice Ao29 t218.length co29)) (fun _ hk => hk.2) (.int .i64 ((rd_T33 l0_1 x8_1).f0))) (fun _ hk => hk.2) (.string ((rd_T33 l0_1 x8_1).f1))) (fun _ hk => hk.2) (.bool ((rd_T33 l0_1 x8_1).f2))) (fun _ hk => (.inr (hk.1.1.1.1)))), by repeat (first | (with_reducible first | exact HB.out | apply below_alloc | apply pw_below_drewN | apply below_drew1 | refine below_set ?_ GE212.out | refine below_set ?_ GE213.out | refine below_set ?_ GE214.out) | exact HB.out)⟩
                · rw [if_neg c22] at H
                  have c22b0 : (((rd_T33 l0_1 x8_1).f0) == a1) = false := beq_eq_false_iff_ne.mpr c22
                  have c22b1 : (((rd_T33 l0_1 x8_1).f0) != a1) = true := bne_iff_ne.mpr c22
                  have H' := Aside0.mk H
                  clear H
                  have hnb35 := NB212_213.out
                  have hnc35 := NB213_212.out
                  have hnb36 := NB212_214.out
                  have hnc36 := NB214_212.out
                  have hcz37_0 : wc.cell? ⟨gb212, 0, none⟩ = some (.int .i64 a0_0) := (blk_cell BK212.out 0).trans rfl
                  have hcz37_1 : wc.cell? ⟨gb212, 1, none⟩ = some (.slice A0_1 l0_1.length c0_1) := (blk_cell BK212.out 1).trans rfl
                  have hfz37_0 := blk_frozen BK212.out 0
                  have hfz37_1 := blk_frozen BK212.out 1
                  have p216 : 0 ≤ (x8_1 : Int) := of_decide_eq_true (by first | (with_reducible assumption) | assumption)
                  have q216 : x8_1 < (l0_1.length : Int) := of_decide_eq_true (by first | (with_reducible assumption) | assumption)
                  obtain ⟨ad216, e216, hx216_0, hx216_1, hx216_2⟩ := at_T33 (Kd.V_reads' HO_213001.out).2.2 x8_1 p216 q216
                  cases e216
                  replace p216 := eq_true p216
                  replace q216 := eq_true q216
                  go_wp2
                  go_roundg kj10
                  case measure => have := HK1.out; have := HJ10.out; omega
                  case rel => exact ⟨(wrap64 (x8_1 + 1)), (x214000_1), (x215000_1), (x215001_1), (x215002_1), (by first | rfl | (simp; done) | (simp [*]; done)), H', ⟨by have := HK1.out; have := HJ10.out; omega⟩, ⟨by (with_reducible repeat (first | apply Kd.V_alloc | apply Kd.V_drewN | apply Kd.V_drew)); exact HO_213001.out⟩, ⟨by (with_reducible repeat (first | refine blk_drewN ?_ _ | refine blk_drew ?_ | refine blk_alloc ?_ _)); exact BK212.out⟩, ⟨by (with_reducible repeat (first | refine blk_drewN ?_ _ | refine blk_drew ?_ | refine blk_alloc ?_ _)); exact BK213.out⟩, ⟨by (with_reducible repeat (first | refine blk_drewN ?_ _ | refine blk_drew ?_ | refine blk_alloc ?_ _)); exact BK214.out⟩, ⟨by repeat (first | (with_reducible first | exact HB.out | apply below_alloc | apply pw_below_drewN | apply below_drew1 | refine below_set ?_ GE212.out | refine below_set ?_ GE213.out | refine below_set ?_ GE214.out) | exact HB.out)⟩⟩
              · rw [if_neg c21] at H
                exact absurd H (by simp)
            · rw [if_neg c20] at H
              exact absurd H (by simp)
          · replace c19 := Bool.eq_false_iff.mpr c19
            subst c19
            have H1 : (some (a0_0, l0_1, 0, (⟨#[]⟩ : ByteArray), false, false)) = some (r1, r2, r3, r4, r5, r6) := by rw [if_neg (show ¬ (false = true) by decide)] at H; exact H
            clear H
            have H := H1
            clear H1
            simp only [Option.some.injEq, Prod.mk.injEq] at H
            obtain ⟨rfl, rfl, rfl, rfl, rfl, rfl⟩ := H
            have hnb38 := NB212_213.out
            have hnc38 := NB213_212.out
            have hnb39 := NB212_214.out
            have hnc39 := NB214_212.out
            have hcz40_0 : wc.cell? ⟨gb212, 0, none⟩ = some (.int .i64 a0_0) := (blk_cell BK212.out 0).trans rfl
            have hcz40_1 : wc.cell? ⟨gb212, 1, none⟩ = some (.slice A0_1 l0_1.length c0_1) := (blk_cell BK212.out 1).trans rfl
            have hfz40_0 := blk_frozen BK212.out 0
            have hfz40_1 := blk_frozen BK212.out 1
            have hnb41 := NB213_214.out
            have hnc41 := NB214_213.out
            have hcz42_0 : wc.cell? ⟨gb213, 0, none⟩ = some (.int .i64 x214000_1) := (blk_cell BK213.out 0).trans rfl
            have hcz42_1 : wc.cell? ⟨gb213, 1, none⟩ = some (.slice none 0 0) := (blk_cell BK213.out 1).trans rfl
            have hfz42_0 := blk_frozen BK213.out 0
            have hfz42_1 := blk_frozen BK213.out 1
            have hcz43_0 : wc.cell? ⟨gb214, 0, none⟩ = some (.int .i64 x215000_1) := (blk_cell BK214.out 0).trans rfl
            have hcz43_1 : wc.cell? ⟨gb214, 1, none⟩ = some (.string x215001_1) := (blk_cell BK214.out 1).trans rfl
            have hcz43_2 : wc.cell? ⟨gb214, 2, none⟩ = some (.bool x215002_1) := (blk_cell BK214.out 2).trans rfl
            have hfz43_0 := blk_frozen BK214.out 0
            have hfz43_1 := blk_frozen BK214.out 1
            have hfz43_2 := blk_frozen BK214.out 2
            go_wp2
            refine bodyPost_ret (results_list (rs := [.cell 4 32, .cell 5 33, .tmp 6]) rfl (by simp) (.cell gb213 32 #[.int .i64 a0_0, .slice A0_1 l0_1.length c0_1] (0, 0) _ rfl (by (with_reducible repeat (first | refine blk_drewN ?_ _ | refine blk_drew ?_ | refine blk_alloc ?_ _)); refine blk_far ?_ NB213_214.out _; (with_reducible repeat (first | refine blk_drewN ?_ _ | refine blk_drew ?_ | refine blk_alloc ?_ _)); refine blk_far ?_ NB213_214.out _; (with_reducible repeat (first | refine blk_drewN ?_ _ | refine blk_drew ?_ | refine blk_alloc ?_ _)); refine blk_far ?_ NB213_214.out _; (with_reducible repeat (first | refine blk_drewN ?_ _ | refine blk_drew ?_ | refine blk_alloc ?_ _)); refine blk_put (cs := #[.int .i64 a0_0, .slice none 0 0]) ?_ 1 _ rfl; (with_reducible repeat (first | refine blk_drewN ?_ _ | refine blk_drew ?_ | refine blk_alloc ?_ _)); refine blk_put (cs := #[.int .i64 x214000_1, .slice none 0 0]) ?_ 0 _ rfl; (with_reducible repeat (first | refine blk_drewN ?_ _ | refine blk_drew ?_ | refine blk_alloc ?_ _)); exact BK213.out) Try.underlying32 rfl (by kernel_rfl) (.cell gb214 33 #[.int .i64 0, .string (⟨#[]⟩ : ByteArray), .bool false] (0, 0) _ rfl (by (with_reducible repeat (first | refine blk_drewN ?_ _ | refine blk_drew ?_ | refine blk_alloc ?_ _)); refine blk_put (cs := #[.int .i64 0, .string (⟨#[]⟩ : ByteArray), .bool x215002_1]) ?_ 2 _ rfl; (with_reducible repeat (first | refine blk_drewN ?_ _ | refine blk_drew ?_ | refine blk_alloc ?_ _)); refine blk_put (cs := #[.int .i64 0, .string x215001_1, .bool x215002_1]) ?_ 1 _ rfl; (with_reducible repeat (first | refine blk_drewN ?_ _ | refine blk_drew ?_ | refine blk_alloc ?_ _)); refine blk_put (cs := #[.int .i64 x215000_1, .string x215001_1, .bool x215002_1]) ?_ 0 _ rfl; (with_reducible repeat (first | refine blk_drewN ?_ _ | refine blk_drew ?_ | refine blk_alloc ?_ _)); refine blk_far ?_ NB214_213.out _; (with_reducible repeat (first | refine blk_drewN ?_ _ | refine blk_drew ?_ | refine blk_alloc ?_ _)); refine blk_far ?_ NB214_213.out _; (with_reducible repeat (first | refine blk_drewN ?_ _ | refine blk_drew ?_ | refine blk_alloc ?_ _)); exact BK214.out) Try.underlying33 rfl (by kernel_rfl) (.tmp .nil)))) rfl ?_
            exact ⟨_, by first | rfl | (simp [errW_none, errW_some] <;> rfl) | (simp [*, errW_none, errW_some] <;> rfl), by (with_reducible repeat (first | apply Kd.V_alloc | apply Kd.V_drewN | apply Kd.V_drew)); exact Kd.V_mono (Kd.V_far (p := ⟨gb214, 2, none⟩) (Kd.V_far (p := ⟨gb214, 1, none⟩) (Kd.V_far (p := ⟨gb214, 0, none⟩) (Kd.V_far (p := ⟨gb213, 1, none⟩) (Kd.V_far (p := ⟨gb213, 0, none⟩) (Kd.V_mono (Kd.V_mono HO_213001.out (fun k_ hk => (⟨hk, hk.2.2.1⟩ : _ ∧ k_ ≠ gb213))) (fun k_ hk => (⟨hk, hk.1.2.2.2⟩ : _ ∧ k_ ≠ gb214))) (fun _ hk => hk.1.2) (.int .i64 a0_0)) (fun _ hk => hk.1.2) (.slice A0_1 l0_1.length c0_1)) (fun _ hk => hk.2) (.int .i64 0)) (fun _ hk => hk.2) (.string (⟨#[]⟩ : ByteArray))) (fun _ hk => hk.2) (.bool false)) (fun _ hk => hk.1.1.1), by repeat (first | (with_reducible first | exact HB.out | apply below_alloc | apply pw_below_drewN | apply below_drew1 | refine below_set ?_ GE212.out | refine below_set ?_ GE213.out | refine below_set ?_ GE214.out) | exact HB.out)⟩

end Go.Proofs.Ytgjngaeoojcioaa.X
