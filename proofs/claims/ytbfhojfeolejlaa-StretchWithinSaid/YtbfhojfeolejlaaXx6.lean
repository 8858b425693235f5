-- Written by a program of this session (wip/tools/xprint.py) out of the translation. Not trusted: Lean checks it.
import Derived.Test.YtbfhojfeolejlaaXx0
import Derived.Test.YtbfhojfeolejlaaXx3
namespace Go.Proofs.Ytbfhojfeolejlaa.X
open Go.RowKit Go.Proofs.YtbfhojfeolejlaaW.PrintWords Go.Proofs.YtbfhojfeolejlaaW.PrintLast Go.Proofs.YtbfhojfeolejlaaW.PrintMore
attribute [local go_sem] max2_int min2_int max_two min_two max_three min_three max_four min_four max2_str min2_str   -- for this text's walks alone
set_option linter.unusedVariables false
set_option linter.unusedSimpArgs false

/-! ### weirkeeperlaw03_StretchWithin_v0: function 4 -/
def weirkeeperlaw03_StretchWithin_v0.j0 : Nat → Bool → Option (Bool)
  | 0, _ => none
  | k + 1, x35 => if x35 = true then ((weirkeeperlaw03_awake.f k).bind fun t166 => (some t166)) else (none)
def weirkeeperlaw03_StretchWithin_v0.f (k : Nat) (a0_0 : ByteArray) (a0_1 : ByteArray) (a0_2 : Bool) (a1_0 : ByteArray) (a1_1 : ByteArray) (a1_2 : Bool) (a2_0 : ByteArray) (a2_1 : ByteArray) (a2_2 : Bool) (a3 : ByteArray) (a4 : ByteArray) : Option (Bool) := (weirkeeperlaw03_small.f a0_0 a0_1 a0_2).bind fun t163 => (if t163 = true then ((weirkeeperlaw03_small.f a1_0 a1_1 a1_2).bind fun t164 => (if t164 = true then ((weirkeeperlaw03_small.f a2_0 a2_1 a2_2).bind fun t165 => (if t165 = true then (if (a3.size : Int) > 300 then (weirkeeperlaw03_StretchWithin_v0.j0 k true) else (weirkeeperlaw03_StretchWithin_v0.j0 k (decide ((a4.size : Int) > 300)))) else (weirkeeperlaw03_StretchWithin_v0.j0 k true))) else (weirkeeperlaw03_StretchWithin_v0.j0 k true))) else (weirkeeperlaw03_StretchWithin_v0.j0 k true))
theorem weirkeeperlaw03_StretchWithin_v0.mono_l : ∀ k, (∀ y0, LeO (weirkeeperlaw03_StretchWithin_v0.j0 k y0) (weirkeeperlaw03_StretchWithin_v0.j0 (k + 1) y0))
  | 0 => fun _ r h => by simp [weirkeeperlaw03_StretchWithin_v0.j0] at h
  | k + 1 => by
    have ih0 := weirkeeperlaw03_StretchWithin_v0.mono_l k
    · intro y0
      unfold weirkeeperlaw03_StretchWithin_v0.j0
      repeat' first
      | (with_reducible exact ih0 _)
      | (with_reducible exact stretch_Meet.mono _ _)
      | (with_reducible exact weirkeeperlaw03_awake.mono _)
      | (with_reducible exact LeO.refl _)
      | (with_reducible exact LeO.none _)
      | (with_reducible refine LeO.ite ?_ ?_)
      | (with_reducible refine LeO.bind ?_ (fun _ => ?_))
      | exact ih0 _
      | exact stretch_Meet.mono _ _
      | exact weirkeeperlaw03_awake.mono _
      | exact LeO.none _
      | refine LeO.ite ?_ ?_
      | refine LeO.bind ?_ (fun _ => ?_)
theorem weirkeeperlaw03_StretchWithin_v0.mono : ∀ a0 a1 a2 a3 a4 a5 a6 a7 a8 a9 a10 k, LeO (weirkeeperlaw03_StretchWithin_v0.f k a0 a1 a2 a3 a4 a5 a6 a7 a8 a9 a10) (weirkeeperlaw03_StretchWithin_v0.f (k + 1) a0 a1 a2 a3 a4 a5 a6 a7 a8 a9 a10) := by
  intro a0 a1 a2 a3 a4 a5 a6 a7 a8 a9 a10 k
  have ih0 := weirkeeperlaw03_StretchWithin_v0.mono_l k
  unfold weirkeeperlaw03_StretchWithin_v0.f
  repeat' first
      | (with_reducible exact ih0 _)
      | (with_reducible exact stretch_Meet.mono _ _)
      | (with_reducible exact weirkeeperlaw03_awake.mono _)
      | (with_reducible exact LeO.refl _)
      | (with_reducible exact LeO.none _)
      | (with_reducible refine LeO.ite ?_ ?_)
      | (with_reducible refine LeO.bind ?_ (fun _ => ?_))
      | exact ih0 _
      | exact stretch_Meet.mono _ _
      | exact weirkeeperlaw03_awake.mono _
      | exact LeO.none _
      | refine LeO.ite ?_ ?_
      | refine LeO.bind ?_ (fun _ => ?_)
set_option maxHeartbeats 8000000 in
set_option maxRecDepth 100000 in
theorem weirkeeperlaw03_StretchWithin_v0.calls (k : Nat) (a0_0 : ByteArray) (a0_1 : ByteArray) (a0_2 : Bool) (a1_0 : ByteArray) (a1_1 : ByteArray) (a1_2 : Bool) (a2_0 : ByteArray) (a2_1 : ByteArray) (a2_2 : Bool) (a3 : ByteArray) (a4 : ByteArray) (r : Bool) (w : World) (h : weirkeeperlaw03_StretchWithin_v0.f k a0_0 a0_1 a0_2 a1_0 a1_1 a1_2 a2_0 a2_1 a2_2 a3 a4 = some r) :
    Calls Try.prog 4 #[.agg #[.string a0_0, .string a0_1, .bool a0_2], .agg #[.string a1_0, .string a1_1, .bool a1_2], .agg #[.string a2_0, .string a2_1, .bool a2_2], .string a3, .string a4] w fun e w' => e = .returned (.bool r) ∧ Below w.heap.size w w' := by
  have hu25 := Try.underlying25
  have HB := Aside0.mk (Below.refl w.heap.size w)
  have H : ((weirkeeperlaw03_small.f a0_0 a0_1 a0_2).bind fun t163 => (if t163 = true then ((weirkeeperlaw03_small.f a1_0 a1_1 a1_2).bind fun t164 => (if t164 = true then ((weirkeeperlaw03_small.f a2_0 a2_1 a2_2).bind fun t165 => (if t165 = true then (if (a3.size : Int) > 300 then (weirkeeperlaw03_StretchWithin_v0.j0 k true) else (weirkeeperlaw03_StretchWithin_v0.j0 k (decide ((a4.size : Int) > 300)))) else (weirkeeperlaw03_StretchWithin_v0.j0 k true))) else (weirkeeperlaw03_StretchWithin_v0.j0 k true))) else (weirkeeperlaw03_StretchWithin_v0.j0 k true))) = some r := h
  clear h
  have HC6 := Aside0.mk H
  clear H
  go_enter Try.func4, Try.ntmps4
  go_upto_region 1 with (first | ((with_reducible refine gate_dst (N := 5) rfl ?_); (try (refine gate_guard (by rfl) ?_; dsimp only)); refine box_event ?hg (N := 5) ?hd (cs := #[.string a0_0, .string a0_1, .bool a0_2]) (t := 25) ?hr ?_; (case hd => rfl); (case hg => rfl); (case hr => first | (go_simp; done) | (go_simp; rfl)); intro gb160 hg w7 hbox hb; have n0_ := Aside0.mk (below_step (by repeat (first | (with_reducible first | exact HB.out | apply below_alloc | apply pw_below_drewN | apply below_drew1) | exact HB.out)) hb); have n1_ := Aside0.mk (hbox); have n2_ := Aside0.mk ((by rw [hg]; exact (below_size (by repeat (first | (with_reducible first | exact HB.out | apply below_alloc | apply pw_below_drewN | apply below_drew1) | exact HB.out))) : w.heap.size ≤ gb160)); have n3_ := Aside0.mk ((by rw [hg]; exact (below_size (by repeat (first | (with_reducible first | exact HB.out | apply below_alloc | apply pw_below_drewN | apply below_drew1) | exact HB.out))) : w.heap.size ≤ gb160)); clear HB; have HB := n0_; have BK160 := n1_; have GW160 := n2_; have GE160 := n3_; clear n0_ n1_ n2_ n3_; clear hb hbox hg) | ((with_reducible refine gate_dst (N := 6) rfl ?_); (try (refine gate_guard (by rfl) ?_; dsimp only)); refine box_event ?hg (N := 6) ?hd (cs := #[.string a1_0, .string a1_1, .bool a1_2]) (t := 25) ?hr ?_; (case hd => rfl); (case hg => rfl); (case hr => first | (go_simp; done) | (go_simp; rfl)); intro gb161 hg w8 hbox hb; have n0_ := Aside0.mk (blk_below (g := gb160) (o := .cells #[.string a0_0, .string a0_1, .bool a0_2] 25 (0, 0)) (by (with_reducible repeat (first | refine blk_drewN ?_ _ | refine blk_drew ?_ | refine blk_alloc ?_ _)); exact BK160.out) hb); have n1_ := Aside0.mk (below_step (by repeat (first | (with_reducible first | exact HB.out | apply below_alloc | apply pw_below_drewN | apply below_drew1 | refine below_set ?_ GE160.out) | exact HB.out)) hb); have n2_ := Aside0.mk (hbox); have n3_ := Aside0.mk ((by rw [hg]; exact (below_size (by repeat (first | (with_reducible first | exact HB.out | apply below_alloc | apply pw_below_drewN | apply below_drew1 | refine below_set ?_ GE160.out) | exact HB.out))) : w.heap.size ≤ gb161)); have n4_ := Aside0.mk ((by rw [hg]; exact (below_size (by repeat (first | (with_reducible first | exact HB.out | apply below_alloc | apply pw_below_drewN | apply below_drew1 | refine below_set ?_ GE160.out) | exact HB.out))) : w.heap.size ≤ gb161)); have n5_ := Aside0.mk ((by rw [hg]; exact Nat.ne_of_lt (blk_lt (g := gb160) (o := .cells #[.string a0_0, .string a0_1, .bool a0_2] 25 (0, 0)) (by (with_reducible repeat (first | refine blk_drewN ?_ _ | refine blk_drew ?_ | refine blk_alloc ?_ _)); exact BK160.out)) : gb160 ≠ gb161)); have n6_ := Aside0.mk ((by rw [hg]; exact Nat.ne_of_gt (blk_lt (g := gb160) (o := .cells #[.string a0_0, .string a0_1, .bool a0_2] 25 (0, 0)) (by (with_reducible repeat (first | refine blk_drewN ?_ _ | refine blk_drew ?_ | refine blk_alloc ?_ _)); exact BK160.out)) : gb161 ≠ gb160)); clear BK160; clear HB; have BK160 := n0_; have HB := n1_; have BK161 := n2_; have GW161 := n3_; have GE161 := n4_; have NB160_161 := n5_; have NB161_160 := n6_; clear n0_ n1_ n2_ n3_ n4_ n5_ n6_; clear hb hbox hg) | ((with_reducible refine gate_dst (N := 7) rfl ?_); (try (refine gate_guard (by rfl) ?_; dsimp only)); refine box_event ?hg (N := 7) ?hd (cs := #[.string a2_0, .string a2_1, .bool a2_2]) (t := 25) ?hr ?_; (case hd => rfl); (case hg => rfl); (case hr => first | (go_simp; done) | (go_simp; rfl)); intro gb162 hg w9 hbox hb; have n0_ := Aside0.mk (blk_below (g := gb160) (o := .cells #[.string a0_0, .string a0_1, .bool a0_2] 25 (0, 0)) (by (with_reducible repeat (first | refine blk_drewN ?_ _ | refine blk_drew ?_ | refine blk_alloc ?_ _)); exact BK160.out) hb); have n1_ := Aside0.mk (blk_below (g := gb161) (o := .cells #[.string a1_0, .string a1_1, .bool a1_2] 25 (0, 0)) (by (with_reducible repeat (first | refine blk_drewN ?_ _ | refine blk_drew ?_ | refine blk_alloc ?_ _)); exact BK161.out) hb); have n2_ := Aside0.mk (below_step (by repeat (first | (with_reducible first | exact HB.out | apply below_alloc | apply pw_below_drewN | apply below_drew1 | refine below_set ?_ GE160.out | refine below_set ?_ GE161.out) | exact HB.out)) hb); have n3_ := Aside0.mk (hbox); have n4_ := Aside0.mk ((by rw [hg]; exact (below_size (by repeat (first | (with_reducible first | exact HB.out | apply below_alloc | apply pw_below_drewN | apply below_drew1 | refine below_set ?_ GE160.out | refine below_set ?_ GE161.out) | exact HB.out))) : w.heap.size ≤ gb162)); have n5_ := Aside0.mk ((by rw [hg]; exact (below_size (by repeat (first | (with_reducible first | exact HB.out | apply below_alloc | apply pw_below_drewN | apply below_drew1 | refine below_set ?_ GE160.out | refine below_set ?_ GE161.out) | exact HB.out))) : w.heap.size ≤ gb162)); have n6_ := Aside0.mk ((by rw [hg]; exact Nat.ne_of_lt (blk_lt (g := gb160) (o := .cells #[.string a0_0, .string a0_1, .bool a0_2] 25 (0, 0)) (by (with_reducible repeat (first | refine blk_drewN ?_ _ | refine blk_drew ?_ | refine blk_alloc ?_ _)); exact BK160.out)) : gb160 ≠ gb162)); have n7_ := Aside0.mk ((by rw [hg]; exact Nat.ne_of_gt (blk_lt (g := gb160) (o := .cells #[.string a0_0, .string a0_1, .bool a0_2] 25 (0, 0)) (by (with_reducible repeat (first | refine blk_drewN ?_ _ | refine blk_drew ?_ | refine blk_alloc ?_ _)); exact BK160.out)) : gb162 ≠ gb160)); have n8_ := Aside0.mk ((by rw [hg]; exact Nat.ne_of_lt (blk_lt (g := gb161) (o := .cells #[.string a1_0, .string a1_1, .bool a1_2] 25 (0, 0)) (by (with_reducible repeat (first | refine blk_drewN ?_ _ | refine blk_drew ?_ | refine blk_alloc ?_ _)); exact BK161.out)) : gb161 ≠ gb162)); have n9_ := Aside0.mk ((by rw [hg]; exact Nat.ne_of_gt (blk_lt (g := gb161) (o := .cells #[.string a1_0, .string a1_1, .bool a1_2] 25 (0, 0)) (by (with_reducible repeat (first | refine blk_drewN ?_ _ | refine blk_drew ?_ | refine blk_alloc ?_ _)); exact BK161.out)) : gb162 ≠ gb161)); clear BK160; clear BK161; clear HB; have BK160 := n0_; have BK161 := n1_; have HB := n2_; have BK162 := n3_; have GW162 := n4_; have GE162 := n5_; have NB160_162 := n6_; have NB162_160 := n7_; have NB161_162 := n8_; have NB162_161 := n9_; clear n0_ n1_ n2_ n3_ n4_ n5_ n6_ n7_ n8_ n9_; clear hb hbox hg))
  (try simp only [Act.put, List.setIfInBounds_toArray, List.set_cons_zero, List.set_cons_succ])
  go_cut [35] (fun v35 wc => ∃ (kq : Nat) (x35_5 : Bool), v35 = .bool x35_5 ∧ Aside0 (weirkeeperlaw03_StretchWithin_v0.j0 kq x35_5 = some r) ∧ Aside0 (kq ≤ k) ∧ Aside0 (wc.heap[gb160]? = some (.cells #[.string a0_0, .string a0_1, .bool a0_2] 25 (0, 0))) ∧ Aside0 (wc.heap[gb161]? = some (.cells #[.string a1_0, .string a1_1, .bool a1_2] 25 (0, 0))) ∧ Aside0 (wc.heap[gb162]? = some (.cells #[.string a2_0, .string a2_1, .bool a2_2] 25 (0, 0))) ∧ Aside0 (Below w.heap.size w wc))
  case first =>
    have H := HC6.out
    clear HC6
    replace H := Option.bind_eq_some_iff.mp H
    obtain ⟨t163, A100, H⟩ := H
    replace H : (if t163 = true then ((weirkeeperlaw03_small.f a1_0 a1_1 a1_2).bind fun t164 => (if t164 = true then ((weirkeeperlaw03_small.f a2_0 a2_1 a2_2).bind fun t165 => (if t165 = true then (if (a3.size : Int) > 300 then (weirkeeperlaw03_StretchWithin_v0.j0 k true) else (weirkeeperlaw03_StretchWithin_v0.j0 k (decide ((a4.size : Int) > 300)))) else (weirkeeperlaw03_StretchWithin_v0.j0 k true))) else (weirkeeperlaw03_StretchWithin_v0.j0 k true))) else (weirkeeperlaw03_StretchWithin_v0.j0 k true)) = some r := H
    have A10 := Aside0.mk A100
    clear A100
    by_cases c11 : t163 = true
    · subst c11
      have H1 : ((weirkeeperlaw03_small.f a1_0 a1_1 a1_2).bind fun t164 => (if t164 = true then ((weirkeeperlaw03_small.f a2_0 a2_1 a2_2).bind fun t165 => (if t165 = true then (if (a3.size : Int) > 300 then (weirkeeperlaw03_StretchWithin_v0.j0 k true) else (weirkeeperlaw03_StretchWithin_v0.j0 k (decide ((a4.size : Int) > 300)))) else (weirkeeperlaw03_StretchWithin_v0.j0 k true))) else (weirkeeperlaw03_StretchWithin_v0.j0 k true))) = some r := by rw [if_pos rfl] at H; exact H
      clear H
      have H := H1
      clear H1
      replace H := Option.bind_eq_some_iff.mp H
      obtain ⟨t164, A120, H⟩ := H
      replace H : (if t164 = true then ((weirkeeperlaw03_small.f a2_0 a2_1 a2_2).bind fun t165 => (if t165 = true then (if (a3.size : Int) > 300 then (weirkeeperlaw03_StretchWithin_v0.j0 k true) else (weirkeeperlaw03_StretchWithin_v0.j0 k (decide ((a4.size : Int) > 300)))) else (weirkeeperlaw03_StretchWithin_v0.j0 k true))) else (weirkeeperlaw03_StretchWithin_v0.j0 k true)) = some r := H
      have A12 := Aside0.mk A120
      clear A120
      by_cases c13 : t164 = true
      · subst c13
        have H1 : ((weirkeeperlaw03_small.f a2_0 a2_1 a2_2).bind fun t165 => (if t165 = true then (if (a3.size : Int) > 300 then (weirkeeperlaw03_StretchWithin_v0.j0 k true) else (weirkeeperlaw03_StretchWithin_v0.j0 k (decide ((a4.size : Int) > 300)))) else (weirkeeperlaw03_StretchWithin_v0.j0 k true))) = some r := by rw [if_pos rfl] at H; exact H
        clear H
        have H := H1
        clear H1
        replace H := Option.bind_eq_some_iff.mp H
        obtain ⟨t165, A140, H⟩ := H
        replace H : (if t165 = true then (if (a3.size : Int) > 300 then (weirkeeperlaw03_StretchWithin_v0.j0 k true) else (weirkeeperlaw03_StretchWithin_v0.j0 k (decide ((a4.size : Int) > 300)))) else (weirkeeperlaw03_StretchWithin_v0.j0 k true)) = some r := H
        have A14 := Aside0.mk A140
        clear A140
        by_cases c15 : t165 = true
        · subst c15
          have H1 : (if (a3.size : Int) > 300 then (weirkeeperlaw03_StretchWithin_v0.j0 k true) else (weirkeeperlaw03_StretchWithin_v0.j0 k (decide ((a4.size : Int) > 300)))) = some r := by rw [if_pos rfl] at H; exact H
          clear H
          have H := H1
          clear H1
          by_cases c16 : (a3.size : Int) > 300
          · rw [if_pos c16] at H
            have c16b0 : decide (300 < (a3.size : Int)) = true := decide_eq_true c16
            have c16b1 : decide (300 < a3.size) = true := decide_eq_true (by omega)
            clear c16
            (first | rw [c16b0] | (simp only [i64_w, i32_w]; rw [c16b0]) | skip)
            have H' := Aside0.mk H
            clear H
            have hnb17 := NB160_161.out
            have hnc17 := NB161_160.out
            have hnb18 := NB160_162.out
            have hnc18 := NB162_160.out
            have hcz19_0 : w9.cell? ⟨gb160, 0, none⟩ = some (.string a0_0) := (blk_cell BK160.out 0).trans rfl
            have hcz19_1 : w9.cell? ⟨gb160, 1, none⟩ = some (.string a0_1) := (blk_cell BK160.out 1).trans rfl
            have hcz19_2 : w9.cell? ⟨gb160, 2, none⟩ = some (.bool a0_2) := (blk_cell BK160.out 2).trans rfl
            have hfz19_0 := blk_frozen BK160.out 0
            have hfz19_1 := blk_frozen BK160.out 1
            have hfz19_2 := blk_frozen BK160.out 2
            go_wp2_with (first | ((with_reducible refine gate_callee (f := 9) rfl ?_); refine goesL_ (some 14) rfl rfl Try.func9 (by kernel_rfl) rfl #[.agg #[.string a0_0, .string a0_1, .bool a0_2]] rfl (by (try simp only [List.map_toArray, List.map_cons, List.map_nil]); first | done | rfl | (simp only [List.length_drop, List.length_take]; rfl)) ?_; (with_reducible refine (weirkeeperlaw03_small.calls a0_0 a0_1 a0_2 true _ A10.out).mono ?_); rintro e w20 ⟨rfl, hb⟩; refine ⟨_, rfl, ?_⟩; have n0_ := Aside0.mk (blk_below (g := gb160) (o := .cells #[.string a0_0, .string a0_1, .bool a0_2] 25 (0, 0)) (by (with_reducible repeat (first | refine blk_drewN ?_ _ | refine blk_drew ?_ | refine blk_alloc ?_ _)); exact BK160.out) hb); have n1_ := Aside0.mk (blk_below (g := gb161) (o := .cells #[.string a1_0, .string a1_1, .bool a1_2] 25 (0, 0)) (by (with_reducible repeat (first | refine blk_drewN ?_ _ | refine blk_drew ?_ | refine blk_alloc ?_ _)); exact BK161.out) hb); have n2_ := Aside0.mk (blk_below (g := gb162) (o := .cells #[.string a2_0, .string a2_1, .bool a2_2] 25 (0, 0)) (by (with_reducible repeat (first | refine blk_drewN ?_ _ | refine blk_drew ?_ | refine blk_alloc ?_ _)); exact BK162.out) hb); have n3_ := Aside0.mk (below_step (by repeat (first | (with_reducible first | exact HB.out | apply below_alloc | apply pw_below_drewN | apply below_drew1 | refine below_set ?_ GE160.out | refine below_set ?_ GE161.out | refine below_set ?_ GE162.out) | exact HB.out)) hb); clear BK160; clear BK161; clear BK162; clear HB; have BK160 := n0_; have BK161 := n1_; have BK162 := n2_; have HB := n3_; clear n0_ n1_ n2_ n3_; (try clear hb); (try clear hb2); (try clear hk); (try clear hi); have hnb21 := NB161_162.out; have hnc21 := NB162_161.out; have hcz22_0 : w20.cell? ⟨gb161, 0, none⟩ = some (.string a1_0) := (blk_cell BK161.out 0).trans rfl; have hcz22_1 : w20.cell? ⟨gb161, 1, none⟩ = some (.string a1_1) := (blk_cell BK161.out 1).trans rfl; have hcz22_2 : w20.cell? ⟨gb161, 2, none⟩ = some (.bool a1_2) := (blk_cell BK161.out 2).trans rfl; have hfz22_0 := blk_frozen BK161.out 0; have hfz22_1 := blk_frozen BK161.out 1; have hfz22_2 := blk_frozen BK161.out 2) | (go_at_call 9; (with_reducible refine (weirkeeperlaw03_small.calls a1_0 a1_1 a1_2 true _ A12.out).mono ?_); rintro e w23 ⟨rfl, hb⟩; have n0_ := Aside0.mk (blk_below (g := gb160) (o := .cells #[.string a0_0, .string a0_1, .bool a0_2] 25 (0, 0)) (by (with_reducible repeat (first | refine blk_drewN ?_ _ | refine blk_drew ?_ | refine blk_alloc ?_ _)); exact BK160.out) hb); have n1_ := Aside0.mk (blk_below (g := gb161) (o := .cells #[.string a1_0, .string a1_1, .bool a1_2] 25 (0, 0)) (by (with_reducible repeat (first | refine blk_drewN ?_ _ | refine blk_drew ?_ | refine blk_alloc ?_ _)); exact BK161.out) hb); have n2_ := Aside0.mk (blk_below (g := gb162) (o := .cells #[.string a2_0, .string a2_1, .bool a2_2] 25 (0, 0)) (by (with_reducible repeat (first | refine blk_drewN ?_ _ | refine blk_drew ?_ | refine blk_alloc ?_ _)); exact BK162.out) hb); have n3_ := Aside0.mk (below_step (by repeat (first | (with_reducible first | exact HB.out | apply below_alloc | apply pw_below_drewN | apply below_drew1 | refine below_set ?_ GE160.out | refine below_set ?_ GE161.out | refine below_set ?_ GE162.out) | exact HB.out)) hb); clear BK160; clear BK161; clear BK162; clear HB; have BK160 := n0_; have BK161 := n1_; have BK162 := n2_; have HB := n3_; clear n0_ n1_ n2_ n3_; (try clear hb); (try clear hb2); (try clear hk); (try clear hi); have hcz24_0 : w23.cell? ⟨gb162, 0, none⟩ = some (.string a2_0) := (blk_cell BK162.out 0).trans rfl; have hcz24_1 : w23.cell? ⟨gb162, 1, none⟩ = some (.string a2_1) := (blk_cell BK162.out 1).trans rfl; have hcz24_2 : w23.cell? ⟨gb162, 2, none⟩ = some (.bool a2_2) := (blk_cell BK162.out 2).trans rfl; have hfz24_0 := blk_frozen BK162.out 0; have hfz24_1 := blk_frozen BK162.out 1; have hfz24_2 := blk_frozen BK162.out 2) | (go_at_call 9; (with_reducible refine (weirkeeperlaw03_small.calls a2_0 a2_1 a2_2 true _ A14.out).mono ?_); rintro e w25 ⟨rfl, hb⟩; have n0_ := Aside0.mk (blk_below (g := gb160) (o := .cells #[.string a0_0, .string a0_1, .bool a0_2] 25 (0, 0)) (by (with_reducible repeat (first | refine blk_drewN ?_ _ | refine blk_drew ?_ | refine blk_alloc ?_ _)); exact BK160.out) hb); have n1_ := Aside0.mk (blk_below (g := gb161) (o := .cells #[.string a1_0, .string a1_1, .bool a1_2] 25 (0, 0)) (by (with_reducible repeat (first | refine blk_drewN ?_ _ | refine blk_drew ?_ | refine blk_alloc ?_ _)); exact BK161.out) hb); have n2_ := Aside0.mk (blk_below (g := gb162) (o := .cells #[.string a2_0, .string a2_1, .bool a2_2] 25 (0, 0)) (by (with_reducible repeat (first | refine blk_drewN ?_ _ | refine blk_drew ?_ | refine blk_alloc ?_ _)); exact BK162.out) hb); have n3_ := Aside0.mk (below_step (by repeat (first | (with_reducible first | exact HB.out | apply below_alloc | apply pw_below_drewN | apply below_drew1 | refine below_set ?_ GE160.out | refine below_set ?_ GE161.out | refine below_set ?_ GE162.out) | exact HB.out)) hb); clear BK160; clear BK161; clear BK162; clear HB; have BK160 := n0_; have BK161 := n1_; have BK162 := n2_; have HB := n3_; clear n0_ n1_ n2_ n3_; (try clear hb); (try clear hb2); (try clear hk); (try clear hi)))
            go_meet
            case rel => exact ⟨_, (true), (by first | rfl | (simp; done) | (simp [*]; done)), H', ⟨by first | omega | exact Nat.le_refl _⟩, ⟨by (with_reducible repeat (first | refine blk_drewN ?_ _ | refine blk_drew ?_ | refine blk_alloc ?_ _)); exact BK160.out⟩, ⟨by (with_reducible repeat (first | refine blk_drewN ?_ _ | refine blk_drew ?_ | refine blk_alloc ?_ _)); exact BK161.out⟩, ⟨by (with_reducible repeat (first | refine blk_drewN ?_ _ | refine blk_drew ?_ | refine blk_alloc ?_ _)); exact BK162.out⟩, ⟨by repeat (first | (with_reducible first | exact HB.out | apply below_alloc | apply pw_below_drewN | apply below_drew1 | refine below_set ?_ GE160.out | refine below_set ?_ GE161.out | refine below_set ?_ GE162.out) | exact HB.out)⟩⟩
          · rw [if_neg c16] at H
            have c16b0 : decide (300 < (a3.size : Int)) = false := decide_eq_false c16
            have c16b1 : decide (300 < a3.size) = false := decide_eq_false (by omega)
            clear c16
            (first | rw [c16b0] | (simp only [i64_w, i32_w]; rw [c16b0]) | skip)
            have H' := Aside0.mk H
            clear H
            have hnb26 := NB160_161.out
            have hnc26 := NB161_160.out
            have hnb27 := NB160_162.out
            have hnc27 := NB162_160.out
            have hcz28_0 : w9.cell? ⟨gb160, 0, none⟩ = some (.string a0_0) := (blk_cell BK160.out 0).trans rfl
            have hcz28_1 : w9.cell? ⟨gb160, 1, none⟩ = some (.string a0_1) := (blk_cell BK160.out 1).trans rfl
            have hcz28_2 : w9.cell? ⟨gb160, 2, none⟩ = some (.bool a0_2) := (blk_cell BK160.out 2).trans rfl
            have hfz28_0 := blk_frozen BK160.out 0
            have hfz28_1 := blk_frozen BK160.out 1
            have hfz28_2 := blk_frozen BK160.out 2
            go_wp2_with (first | ((with_reducible refine gate_callee (f := 9) rfl ?_); refine goesL_ (some 14) rfl rfl Try.func9 (by kernel_rfl) rfl #[.agg #[.string a0_0, .string a0_1, .bool a0_2]] rfl (by (try simp only [List.map_toArray, List.map_cons, List.map_nil]); first | done | rfl | (simp only [List.length_drop, List.length_take]; rfl)) ?_; (with_reducible refine (weirkeeperlaw03_small.calls a0_0 a0_1 a0_2 true _ A10.out).mono ?_); rintro e w29 ⟨rfl, hb⟩; refine ⟨_, rfl, ?_⟩; have n0_ := Aside0.mk (blk_below (g := gb160) (o := .cells #[.string a0_0, .string a0_1, .bool a0_2] 25 (0, 0)) (by (with_reducible repeat (first | refine blk_drewN ?_ _ | refine blk_drew ?_ | refine blk_alloc ?_ _)); exact BK160.out) hb); have n1_ := Aside0.mk (blk_below (g := gb161) (o := .cells #[.string a1_0, .string a1_1, .bool a1_2] 25 (0, 0)) (by (with_reducible repeat (first | refine blk_drewN ?_ _ | refine blk_drew ?_ | refine blk_alloc ?_ _)); exact BK161.out) hb); have n2_ := Aside0.mk (blk_below (g := gb162) (o := .cells #[.string a2_0, .string a2_1, .bool a2_2] 25 (0, 0)) (by (with_reducible repeat (first | refine blk_drewN ?_ _ | refine blk_drew ?_ | refine blk_alloc ?_ _)); exact BK162.out) hb); have n3_ := Aside0.mk (below_step (by repeat (first | (with_reducible first | exact HB.out | apply below_alloc | apply pw_below_drewN | apply below_drew1 | refine below_set ?_ GE160.out | refine below_set ?_ GE161.out | refine below_set ?_ GE162.out) | exact HB.out)) hb); clear BK160; clear BK161; clear BK162; clear HB; have BK160 := n0_; have BK161 := n1_; have BK162 := n2_; have HB := n3_; clear n0_ n1_ n2_ n3_; (try clear hb); (try clear hb2); (try clear hk); (try clear hi); have hnb30 := NB161_162.out; have hnc30 := NB162_161.out; have hcz31_0 : w29.cell? ⟨gb161, 0, none⟩ = some (.string a1_0) := (blk_cell BK161.out 0).trans rfl; have hcz31_1 : w29.cell? ⟨gb161, 1, none⟩ = some (.string a1_1) := (blk_cell BK161.out 1).trans rfl; have hcz31_2 : w29.cell? ⟨gb161, 2, none⟩ = some (.bool a1_2) := (blk_cell BK161.out 2).trans rfl; have hfz31_0 := blk_frozen BK161.out 0; have hfz31_1 := blk_frozen BK161.out 1; have hfz31_2 := blk_frozen BK161.out 2) | (go_at_call 9; (with_reducible refine (weirkeeperlaw03_small.calls a1_0 a1_1 a1_2 true _ A12.out).mono ?_); rintro e w32 ⟨rfl, hb⟩; have n0_ := Aside0.mk (blk_below (g := gb160) (o := .cells #[.string a0_0, .string a0_1, .bool a0_2] 25 (0, 0)) (by (with_reducible repeat (first | refine blk_drewN ?_ _ | refine blk_drew ?_ | refine blk_alloc ?_ _)); exact BK160.out) hb); have n1_ := Aside0.mk (blk_below (g := gb161) (o := .cells #[.string a1_0, .string a1_1, .bool a1_2] 25 (0, 0)) (by (with_reducible repeat (first | refine blk_drewN ?_ _ | refine blk_drew ?_ | refine blk_alloc ?_ _)); exact BK161.out) hb); have n2_ := Aside0.mk (blk_below (g := gb162) (o := .cells #[.string a2_0, .string a2_1, .bool a2_2] 25 (0, 0)) (by (with_reducible repeat (first | refine blk_drewN ?_ _ | refine blk_drew ?_ | refine blk_alloc ?_ _)); exact BK162.out) hb); have n3_ := Aside0.mk (below_step (by repeat (first | (with_reducible first | exact HB.out | apply below_alloc | apply pw_below_drewN | apply below_drew1 | refine below_set ?_ GE160.out | refine below_set ?_ GE161.out | refine below_set ?_ GE162.out) | exact HB.out)) hb); clear BK160; clear BK161; clear BK162; clear HB; have BK160 := n0_; have BK161 := n1_; have BK162 := n2_; have HB := n3_; clear n0_ n1_ n2_ n3_; (try clear hb); (try clear hb2); (try clear hk); (try clear hi); have hcz33_0 : w32.cell? ⟨gb162, 0, none⟩ = some (.string a2_0) := (blk_cell BK162.out 0).trans rfl; have hcz33_1 : w32.cell? ⟨gb162, 1, none⟩ = some (.string a2_1) := (blk_cell BK162.out 1).trans rfl; have hcz33_2 : w32.cell? ⟨gb162, 2, none⟩ = some (.bool a2_2) := (blk_cell BK162.out 2).trans rfl; have hfz33_0 := blk_frozen BK162.out 0; have hfz33_1 := blk_frozen BK162.out 1; have hfz33_2 := blk_frozen BK162.out 2) | (go_at_call 9; (with_reducible refine (weirkeeperlaw03_small.calls a2_0 a2_1 a2_2 true _ A14.out).mono ?_); rintro e w34 ⟨rfl, hb⟩; have n0_ := Aside0.mk (blk_below (g := gb160) (o := .cells #[.string a0_0, .string a0_1, .bool a0_2] 25 (0, 0)) (by (with_reducible repeat (first | refine blk_drewN ?_ _ | refine blk_drew ?_ | refine blk_alloc ?_ _)); exact BK160.out) hb); have n1_ := Aside0.mk (blk_below (g := gb161) (o := .cells #[.string a1_0, .string a1_1, .bool a1_2] 25 (0, 0)) (by (with_reducible repeat (first | refine blk_drewN ?_ _ | refine blk_drew ?_ | refine blk_alloc ?_ _)); exact BK161.out) hb); have n2_ := Aside0.mk (blk_below (g := gb162) (o := .cells #[.string a2_0, .string a2_1, .bool a2_2] 25 (0, 0)) (by (with_reducible repeat (first | refine blk_drewN ?_ _ | refine blk_drew ?_ | refine blk_alloc ?_ _)); exact BK162.out) hb); have n3_ := Aside0.mk (below_step (by repeat (first | (with_reducible first | exact HB.out | apply below_alloc | apply pw_below_drewN | apply below_drew1 | refine below_set ?_ GE160.out | refine below_set ?_ GE161.out | refine below_set ?_ GE162.out) | exact HB.out)) hb); clear BK160; clear BK161; clear BK162; clear HB; have BK160 := n0_; have BK161 := n1_; have BK162 := n2_; have HB := n3_; clear n0_ n1_ n2_ n3_; (try clear hb); (try clear hb2); (try clear hk); (try clear hi)))
            go_meet
            case rel => exact ⟨_, (decide ((a4.size : Int) > 300)), (by first | rfl | (simp; done) | (simp [*]; done)), H', ⟨by first | omega | exact Nat.le_refl _⟩, ⟨by (with_reducible repeat (first | refine blk_drewN ?_ _ | refine blk_drew ?_ | refine blk_alloc ?_ _)); exact BK160.out⟩, ⟨by (with_reducible repeat (first | refine blk_drewN ?_ _ | refine blk_drew ?_ | refine blk_alloc ?_ _)); exact BK161.out⟩, ⟨by (with_reducible repeat (first | refine blk_drewN ?_ _ | refine blk_drew ?_ | refine blk_alloc ?_ _)); exact BK162.out⟩, ⟨by repeat (first | (with_reducible first | exact HB.out | apply below_alloc | apply pw_below_drewN | apply below_drew1 | refine below_set ?_ GE160.out | refine below_set ?_ GE161.out | refine below_set ?_ GE162.out) | exact HB.out)⟩⟩
        · replace c15 := Bool.eq_false_iff.mpr c15
          subst c15
          have H1 : (weirkeeperlaw03_StretchWithin_v0.j0 k true) = some r := by rw [if_neg (show ¬ (false = true) by decide)] at H; exact H
          clear H
          have H := H1
          clear H1
          have H' := Aside0.mk H
          clear H
          have hnb35 := NB160_161.out
          have hnc35 := NB161_160.out
          have hnb36 := NB160_162.out
          have hnc36 := NB162_160.out
          have hcz37_0 : w9.cell? ⟨gb160, 0, none⟩ = some (.string a0_0) := (blk_cell BK160.out 0).trans rfl
          have hcz37_1 : w9.cell? ⟨gb160, 1, none⟩ = some (.string a0_1) := (blk_cell BK160.out 1).trans rfl
          have hcz37_2 : w9.cell? ⟨gb160, 2, none⟩ = some (.bool a0_2) := (blk_cell BK160.out 2).trans rfl
          have hfz37_0 := blk_frozen BK160.out 0
          have hfz37_1 := blk_frozen BK160.out 1
          have hfz37_2 := blk_frozen BK160.out 2
          go_wp2_with (first | ((with_reducible refine gate_callee (f := 9) rfl ?_); refine goesL_ (some 14) rfl rfl Try.func9 (by kernel_rfl) rfl #[.agg #[.string a0_0, .string a0_1, .bool a0_2]] rfl (by (try simp only [List.map_toArray, List.map_cons, List.map_nil]); first | done | rfl | (simp only [List.length_drop, List.length_take]; rfl)) ?_; (with_reducible refine (weirkeeperlaw03_small.calls a0_0 a0_1 a0_2 true _ A10.out).mono ?_); rintro e w38 ⟨rfl, hb⟩; refine ⟨_, rfl, ?_⟩; have n0_ := Aside0.mk (blk_below (g := gb160) (o := .cells #[.string a0_0, .string a0_1, .bool a0_2] 25 (0, 0)) (by (with_reducible repeat (first | refine blk_drewN ?_ _ | refine blk_drew ?_ | refine blk_alloc ?_ _)); exact BK160.out) hb); have n1_ := Aside0.mk (blk_below (g := gb161) (o := .cells #[.string a1_0, .string a1_1, .bool a1_2] 25 (0, 0)) (by (with_reducible repeat (first | refine blk_drewN ?_ _ | refine blk_drew ?_ | refine blk_alloc ?_ _)); exact BK161.out) hb); have n2_ := Aside0.mk (blk_below (g := gb162) (o := .cells #[.string a2_0, .string a2_1, .bool a2_2] 25 (0, 0)) (by (with_reducible repeat (first | refine blk_drewN ?_ _ | refine blk_drew ?_ | refine blk_alloc ?_ _)); exact BK162.out) hb); have n3_ := Aside0.mk (below_step (by repeat (first | (with_reducible first | exact HB.out | apply below_alloc | apply pw_below_drewN | apply below_drew1 | refine below_set ?_ GE160.out | refine below_set ?_ GE161.out | refine below_set ?_ GE162.out) | exact HB.out)) hb); clear BK160; clear BK161; clear BK162; clear HB; have BK160 := n0_; have BK161 := n1_; have BK162 := n2_; have HB := n3_; clear n0_ n1_ n2_ n3_; (try clear hb); (try clear hb2); (try clear hk); (try clear hi); have hnb39 := NB161_162.out; have hnc39 := NB162_161.out; have hcz40_0 : w38.cell? ⟨gb161, 0, none⟩ = some (.string a1_0) := (blk_cell BK161.out 0).trans rfl; have hcz40_1 : w38.cell? ⟨gb161, 1, none⟩ = some (.string a1_1) := (blk_cell BK161.out 1).trans rfl; have hcz40_2 : w38.cell? ⟨gb161, 2, none⟩ = some (.bool a1_2) := (blk_cell BK161.out 2).trans rfl; have hfz40_0 := blk_frozen BK161.out 0; have hfz40_1 := blk_frozen BK161.out 1; have hfz40_2 := blk_frozen BK161.out 2) | (go_at_call 9; (with_reducible refine (weirkeeperlaw03_small.calls a1_0 a1_1 a1_2 true _ A12.out).mono ?_); rintro e w41 ⟨rfl, hb⟩; have n0_ := Aside0.mk (blk_below (g := gb160) (o := .cells #[.string a0_0, .string a0_1, .bool a0_2] 25 (0, 0)) (by (with_reducible repeat (first | refine blk_drewN ?_ _ | refine blk_drew ?_ | refine blk_alloc ?_ _)); exact BK160.out) hb); have n1_ := Aside0.mk (blk_below (g := gb161) (o := .cells #[.string a1_0, .string a1_1, .bool a1_2] 25 (0, 0)) (by (with_reducible repeat (first | refine blk_drewN ?_ _ | refine blk_drew ?_ | refine blk_alloc ?_ _)); exact BK161.out) hb); have n2_ := Aside0.mk (blk_below (g := gb162) (o := .cells #[.string a2_0, .string a2_1, .bool a2_2] 25 (0, 0)) (by (with_reducible repeat (first | refine blk_drewN ?_ _ | refine blk_drew ?_ | refine blk_alloc ?_ _)); exact BK162.out) hb); have n3_ := Aside0.mk (below_step (by repeat (first | (with_reducible first | exact HB.out | apply below_alloc | apply pw_below_drewN | apply below_drew1 | refine below_set ?_ GE160.out | refine below_set ?_ GE161.out | refine below_set ?_ GE162.out) | exact HB.out)) hb); clear BK160; clear BK161; clear BK162; clear HB; have BK160 := n0_; have BK161 := n1_; have BK162 := n2_; have HB := n3_; clear n0_ n1_ n2_ n3_; (try clear hb); (try clear hb2); (try clear hk); (try clear hi); have hcz42_0 : w41.cell? ⟨gb162, 0, none⟩ = some (.string a2_0) := (blk_cell BK162.out 0).trans rfl; have hcz42_1 : w41.cell? ⟨gb162, 1, none⟩ = some (.string a2_1) := (blk_cell BK162.out 1).trans rfl; have hcz42_2 : w41.cell? ⟨gb162, 2, none⟩ = some (.bool a2_2) := (blk_cell BK162.out 2).trans rfl; have hfz42_0 := blk_frozen BK162.out 0; have hfz42_1 := blk_frozen BK162.out 1; have hfz42_2 := blk_frozen BK162.out 2) | (go_at_call 9; (with_reducible refine (weirkeeperlaw03_small.calls a2_0 a2_1 a2_2 false _ A14.out).mono ?_); rintro e w43 ⟨rfl, hb⟩; have n0_ := Aside0.mk (blk_below (g := gb160) (o := .cells #[.string a0_0, .string a0_1, .bool a0_2] 25 (0, 0)) (by (with_reducible repeat (first | refine blk_drewN ?_ _ | refine blk_drew ?_ | refine blk_alloc ?_ _)); exact BK160.out) hb); have n1_ := Aside0.mk (blk_below (g := gb161) (o := .cells #[.string a1_0, .string a1_1, .bool a1_2] 25 (0, 0)) (by (with_reducible repeat (first | refine blk_drewN ?_ _ | refine blk_drew ?_ | refine blk_alloc ?_ _)); exact BK161.out) hb); have n2_ := Aside0.mk (blk_below (g := gb162) (o := .cells #[.string a2_0, .string a2_1, .bool a2_2] 25 (0, 0)) (by (with_reducible repeat (first | refine blk_drewN ?_ _ | refine blk_drew ?_ | refine blk_alloc ?_ _)); exact BK162.out) hb); have n3_ := Aside0.mk (below_step (by repeat (first | (with_reducible first | exact HB.out | apply below_alloc | apply pw_below_drewN | apply below_drew1 | refine below_set ?_ GE160.out | refine below_set ?_ GE161.out | refine below_set ?_ GE162.out) | exact HB.out)) hb); clear BK160; clear BK161; clear BK162; clear HB; have BK160 := n0_; have BK161 := n1_; have BK162 := n2_; have HB := n3_; clear n0_ n1_ n2_ n3_; (try clear hb); (try clear hb2); (try clear hk); (try clear hi)))
          go_meet
          case rel => exact ⟨_, (true), (by first | rfl | (simp; done) | (simp [*]; done)), H', ⟨by first | omega | exact Nat.le_refl _⟩, ⟨by (with_reducible repeat (first | refine blk_drewN ?_ _ | refine blk_drew ?_ | refine blk_alloc ?_ _)); exact BK160.out⟩, ⟨by (with_reducible repeat (first | refine blk_drewN ?_ _ | refine blk_drew ?_ | refine blk_alloc ?_ _)); exact BK161.out⟩, ⟨by (with_reducible repeat (first | refine blk_drewN ?_ _ | refine blk_drew ?_ | refine blk_alloc ?_ _)); exact BK162.out⟩, ⟨by repeat (first | (with_reducible first | exact HB.out | apply below_alloc | apply pw_below_drewN | apply below_drew1 | refine below_set ?_ GE160.out | refine below_set ?_ GE161.out | refine below_set ?_ GE162.out) | exact HB.out)⟩⟩
      · replace c13 := Bool.eq_false_iff.mpr c13
        subst c13
        have H1 : (weirkeeperlaw03_StretchWithin_v0.j0 k true) = some r := by rw [if_neg (show ¬ (false = true) by decide)] at H; exact H
        clear H
        have H := H1
        clear H1
        have H' := Aside0.mk H
        clear H
        have hnb44 := NB160_161.out
        have hnc44 := NB161_160.out
        have hnb45 := NB160_162.out
        have hnc45 := NB162_160.out
        have hcz46_0 : w9.cell? ⟨gb160, 0, none⟩ = some (.string a0_0) := (blk_cell BK160.out 0).trans rfl
        have hcz46_1 : w9.cell? ⟨gb160, 1, none⟩ = some (.string a0_1) := (blk_cell BK160.out 1).trans rfl
        have hcz46_2 : w9.cell? ⟨gb160, 2, none⟩ = some (.bool a0_2) := (blk_cell BK160.out 2).trans rfl
        have hfz46_0 := blk_frozen BK160.out 0
        have hfz46_1 := blk_frozen BK160.out 1
        have hfz46_2 := blk_frozen BK160.out 2
        go_wp2_with (first | ((with_reducible refine gate_callee (f := 9) rfl ?_); refine goesL_ (some 14) rfl rfl Try.func9 (by kernel_rfl) rfl #[.agg #[.string a0_0, .string a0_1, .bool a0_2]] rfl (by (try simp only [List.map_toArray, List.map_cons, List.map_nil]); first | done | rfl | (simp only [List.length_drop, List.length_take]; rfl)) ?_; (with_reducible refine (weirkeeperlaw03_small.calls a0_0 a0_1 a0_2 true _ A10.out).mono ?_); rintro e w47 ⟨rfl, hb⟩; refine ⟨_, rfl, ?_⟩; have n0_ := Aside0.mk (blk_below (g := gb160) (o := .cells #[.string a0_0, .string a0_1, .bool a0_2] 25 (0, 0)) (by (with_reducible repeat (first | refine blk_drewN ?_ _ | refine blk_drew ?_ | refine blk_alloc ?_ _)); exact BK160.out) hb); have n1_ := Aside0.mk (blk_below (g := gb161) (o := .cells #[.string a1_0, .string a1_1, .bool a1_2] 25 (0, 0)) (by (with_reducible repeat (first | refine blk_drewN ?_ _ | refine blk_drew ?_ | refine blk_alloc ?_ _)); exact BK161.out) hb); have n2_ := Aside0.mk (blk_below (g := gb162) (o := .cells #[.string a2_0, .string a2_1, .bool a2_2] 25 (0, 0)) (by (with_reducible repeat (first | refine blk_drewN ?_ _ | refine blk_drew ?_ | refine blk_alloc ?_ _)); exact BK162.out) hb); have n3_ := Aside0.mk (below_step (by repeat (first | (with_reducible first | exact HB.out | apply below_alloc | apply pw_below_drewN | apply below_drew1 | refine below_set ?_ GE160.out | refine below_set ?_ GE161.out | refine below_set ?_ GE162.out) | exact HB.out)) hb); clear BK160; clear BK161; clear BK162; clear HB; have BK160 := n0_; have BK161 := n1_; have BK162 := n2_; have HB := n3_; clear n0_ n1_ n2_ n3_; (try clear hb); (try clear hb2); (try clear hk); (try clear hi); have hnb48 := NB161_162.out; have hnc48 := NB162_161.out; have hcz49_0 : w47.cell? ⟨gb161, 0, none⟩ = some (.string a1_0) := (blk_cell BK161.out 0).trans rfl; have hcz49_1 : w47.cell? ⟨gb161, 1, none⟩ = some (.string a1_1) := (blk_cell BK161.out 1).trans rfl; have hcz49_2 : w47.cell? ⟨gb161, 2, none⟩ = some (.bool a1_2) := (blk_cell BK161.out 2).trans rfl; have hfz49_0 := blk_frozen BK161.out 0; have hfz49_1 := blk_frozen BK161.out 1; have hfz49_2 := blk_frozen BK161.out 2) | (go_at_call 9; (with_reducible refine (weirkeeperlaw03_small.calls a1_0 a1_1 a1_2 false _ A12.out).mono ?_); rintro e w50 ⟨rfl, hb⟩; have n0_ := Aside0.mk (blk_below (g := gb160) (o := .cells #[.string a0_0, .string a0_1, .bool a0_2] 25 (0, 0)) (by (with_reducible repeat (first | refine blk_drewN ?_ _ | refine blk_drew ?_ | refine blk_alloc ?_ _)); exact BK160.out) hb); have n1_ := Aside0.mk (blk_below (g := gb161) (o := .cells #[.string a1_0, .string a1_1, .bool a1_2] 25 (0, 0)) (by (with_reducible repeat (first | refine blk_drewN ?_ _ | refine blk_drew ?_ | refine blk_alloc ?_ _)); exact BK161.out) hb); have n2_ := Aside0.mk (blk_below (g := gb162) (o := .cells #[.string a2_0, .string a2_1, .bool a2_2] 25 (0, 0)) (by (with_reducible repeat (first | refine blk_drewN ?_ _ | refine blk_drew ?_ | refine blk_alloc ?_ _)); exact BK162.out) hb); have n3_ := Aside0.mk (below_step (by repeat (first | (with_reducible first | exact HB.out | apply below_alloc | apply pw_below_drewN | apply below_drew1 | refine below_set ?_ GE160.out | refine below_set ?_ GE161.out | refine below_set ?_ GE162.out) | exact HB.out)) hb); clear BK160; clear BK161; clear BK162; clear HB; have BK160 := n0_; have BK161 := n1_; have BK162 := n2_; have HB := n3_; clear n0_ n1_ n2_ n3_; (try clear hb); (try clear hb2); (try clear hk); (try clear hi)))
        go_meet
        case rel => exact ⟨_, (true), (by first | rfl | (simp; done) | (simp [*]; done)), H', ⟨by first | omega | exact Nat.le_refl _⟩, ⟨by (with_reducible repeat (first | refine blk_drewN ?_ _ | refine blk_drew ?_ | refine blk_alloc ?_ _)); exact BK160.out⟩, ⟨by (with_reducible repeat (first | refine blk_drewN ?_ _ | refine blk_drew ?_ | refine blk_alloc ?_ _)); exact BK161.out⟩, ⟨by (with_reducible repeat (first | refine blk_drewN ?_ _ | refine blk_drew ?_ | refine blk_alloc ?_ _)); exact BK162.out⟩, ⟨by repeat (first | (with_reducible first | exact HB.out | apply below_alloc | apply pw_below_drewN | apply below_drew1 | refine below_set ?_ GE160.out | refine below_set ?_ GE161.out | refine below_set ?_ GE162.out) | exact HB.out)⟩⟩
    · replace c11 := Bool.eq_false_iff.mpr c11
      subst c11
      have H1 : (weirkeeperlaw03_StretchWithin_v0.j0 k true) = some r := by rw [if_neg (show ¬ (false = true) by decide)] at H; exact H
      clear H
      have H := H1
      clear H1
      have H' := Aside0.mk H
      clear H
      have hnb51 := NB160_161.out
      have hnc51 := NB161_160.out
      have hnb52 := NB160_162.out
      have hnc52 := NB162_160.out
      have hcz53_0 : w9.cell? ⟨gb160, 0, none⟩ = some (.string a0_0) := (blk_cell BK160.out 0).trans rfl
      have hcz53_1 : w9.cell? ⟨gb160, 1, none⟩ = some (.string a0_1) := (blk_cell BK160.out 1).trans rfl
      have hcz53_2 : w9.cell? ⟨gb160, 2, none⟩ = some (.bool a0_2) := (blk_cell BK160.out 2).trans rfl
      have hfz53_0 := blk_frozen BK160.out 0
      have hfz53_1 := blk_frozen BK160.out 1
      have hfz53_2 := blk_frozen BK160.out 2
      go_wp2_with (first | ((with_reducible refine gate_callee (f := 9) rfl ?_); refine goesL_ (some 14) rfl rfl Try.func9 (by kernel_rfl) rfl #[.agg #[.string a0_0, .string a0_1, .bool a0_2]] rfl (by (try simp only [List.map_toArray, List.map_cons, List.map_nil]); first | done | rfl | (simp only [List.length_drop, List.length_take]; rfl)) ?_; (with_reducible refine (weirkeeperlaw03_small.calls a0_0 a0_1 a0_2 false _ A10.out).mono ?_); rintro e w54 ⟨rfl, hb⟩; refine ⟨_, rfl, ?_⟩; have n0_ := Aside0.mk (blk_below (g := gb160) (o := .cells #[.string a0_0, .string a0_1, .bool a0_2] 25 (0, 0)) (by (with_reducible repeat (first | refine blk_drewN ?_ _ | refine blk_drew ?_ | refine blk_alloc ?_ _)); exact BK160.out) hb); have n1_ := Aside0.mk (blk_below (g := gb161) (o := .cells #[.string a1_0, .string a1_1, .bool a1_2] 25 (0, 0)) (by (with_reducible repeat (first | refine blk_drewN ?_ _ | refine blk_drew ?_ | refine blk_alloc ?_ _)); exact BK161.out) hb); have n2_ := Aside0.mk (blk_below (g := gb162) (o := .cells #[.string a2_0, .string a2_1, .bool a2_2] 25 (0, 0)) (by (with_reducible repeat (first | refine blk_drewN ?_ _ | refine blk_drew ?_ | refine blk_alloc ?_ _)); exact BK162.out) hb); have n3_ := Aside0.mk (below_step (by repeat (first | (with_reducible first | exact HB.out | apply below_alloc | apply pw_below_drewN | apply below_drew1 | refine below_set ?_ GE160.out | refine below_set ?_ GE161.out | refine below_set ?_ GE162.out) | exact HB.out)) hb); clear BK160; clear BK161; clear BK162; clear HB; have BK160 := n0_; have BK161 := n1_; have BK162 := n2_; have HB := n3_; clear n0_ n1_ n2_ n3_; (try clear hb); (try clear hb2); (try clear hk); (try clear hi)))
      go_meet
      case rel => exact ⟨_, (true), (by first | rfl | (simp; done) | (simp [*]; done)), H', ⟨by first | omega | exact Nat.le_refl _⟩, ⟨by (with_reducible repeat (first | refine blk_drewN ?_ _ | refine blk_drew ?_ | refine blk_alloc ?_ _)); exact BK160.out⟩, ⟨by (with_reducible repeat (first | refine blk_drewN ?_ _ | refine blk_drew ?_ | refine blk_alloc ?_ _)); exact BK161.out⟩, ⟨by (with_reducible repeat (first | refine blk_drewN ?_ _ | refine blk_drew ?_ | refine blk_alloc ?_ _)); exact BK162.out⟩, ⟨by repeat (first | (with_reducible first | exact HB.out | apply below_alloc | apply pw_below_drewN | apply below_drew1 | refine below_set ?_ GE160.out | refine below_set ?_ GE161.out | refine below_set ?_ GE162.out) | exact HB.out)⟩⟩
  case rest =>
    clear HC6
    try clear c1
    try clear c2
    try clear p2
    try clear c3
    try clear c4
    try clear c5
    try clear c9
    try clear c11
    try clear c13
    try clear c15
    try clear c16
    try clear c16b0
    try clear c16b1
    try clear c17
    try clear c18
    try clear c21
    try clear c26
    try clear c27
    try clear c30
    try clear c35
    try clear c36
    try clear c39
    try clear c44
    try clear c45
    try clear c48
    try clear c51
    try clear c52
    try clear hcz19_0
    try clear hcz19_1
    try clear hcz19_2
    try clear hcz22_0
    try clear hcz22_1
    try clear hcz22_2
    try clear hcz24_0
    try clear hcz24_1
    try clear hcz24_2
    try clear hcz28_0
    try clear hcz28_1
    try clear hcz28_2
    try clear hcz31_0
    try clear hcz31_1
    try clear hcz31_2
    try clear hcz33_0
    try clear hcz33_1
    try clear hcz33_2
    try clear hcz37_0
    try clear hcz37_1
    try clear hcz37_2
    try clear hcz40_0
    try clear hcz40_1
    try clear hcz40_2
    try clear hcz42_0
    try clear hcz42_1
    try clear hcz42_2
    try clear hcz46_0
    try clear hcz46_1
    try clear hcz46_2
    try clear hcz49_0
    try clear hcz49_1
    try clear hcz49_2
    try clear hcz53_0
    try clear hcz53_1
    try clear hcz53_2
    try clear hfz19_0
    try clear hfz19_1
    try clear hfz19_2
    try clear hfz22_0
    try clear hfz22_1
    try clear hfz22_2
    try clear hfz24_0
    try clear hfz24_1
    try clear hfz24_2
    try clear hfz28_0
    try clear hfz28_1
    try clear hfz28_2
    try clear hfz31_0
    try clear hfz31_1
    try clear hfz31_2
    try clear hfz33_0
    try clear hfz33_1
    try clear hfz33_2
    try clear hfz37_0
    try clear hfz37_1
    try clear hfz37_2
    try clear hfz40_0
    try clear hfz40_1
    try clear hfz40_2
    try clear hfz42_0
    try clear hfz42_1
    try clear hfz42_2
    try clear hfz46_0
    try clear hfz46_1
    try clear hfz46_2
    try clear hfz49_0
    try clear hfz49_1
    try clear hfz49_2
    try clear hfz53_0
    try clear hfz53_1
    try clear hfz53_2
    obtain ⟨kq, x35_5, rfl, HA, HJ5, BK160, BK161, BK162, HB⟩ := hcut
    cases kq with
    | zero => exact absurd HA.out (by simp [weirkeeperlaw03_StretchWithin_v0.j0])
    | succ kj5 =>
      have H := HA.out
      clear HA
      simp only [weirkeeperlaw03_StretchWithin_v0.j0] at H
      by_cases c55 : x35_5 = true
      · subst c55
        have H1 : ((weirkeeperlaw03_awake.f kj5).bind fun t166 => (some t166)) = some r := by rw [if_pos rfl] at H; exact H
        clear H
        have H := H1
        clear H1
        replace H := Option.bind_eq_some_iff.mp H
        obtain ⟨t166, A560, H⟩ := H
        replace H : (some t166) = some r := H
        have A56 := Aside0.mk A560
        clear A560
        obtain rfl := Option.some.inj H
        go_wp2_with (first | ((with_reducible refine gate_callee (f := 8) rfl ?_); refine goesL_ (some 36) rfl rfl Try.func8 (by kernel_rfl) rfl #[] rfl (by (try simp only [List.map_toArray, List.map_cons, List.map_nil]); first | done | rfl | (simp only [List.length_drop, List.length_take]; rfl)) ?_; (with_reducible refine (weirkeeperlaw03_awake.calls kj5  t166 _ A56.out).mono ?_); rintro e w57 ⟨rfl, hb⟩; refine ⟨_, rfl, ?_⟩; have n0_ := Aside0.mk (blk_below (g := gb160) (o := .cells #[.string a0_0, .string a0_1, .bool a0_2] 25 (0, 0)) (by (with_reducible repeat (first | refine blk_drewN ?_ _ | refine blk_drew ?_ | refine blk_alloc ?_ _)); exact BK160.out) hb); have n1_ := Aside0.mk (blk_below (g := gb161) (o := .cells #[.string a1_0, .string a1_1, .bool a1_2] 25 (0, 0)) (by (with_reducible repeat (first | refine blk_drewN ?_ _ | refine blk_drew ?_ | refine blk_alloc ?_ _)); exact BK161.out) hb); have n2_ := Aside0.mk (blk_below (g := gb162) (o := .cells #[.string a2_0, .string a2_1, .bool a2_2] 25 (0, 0)) (by (with_reducible repeat (first | refine blk_drewN ?_ _ | refine blk_drew ?_ | refine blk_alloc ?_ _)); exact BK162.out) hb); have n3_ := Aside0.mk (below_step (by repeat (first | (with_reducible first | exact HB.out | apply below_alloc | apply pw_below_drewN | apply below_drew1 | refine below_set ?_ GE160.out | refine below_set ?_ GE161.out | refine below_set ?_ GE162.out) | exact HB.out)) hb); clear BK160; clear BK161; clear BK162; clear HB; have BK160 := n0_; have BK161 := n1_; have BK162 := n2_; have HB := n3_; clear n0_ n1_ n2_ n3_; (try clear hb); (try clear hb2); (try clear hk); (try clear hi)))
        go_ret
        exact ⟨by first | rfl | (simp [errW_none, errW_some] <;> rfl) | (simp [*, errW_none, errW_some] <;> rfl), by repeat (first | (with_reducible first | exact HB.out | apply below_alloc | apply pw_below_drewN | apply below_drew1 | refine below_set ?_ GE160.out | refine below_set ?_ GE161.out | refine below_set ?_ GE162.out) | exact HB.out)⟩
      · replace c55 := Bool.eq_false_iff.mpr c55
        subst c55
        have H1 : (none) = some r := by rw [if_neg (show ¬ (false = true) by decide)] at H; exact H
        clear H
        have H := H1
        clear H1
        exact absurd H (by simp)

end Go.Proofs.Ytbfhojfeolejlaa.X
