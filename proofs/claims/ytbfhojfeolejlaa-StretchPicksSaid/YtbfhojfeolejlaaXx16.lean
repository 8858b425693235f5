-- Written by a program of this session (wip/tools/xprint.py) out of the translation. Not trusted: Lean checks it.
import Derived.Test.YtbfhojfeolejlaaXx0
import Derived.Test.YtbfhojfeolejlaaXx3
import Derived.Test.YtbfhojfeolejlaaXx14
import Derived.Test.YtbfhojfeolejlaaXx15
namespace Go.Proofs.Ytbfhojfeolejlaa.X
open Go.RowKit Go.Proofs.YtbfhojfeolejlaaW.PrintWords Go.Proofs.YtbfhojfeolejlaaW.PrintLast Go.Proofs.YtbfhojfeolejlaaW.PrintMore
attribute [local go_sem] max2_int min2_int max_two min_two max_three min_three max_four min_four max2_str min2_str   -- for this text's walks alone
set_option linter.unusedVariables false
set_option linter.unusedSimpArgs false

/-! ### weirkeeperlaw03_StretchPicks: function 7 -/
def weirkeeperlaw03_StretchPicks.j0 : Nat → List (S42) → Bool → ByteArray → ByteArray → Bool → ByteArray → ByteArray → Bool → Option (Bool)
  | 0, _, _, _, _, _, _, _, _ => none
  | k + 1, x2, x21, x409000, x409001, x409002, x410000, x410001, x410002 => if x21 = true then ((weirkeeperlaw03_awake.f k).bind fun t412 => (some t412)) else ((stretch_Pick.f x410000 x410001 x410002 x2).bind fun t413 => ((stretch_Pick.f x409000 x409001 x409002 t413).bind fun t416 => ((stretch_Pick.f x409000 x409001 x409002 x2).bind fun t419 => ((stretch_Pick.f x410000 x410001 x410002 t419).bind fun t422 => ((weirkeeperref03_Same.f k t416 t422).bind fun t425 => (if t425 = true then ((stretch_Meet.f k (([(⟨x409000, x409001, x409002⟩ : S25), (⟨x410000, x410001, x410002⟩ : S25)] : List (S25)))).bind fun bt429 => ((stretch_Pick.f bt429.1 bt429.2.1 bt429.2.2 x2).bind fun t432 => ((weirkeeperref03_Same.f k t416 t432).bind fun t435 => (if t435 = true then ((stretch_Pick.f (⟨#[]⟩ : ByteArray) (⟨#[]⟩ : ByteArray) true x2).bind fun t436 => ((weirkeeperref03_Same.f k t436 x2).bind fun t439 => (if t439 = true then ((weirkeeperlaw03_awake.f k).bind fun t440 => (some t440)) else (none)))) else (none))))) else (none)))))))
def weirkeeperlaw03_StretchPicks.f (k : Nat) (a0_0 : ByteArray) (a0_1 : ByteArray) (a0_2 : Bool) (a1_0 : ByteArray) (a1_1 : ByteArray) (a1_2 : Bool) (l2 : List (S42)) : Option (Bool) := (weirkeeperlaw03_small.f a0_0 a0_1 a0_2).bind fun t410 => (if t410 = true then ((weirkeeperlaw03_small.f a1_0 a1_1 a1_2).bind fun t411 => (if t411 = true then (weirkeeperlaw03_StretchPicks.j0 k l2 (decide ((l2.length : Int) > 60)) a0_0 a0_1 a0_2 a1_0 a1_1 a1_2) else (weirkeeperlaw03_StretchPicks.j0 k l2 true a0_0 a0_1 a0_2 a1_0 a1_1 a1_2))) else (weirkeeperlaw03_StretchPicks.j0 k l2 true a0_0 a0_1 a0_2 a1_0 a1_1 a1_2))
theorem weirkeeperlaw03_StretchPicks.mono_l : ∀ k, (∀ y0 y1 y2 y3 y4 y5 y6 y7, LeO (weirkeeperlaw03_StretchPicks.j0 k y0 y1 y2 y3 y4 y5 y6 y7) (weirkeeperlaw03_StretchPicks.j0 (k + 1) y0 y1 y2 y3 y4 y5 y6 y7))
  | 0 => fun _ _ _ _ _ _ _ _ r h => by simp [weirkeeperlaw03_StretchPicks.j0] at h
  | k + 1 => by
    have ih0 := weirkeeperlaw03_StretchPicks.mono_l k
    · intro y0 y1 y2 y3 y4 y5 y6 y7
      unfold weirkeeperlaw03_StretchPicks.j0
      repeat' first
      | (with_reducible exact ih0 _ _ _ _ _ _ _ _)
      | (with_reducible exact stretch_Meet.mono _ _)
      | (with_reducible exact weirkeeperlaw03_awake.mono _)
      | (with_reducible exact weirkeeperref03_Same.mono _ _ _)
      | (with_reducible exact LeO.refl _)
      | (with_reducible exact LeO.none _)
      | (with_reducible refine LeO.ite ?_ ?_)
      | (with_reducible refine LeO.bind ?_ (fun _ => ?_))
      | exact ih0 _ _ _ _ _ _ _ _
      | exact stretch_Meet.mono _ _
      | exact weirkeeperlaw03_awake.mono _
      | exact weirkeeperref03_Same.mono _ _ _
      | exact LeO.none _
      | refine LeO.ite ?_ ?_
      | refine LeO.bind ?_ (fun _ => ?_)
theorem weirkeeperlaw03_StretchPicks.mono : ∀ a0 a1 a2 a3 a4 a5 a6 k, LeO (weirkeeperlaw03_StretchPicks.f k a0 a1 a2 a3 a4 a5 a6) (weirkeeperlaw03_StretchPicks.f (k + 1) a0 a1 a2 a3 a4 a5 a6) := by
  intro a0 a1 a2 a3 a4 a5 a6 k
  have ih0 := weirkeeperlaw03_StretchPicks.mono_l k
  unfold weirkeeperlaw03_StretchPicks.f
  repeat' first
      | (with_reducible exact ih0 _ _ _ _ _ _ _ _)
      | (with_reducible exact stretch_Meet.mono _ _)
      | (with_reducible exact weirkeeperlaw03_awake.mono _)
      | (with_reducible exact weirkeeperref03_Same.mono _ _ _)
      | (with_reducible exact LeO.refl _)
      | (with_reducible exact LeO.none _)
      | (with_reducible refine LeO.ite ?_ ?_)
      | (with_reducible refine LeO.bind ?_ (fun _ => ?_))
      | exact ih0 _ _ _ _ _ _ _ _
      | exact stretch_Meet.mono _ _
      | exact weirkeeperlaw03_awake.mono _
      | exact weirkeeperref03_Same.mono _ _ _
      | exact LeO.none _
      | refine LeO.ite ?_ ?_
      | refine LeO.bind ?_ (fun _ => ?_)
set_option maxHeartbeats 8000000 in
set_option maxRecDepth 100000 in
theorem weirkeeperlaw03_StretchPicks.calls (k : Nat) (a0_0 : ByteArray) (a0_1 : ByteArray) (a0_2 : Bool) (a1_0 : ByteArray) (a1_1 : ByteArray) (a1_2 : Bool) (A2 : Option Addr) (c2 : Nat) (l2 : List (S42)) (r : Bool) (w : World) (hr2 : Kd.C k42 w A2 l2.length l2) (hc2 : l2.length ≤ c2) (h : weirkeeperlaw03_StretchPicks.f k a0_0 a0_1 a0_2 a1_0 a1_1 a1_2 l2 = some r) :
    Calls Try.prog 7 #[.agg #[.string a0_0, .string a0_1, .bool a0_2], .agg #[.string a1_0, .string a1_1, .bool a1_2], .slice A2 l2.length c2] w fun e w' => e = .returned (.bool r) ∧ Below w.heap.size w w' := by
  have hu25 := Try.underlying25
  have HR2 := Aside0.mk hr2
  have HC2 := Aside0.mk hc2
  clear hr2 hc2
  have HB := Aside0.mk (Below.refl w.heap.size w)
  have H : ((weirkeeperlaw03_small.f a0_0 a0_1 a0_2).bind fun t410 => (if t410 = true then ((weirkeeperlaw03_small.f a1_0 a1_1 a1_2).bind fun t411 => (if t411 = true then (weirkeeperlaw03_StretchPicks.j0 k l2 (decide ((l2.length : Int) > 60)) a0_0 a0_1 a0_2 a1_0 a1_1 a1_2) else (weirkeeperlaw03_StretchPicks.j0 k l2 true a0_0 a0_1 a0_2 a1_0 a1_1 a1_2))) else (weirkeeperlaw03_StretchPicks.j0 k l2 true a0_0 a0_1 a0_2 a1_0 a1_1 a1_2))) = some r := h
  clear h
  have HC4 := Aside0.mk H
  clear H
  go_enter Try.func7, Try.ntmps7
  go_upto_region 1 with (first | ((with_reducible refine gate_dst (N := 3) rfl ?_); (try (refine gate_guard (by rfl) ?_; dsimp only)); refine box_event ?hg (N := 3) ?hd (cs := #[.string a0_0, .string a0_1, .bool a0_2]) (t := 25) ?hr ?_; (case hd => rfl); (case hg => rfl); (case hr => first | (go_simp; done) | (go_simp; rfl)); intro gb408 hg w5 hbox hb; have n0_ := Aside0.mk (below_step (by repeat (first | (with_reducible first | exact HB.out | apply below_alloc | apply pw_below_drewN | apply below_drew1) | exact HB.out)) hb); have n1_ := Aside0.mk (hbox); have n2_ := Aside0.mk ((by rw [hg]; exact (below_size (by repeat (first | (with_reducible first | exact HB.out | apply below_alloc | apply pw_below_drewN | apply below_drew1) | exact HB.out))) : w.heap.size ≤ gb408)); have n3_ := Aside0.mk ((by rw [hg]; exact (below_size (by repeat (first | (with_reducible first | exact HB.out | apply below_alloc | apply pw_below_drewN | apply below_drew1) | exact HB.out))) : w.heap.size ≤ gb408)); clear HB; have HB := n0_; have BK408 := n1_; have GW408 := n2_; have GE408 := n3_; clear n0_ n1_ n2_ n3_; clear hb hbox hg) | ((with_reducible refine gate_dst (N := 4) rfl ?_); (try (refine gate_guard (by rfl) ?_; dsimp only)); refine box_event ?hg (N := 4) ?hd (cs := #[.string a1_0, .string a1_1, .bool a1_2]) (t := 25) ?hr ?_; (case hd => rfl); (case hg => rfl); (case hr => first | (go_simp; done) | (go_simp; rfl)); intro gb409 hg w6 hbox hb; have n0_ := Aside0.mk (blk_below (g := gb408) (o := .cells #[.string a0_0, .string a0_1, .bool a0_2] 25 (0, 0)) (by (with_reducible repeat (first | refine blk_drewN ?_ _ | refine blk_drew ?_ | refine blk_alloc ?_ _)); exact BK408.out) hb); have n1_ := Aside0.mk (below_step (by repeat (first | (with_reducible first | exact HB.out | apply below_alloc | apply pw_below_drewN | apply below_drew1 | refine below_set ?_ GE408.out) | exact HB.out)) hb); have n2_ := Aside0.mk (hbox); have n3_ := Aside0.mk ((by rw [hg]; exact (below_size (by repeat (first | (with_reducible first | exact HB.out | apply below_alloc | apply pw_below_drewN | apply below_drew1 | refine below_set ?_ GE408.out) | exact HB.out))) : w.heap.size ≤ gb409)); have n4_ := Aside0.mk ((by rw [hg]; exact (below_size (by repeat (first | (with_reducible first | exact HB.out | apply below_alloc | apply pw_below_drewN | apply below_drew1 | refine below_set ?_ GE408.out) | exact HB.out))) : w.heap.size ≤ gb409)); have n5_ := Aside0.mk ((by rw [hg]; exact Nat.ne_of_lt (blk_lt (g := gb408) (o := .cells #[.string a0_0, .string a0_1, .bool a0_2] 25 (0, 0)) (by (with_reducible repeat (first | refine blk_drewN ?_ _ | refine blk_drew ?_ | refine blk_alloc ?_ _)); exact BK408.out)) : gb408 ≠ gb409)); have n6_ := Aside0.mk ((by rw [hg]; exact Nat.ne_of_gt (blk_lt (g := gb408) (o := .cells #[.string a0_0, .string a0_1, .bool a0_2] 25 (0, 0)) (by (with_reducible repeat (first | refine blk_drewN ?_ _ | refine blk_drew ?_ | refine blk_alloc ?_ _)); exact BK408.out)) : gb409 ≠ gb408)); clear BK408; clear HB; have BK408 := n0_; have HB := n1_; have BK409 := n2_; have GW409 := n3_; have GE409 := n4_; have NB408_409 := n5_; have NB409_408 := n6_; clear n0_ n1_ n2_ n3_ n4_ n5_ n6_; clear hb hbox hg))
  (try simp only [Act.put, List.setIfInBounds_toArray, List.set_cons_zero, List.set_cons_succ])
  go_cut [21] (fun v21 wc => ∃ (kq : Nat) (x21_3 : Bool), v21 = .bool x21_3 ∧ Aside0 (weirkeeperlaw03_StretchPicks.j0 kq l2 x21_3 a0_0 a0_1 a0_2 a1_0 a1_1 a1_2 = some r) ∧ Aside0 (kq ≤ k) ∧ Aside0 (wc.heap[gb408]? = some (.cells #[.string a0_0, .string a0_1, .bool a0_2] 25 (0, 0))) ∧ Aside0 (wc.heap[gb409]? = some (.cells #[.string a1_0, .string a1_1, .bool a1_2] 25 (0, 0))) ∧ Aside0 (Below w.heap.size w wc))
  case first =>
    have H := HC4.out
    clear HC4
    replace H := Option.bind_eq_some_iff.mp H
    obtain ⟨t410, A70, H⟩ := H
    replace H : (if t410 = true then ((weirkeeperlaw03_small.f a1_0 a1_1 a1_2).bind fun t411 => (if t411 = true then (weirkeeperlaw03_StretchPicks.j0 k l2 (decide ((l2.length : Int) > 60)) a0_0 a0_1 a0_2 a1_0 a1_1 a1_2) else (weirkeeperlaw03_StretchPicks.j0 k l2 true a0_0 a0_1 a0_2 a1_0 a1_1 a1_2))) else (weirkeeperlaw03_StretchPicks.j0 k l2 true a0_0 a0_1 a0_2 a1_0 a1_1 a1_2)) = some r := H
    have A7 := Aside0.mk A70
    clear A70
    by_cases c8 : t410 = true
    · subst c8
      have H1 : ((weirkeeperlaw03_small.f a1_0 a1_1 a1_2).bind fun t411 => (if t411 = true then (weirkeeperlaw03_StretchPicks.j0 k l2 (decide ((l2.length : Int) > 60)) a0_0 a0_1 a0_2 a1_0 a1_1 a1_2) else (weirkeeperlaw03_StretchPicks.j0 k l2 true a0_0 a0_1 a0_2 a1_0 a1_1 a1_2))) = some r := by rw [if_pos rfl] at H; exact H
      clear H
      have H := H1
      clear H1
      replace H := Option.bind_eq_some_iff.mp H
      obtain ⟨t411, A90, H⟩ := H
      replace H : (if t411 = true then (weirkeeperlaw03_StretchPicks.j0 k l2 (decide ((l2.length : Int) > 60)) a0_0 a0_1 a0_2 a1_0 a1_1 a1_2) else (weirkeeperlaw03_StretchPicks.j0 k l2 true a0_0 a0_1 a0_2 a1_0 a1_1 a1_2)) = some r := H
      have A9 := Aside0.mk A90
      clear A90
      by_cases c10 : t411 = true
      · subst c10
        have H1 : (weirkeeperlaw03_StretchPicks.j0 k l2 (decide ((l2.length : Int) > 60)) a0_0 a0_1 a0_2 a1_0 a1_1 a1_2) = some r := by rw [if_pos rfl] at H; exact H
        clear H
        have H := H1
        clear H1
        have H' := Aside0.mk H
        clear H
        have hnb11 := NB408_409.out
        have hnc11 := NB409_408.out
        have hcz12_0 : w6.cell? ⟨gb408, 0, none⟩ = some (.string a0_0) := (blk_cell BK408.out 0).trans rfl
        have hcz12_1 : w6.cell? ⟨gb408, 1, none⟩ = some (.string a0_1) := (blk_cell BK408.out 1).trans rfl
        have hcz12_2 : w6.cell? ⟨gb408, 2, none⟩ = some (.bool a0_2) := (blk_cell BK408.out 2).trans rfl
        have hfz12_0 := blk_frozen BK408.out 0
        have hfz12_1 := blk_frozen BK408.out 1
        have hfz12_2 := blk_frozen BK408.out 2
        go_wp2_with (first | ((with_reducible refine gate_callee (f := 9) rfl ?_); refine goesL_ (some 10) rfl rfl Try.func9 (by kernel_rfl) rfl #[.agg #[.string a0_0, .string a0_1, .bool a0_2]] rfl (by (try simp only [List.map_toArray, List.map_cons, List.map_nil]); first | done | rfl | (simp only [List.length_drop, List.length_take]; rfl)) ?_; (with_reducible refine (weirkeeperlaw03_small.calls a0_0 a0_1 a0_2 true _ A7.out).mono ?_); rintro e w13 ⟨rfl, hb⟩; refine ⟨_, rfl, ?_⟩; have n0_ := Aside0.mk (blk_below (g := gb408) (o := .cells #[.string a0_0, .string a0_1, .bool a0_2] 25 (0, 0)) (by (with_reducible repeat (first | refine blk_drewN ?_ _ | refine blk_drew ?_ | refine blk_alloc ?_ _)); exact BK408.out) hb); have n1_ := Aside0.mk (blk_below (g := gb409) (o := .cells #[.string a1_0, .string a1_1, .bool a1_2] 25 (0, 0)) (by (with_reducible repeat (first | refine blk_drewN ?_ _ | refine blk_drew ?_ | refine blk_alloc ?_ _)); exact BK409.out) hb); have n2_ := Aside0.mk (below_step (by repeat (first | (with_reducible first | exact HB.out | apply below_alloc | apply pw_below_drewN | apply below_drew1 | refine below_set ?_ GE408.out | refine below_set ?_ GE409.out) | exact HB.out)) hb); clear BK408; clear BK409; clear HB; have BK408 := n0_; have BK409 := n1_; have HB := n2_; clear n0_ n1_ n2_; (try clear hb); (try clear hb2); (try clear hk); (try clear hi); have hcz14_0 : w13.cell? ⟨gb409, 0, none⟩ = some (.string a1_0) := (blk_cell BK409.out 0).trans rfl; have hcz14_1 : w13.cell? ⟨gb409, 1, none⟩ = some (.string a1_1) := (blk_cell BK409.out 1).trans rfl; have hcz14_2 : w13.cell? ⟨gb409, 2, none⟩ = some (.bool a1_2) := (blk_cell BK409.out 2).trans rfl; have hfz14_0 := blk_frozen BK409.out 0; have hfz14_1 := blk_frozen BK409.out 1; have hfz14_2 := blk_frozen BK409.out 2) | (go_at_call 9; (with_reducible refine (weirkeeperlaw03_small.calls a1_0 a1_1 a1_2 true _ A9.out).mono ?_); rintro e w15 ⟨rfl, hb⟩; have n0_ := Aside0.mk (blk_below (g := gb408) (o := .cells #[.string a0_0, .string a0_1, .bool a0_2] 25 (0, 0)) (by (with_reducible repeat (first | refine blk_drewN ?_ _ | refine blk_drew ?_ | refine blk_alloc ?_ _)); exact BK408.out) hb); have n1_ := Aside0.mk (blk_below (g := gb409) (o := .cells #[.string a1_0, .string a1_1, .bool a1_2] 25 (0, 0)) (by (with_reducible repeat (first | refine blk_drewN ?_ _ | refine blk_drew ?_ | refine blk_alloc ?_ _)); exact BK409.out) hb); have n2_ := Aside0.mk (below_step (by repeat (first | (with_reducible first | exact HB.out | apply below_alloc | apply pw_below_drewN | apply below_drew1 | refine below_set ?_ GE408.out | refine below_set ?_ GE409.out) | exact HB.out)) hb); clear BK408; clear BK409; clear HB; have BK408 := n0_; have BK409 := n1_; have HB := n2_; clear n0_ n1_ n2_; (try clear hb); (try clear hb2); (try clear hk); (try clear hi)))
        go_meet
        case rel => exact ⟨_, (decide ((l2.length : Int) > 60)), (by first | rfl | (simp; done) | (simp [*]; done)), H', ⟨by first | omega | exact Nat.le_refl _⟩, ⟨by (with_reducible repeat (first | refine blk_drewN ?_ _ | refine blk_drew ?_ | refine blk_alloc ?_ _)); exact BK408.out⟩, ⟨by (with_reducible repeat (first | refine blk_drewN ?_ _ | refine blk_drew ?_ | refine blk_alloc ?_ _)); exact BK409.out⟩, ⟨by repeat (first | (with_reducible first | exact HB.out | apply below_alloc | apply pw_below_drewN | apply below_drew1 | refine below_set ?_ GE408.out | refine below_set ?_ GE409.out) | exact HB.out)⟩⟩
      · replace c10 := Bool.eq_false_iff.mpr c10
        subst c10
        have H1 : (weirkeeperlaw03_StretchPicks.j0 k l2 true a0_0 a0_1 a0_2 a1_0 a1_1 a1_2) = some r := by rw [if_neg (show ¬ (false = true) by decide)] at H; exact H
        clear H
        have H := H1
        clear H1
        have H' := Aside0.mk H
        clear H
        have hnb16 := NB408_409.out
        have hnc16 := NB409_408.out
        have hcz17_0 : w6.cell? ⟨gb408, 0, none⟩ = some (.string a0_0) := (blk_cell BK408.out 0).trans rfl
        have hcz17_1 : w6.cell? ⟨gb408, 1, none⟩ = some (.string a0_1) := (blk_cell BK408.out 1).trans rfl
        have hcz17_2 : w6.cell? ⟨gb408, 2, none⟩ = some (.bool a0_2) := (blk_cell BK408.out 2).trans rfl
        have hfz17_0 := blk_frozen BK408.out 0
        have hfz17_1 := blk_frozen BK408.out 1
        have hfz17_2 := blk_frozen BK408.out 2
        go_wp2_with (first | ((with_reducible refine gate_callee (f := 9) rfl ?_); refine goesL_ (some 10) rfl rfl Try.func9 (by kernel_rfl) rfl #[.agg #[.string a0_0, .string a0_1, .bool a0_2]] rfl (by (try simp only [List.map_toArray, List.map_cons, List.map_nil]); first | done | rfl | (simp only [List.length_drop, List.length_take]; rfl)) ?_; (with_reducible refine (weirkeeperlaw03_small.calls a0_0 a0_1 a0_2 true _ A7.out).mono ?_); rintro e w18 ⟨rfl, hb⟩; refine ⟨_, rfl, ?_⟩; have n0_ := Aside0.mk (blk_below (g := gb408) (o := .cells #[.string a0_0, .string a0_1, .bool a0_2] 25 (0, 0)) (by (with_reducible repeat (first | refine blk_drewN ?_ _ | refine blk_drew ?_ | refine blk_alloc ?_ _)); exact BK408.out) hb); have n1_ := Aside0.mk (blk_below (g := gb409) (o := .cells #[.string a1_0, .string a1_1, .bool a1_2] 25 (0, 0)) (by (with_reducible repeat (first | refine blk_drewN ?_ _ | refine blk_drew ?_ | refine blk_alloc ?_ _)); exact BK409.out) hb); have n2_ := Aside0.mk (below_step (by repeat (first | (with_reducible first | exact HB.out | apply below_alloc | apply pw_below_drewN | apply below_drew1 | refine below_set ?_ GE408.out | refine below_set ?_ GE409.out) | exact HB.out)) hb); clear BK408; clear BK409; clear HB; have BK408 := n0_; have BK409 := n1_; have HB := n2_; clear n0_ n1_ n2_; (try clear hb); (try clear hb2); (try clear hk); (try clear hi); have hcz19_0 : w18.cell? ⟨gb409, 0, none⟩ = some (.string a1_0) := (blk_cell BK409.out 0).trans rfl; have hcz19_1 : w18.cell? ⟨gb409, 1, none⟩ = some (.string a1_1) := (blk_cell BK409.out 1).trans rfl; have hcz19_2 : w18.cell? ⟨gb409, 2, none⟩ = some (.bool a1_2) := (blk_cell BK409.out 2).trans rfl; have hfz19_0 := blk_frozen BK409.out 0; have hfz19_1 := blk_frozen BK409.out 1; have hfz19_2 := blk_frozen BK409.out 2) | (go_at_call 9; (with_reducible refine (weirkeeperlaw03_small.calls a1_0 a1_1 a1_2 false _ A9.out).mono ?_); rintro e w20 ⟨rfl, hb⟩; have n0_ := Aside0.mk (blk_below (g := gb408) (o := .cells #[.string a0_0, .string a0_1, .bool a0_2] 25 (0, 0)) (by (with_reducible repeat (first | refine blk_drewN ?_ _ | refine blk_drew ?_ | refine blk_alloc ?_ _)); exact BK408.out) hb); have n1_ := Aside0.mk (blk_below (g := gb409) (o := .cells #[.string a1_0, .string a1_1, .bool a1_2] 25 (0, 0)) (by (with_reducible repeat (first | refine blk_drewN ?_ _ | refine blk_drew ?_ | refine blk_alloc ?_ _)); exact BK409.out) hb); have n2_ := Aside0.mk (below_step (by repeat (first | (with_reducible first | exact HB.out | apply below_alloc | apply pw_below_drewN | apply below_drew1 | refine below_set ?_ GE408.out | refine below_set ?_ GE409.out) | exact HB.out)) hb); clear BK408; clear BK409; clear HB; have BK408 := n0_; have BK409 := n1_; have HB := n2_; clear n0_ n1_ n2_; (try clear hb); (try clear hb2); (try clear hk); (try clear hi)))
        go_meet
        case rel => exact ⟨_, (true), (by first | rfl | (simp; done) | (simp [*]; done)), H', ⟨by first | omega | exact Nat.le_refl _⟩, ⟨by (with_reducible repeat (first | refine blk_drewN ?_ _ | refine blk_drew ?_ | refine blk_alloc ?_ _)); exact BK408.out⟩, ⟨by (with_reducible repeat (first | refine blk_drewN ?_ _ | refine blk_drew ?_ | refine blk_alloc ?_ _)); exact BK409.out⟩, ⟨by repeat (first | (with_reducible first | exact HB.out | apply below_alloc | apply pw_below_drewN | apply below_drew1 | refine below_set ?_ GE408.out | refine below_set ?_ GE409.out) | exact HB.out)⟩⟩
    · replace c8 := Bool.eq_false_iff.mpr c8
      subst c8
      have H1 : (weirkeeperlaw03_StretchPicks.j0 k l2 true a0_0 a0_1 a0_2 a1_0 a1_1 a1_2) = some r := by rw [if_neg (show ¬ (false = true) by decide)] at H; exact H
      clear H
      have H := H1
      clear H1
      have H' := Aside0.mk H
      clear H
      have hnb21 := NB408_409.out
      have hnc21 := NB409_408.out
      have hcz22_0 : w6.cell? ⟨gb408, 0, none⟩ = some (.string a0_0) := (blk_cell BK408.out 0).trans rfl
      have hcz22_1 : w6.cell? ⟨gb408, 1, none⟩ = some (.string a0_1) := (blk_cell BK408.out 1).trans rfl
      have hcz22_2 : w6.cell? ⟨gb408, 2, none⟩ = some (.bool a0_2) := (blk_cell BK408.out 2).trans rfl
      have hfz22_0 := blk_frozen BK408.out 0
      have hfz22_1 := blk_frozen BK408.out 1
      have hfz22_2 := blk_frozen BK408.out 2
      go_wp2_with (first | ((with_reducible refine gate_callee (f := 9) rfl ?_); refine goesL_ (some 10) rfl rfl Try.func9 (by kernel_rfl) rfl #[.agg #[.string a0_0, .string a0_1, .bool a0_2]] rfl (by (try simp only [List.map_toArray, List.map_cons, List.map_nil]); first | done | rfl | (simp only [List.length_drop, List.length_take]; rfl)) ?_; (with_reducible refine (weirkeeperlaw03_small.calls a0_0 a0_1 a0_2 false _ A7.out).mono ?_); rintro e w23 ⟨rfl, hb⟩; refine ⟨_, rfl, ?_⟩; have n0_ := Aside0.mk (blk_below (g := gb408) (o := .cells #[.string a0_0, .string a0_1, .bool a0_2] 25 (0, 0)) (by (with_reducible repeat (first | refine blk_drewN ?_ _ | refine blk_drew ?_ | refine blk_alloc ?_ _)); exact BK408.out) hb); have n1_ := Aside0.mk (blk_below (g := gb409) (o := .cells #[.string a1_0, .string a1_1, .bool a1_2] 25 (0, 0)) (by (with_reducible repeat (first | refine blk_drewN ?_ _ | refine blk_drew ?_ | refine blk_alloc ?_ _)); exact BK409.out) hb); have n2_ := Aside0.mk (below_step (by repeat (first | (with_reducible first | exact HB.out | apply below_alloc | apply pw_below_drewN | apply below_drew1 | refine below_set ?_ GE408.out | refine below_set ?_ GE409.out) | exact HB.out)) hb); clear BK408; clear BK409; clear HB; have BK408 := n0_; have BK409 := n1_; have HB := n2_; clear n0_ n1_ n2_; (try clear hb); (try clear hb2); (try clear hk); (try clear hi)))
      go_meet
      case rel => exact ⟨_, (true), (by first | rfl | (simp; done) | (simp [*]; done)), H', ⟨by first | omega | exact Nat.le_refl _⟩, ⟨by (with_reducible repeat (first | refine blk_drewN ?_ _ | refine blk_drew ?_ | refine blk_alloc ?_ _)); exact BK408.out⟩, ⟨by (with_reducible repeat (first | refine blk_drewN ?_ _ | refine blk_drew ?_ | refine blk_alloc ?_ _)); exact BK409.out⟩, ⟨by repeat (first | (with_reducible first | exact HB.out | apply below_alloc | apply pw_below_drewN | apply below_drew1 | refine below_set ?_ GE408.out | refine below_set ?_ GE409.out) | exact HB.out)⟩⟩
  case rest =>
    clear HC4
    try clear c1
    try clear c2
    try clear p2
    try clear c7
    try clear c8
    try clear c9
    try clear c10
    try clear c11
    try clear c16
    try clear c21
    try clear hcz12_0
    try clear hcz12_1
    try clear hcz12_2
    try clear hcz14_0
    try clear hcz14_1
    try clear hcz14_2
    try clear hcz17_0
    try clear hcz17_1
    try clear hcz17_2
    try clear hcz19_0
    try clear hcz19_1
    try clear hcz19_2
    try clear hcz22_0
    try clear hcz22_1
    try clear hcz22_2
    try clear hfz12_0
    try clear hfz12_1
    try clear hfz12_2
    try clear hfz14_0
    try clear hfz14_1
    try clear hfz14_2
    try clear hfz17_0
    try clear hfz17_1
    try clear hfz17_2
    try clear hfz19_0
    try clear hfz19_1
    try clear hfz19_2
    try clear hfz22_0
    try clear hfz22_1
    try clear hfz22_2
    obtain ⟨kq, x21_3, rfl, HA, HJ3, BK408, BK409, HB⟩ := hcut
    cases kq with
    | zero => exact absurd HA.out (by simp [weirkeeperlaw03_StretchPicks.j0])
    | succ kj3 =>
      have H := HA.out
      clear HA
      simp only [weirkeeperlaw03_StretchPicks.j0] at H
      by_cases c24 : x21_3 = true
      · subst c24
        have H1 : ((weirkeeperlaw03_awake.f kj3).bind fun t412 => (some t412)) = some r := by rw [if_pos rfl] at H; exact H
        clear H
        have H := H1
        clear H1
        replace H := Option.bind_eq_some_iff.mp H
        obtain ⟨t412, A250, H⟩ := H
        replace H : (some t412) = some r := H
        have A25 := Aside0.mk A250
        clear A250
        obtain rfl := Option.some.inj H
        go_wp2_with (first | ((with_reducible refine gate_callee (f := 8) rfl ?_); refine goesL_ (some 22) rfl rfl Try.func8 (by kernel_rfl) rfl #[] rfl (by (try simp only [List.map_toArray, List.map_cons, List.map_nil]); first | done | rfl | (simp only [List.length_drop, List.length_take]; rfl)) ?_; (with_reducible refine (weirkeeperlaw03_awake.calls kj3  t412 _ A25.out).mono ?_); rintro e w26 ⟨rfl, hb⟩; refine ⟨_, rfl, ?_⟩; have n0_ := Aside0.mk (blk_below (g := gb408) (o := .cells #[.string a0_0, .string a0_1, .bool a0_2] 25 (0, 0)) (by (with_reducible repeat (first | refine blk_drewN ?_ _ | refine blk_drew ?_ | refine blk_alloc ?_ _)); exact BK408.out) hb); have n1_ := Aside0.mk (blk_below (g := gb409) (o := .cells #[.string a1_0, .string a1_1, .bool a1_2] 25 (0, 0)) (by (with_reducible repeat (first | refine blk_drewN ?_ _ | refine blk_drew ?_ | refine blk_alloc ?_ _)); exact BK409.out) hb); have n2_ := Aside0.mk (below_step (by repeat (first | (with_reducible first | exact HB.out | apply below_alloc | apply pw_below_drewN | apply below_drew1 | refine below_set ?_ GE408.out | refine below_set ?_ GE409.out) | exact HB.out)) hb); clear BK408; clear BK409; clear HB; have BK408 := n0_; have BK409 := n1_; have HB := n2_; clear n0_ n1_ n2_; (try clear hb); (try clear hb2); (try clear hk); (try clear hi)))
        go_ret
        exact ⟨by first | rfl | (simp [errW_none, errW_some] <;> rfl) | (simp [*, errW_none, errW_some] <;> rfl), by repeat (first | (with_reducible first | exact HB.out | apply below_alloc | apply pw_below_drewN | apply below_drew1 | refine below_set ?_ GE408.out | refine below_set ?_ GE409.out) | exact HB.out)⟩
      · replace c24 := Bool.eq_false_iff.mpr c24
        subst c24
        have H1 : ((stretch_Pick.f a1_0 a1_1 a1_2 l2).bind fun t413 => ((stretch_Pick.f a0_0 a0_1 a0_2 t413).bind fun t416 => ((stretch_Pick.f a0_0 a0_1 a0_2 l2).bind fun t419 => ((stretch_Pick.f a1_0 a1_1 a1_2 t419).bind fun t422 => ((weirkeeperref03_Same.f kj3 t416 t422).bind fun t425 => (if t425 = true then ((stretch_Meet.f kj3 (([(⟨a0_0, a0_1, a0_2⟩ : S25), (⟨a1_0, a1_1, a1_2⟩ : S25)] : List (S25)))).bind fun bt429 => ((stretch_Pick.f bt429.1 bt429.2.1 bt429.2.2 l2).bind fun t432 => ((weirkeeperref03_Same.f kj3 t416 t432).bind fun t435 => (if t435 = true then ((stretch_Pick.f (⟨#[]⟩ : ByteArray) (⟨#[]⟩ : ByteArray) true l2).bind fun t436 => ((weirkeeperref03_Same.f kj3 t436 l2).bind fun t439 => (if t439 = true then ((weirkeeperlaw03_awake.f kj3).bind fun t440 => (some t440)) else (none)))) else (none))))) else (none))))))) = some r := by rw [if_neg (show ¬ (false = true) by decide)] at H; exact H
        clear H
        have H := H1
        clear H1
        replace H := Option.bind_eq_some_iff.mp H
        obtain ⟨t413, A270, H⟩ := H
        replace H : ((stretch_Pick.f a0_0 a0_1 a0_2 t413).bind fun t416 => ((stretch_Pick.f a0_0 a0_1 a0_2 l2).bind fun t419 => ((stretch_Pick.f a1_0 a1_1 a1_2 t419).bind fun t422 => ((weirkeeperref03_Same.f kj3 t416 t422).bind fun t425 => (if t425 = true then ((stretch_Meet.f kj3 (([(⟨a0_0, a0_1, a0_2⟩ : S25), (⟨a1_0, a1_1, a1_2⟩ : S25)] : List (S25)))).bind fun bt429 => ((stretch_Pick.f bt429.1 bt429.2.1 bt429.2.2 l2).bind fun t432 => ((weirkeeperref03_Same.f kj3 t416 t432).bind fun t435 => (if t435 = true then ((stretch_Pick.f (⟨#[]⟩ : ByteArray) (⟨#[]⟩ : ByteArray) true l2).bind fun t436 => ((weirkeeperref03_Same.f kj3 t436 l2).bind fun t439 => (if t439 = true then ((weirkeeperlaw03_awake.f kj3).bind fun t440 => (some t440)) else (none)))) else (none))))) else (none)))))) = some r := H
        have A27 := Aside0.mk A270
        clear A270
        replace H := Option.bind_eq_some_iff.mp H
        obtain ⟨t416, A280, H⟩ := H
        replace H : ((stretch_Pick.f a0_0 a0_1 a0_2 l2).bind fun t419 => ((stretch_Pick.f a1_0 a1_1 a1_2 t419).bind fun t422 => ((weirkeeperref03_Same.f kj3 t416 t422).bind fun t425 => (if t425 = true then ((stretch_Meet.f kj3 (([(⟨a0_0, a0_1, a0_2⟩ : S25), (⟨a1_0, a1_1, a1_2⟩ : S25)] : List (S25)))).bind fun bt429 => ((stretch_Pick.f bt429.1 bt429.2.1 bt429.2.2 l2).bind fun t432 => ((weirkeeperref03_Same.f kj3 t416 t432).bind fun t435 => (if t435 = true then ((stretch_Pick.f (⟨#[]⟩ : ByteArray) (⟨#[]⟩ : ByteArray) true l2).bind fun t436 => ((weirkeeperref03_Same.f kj3 t436 l2).bind fun t439 => (if t439 = true then ((weirkeeperlaw03_awake.f kj3).bind fun t440 => (some t440)) else (none)))) else (none))))) else (none))))) = some r := H
        have A28 := Aside0.mk A280
        clear A280
        replace H := Option.bind_eq_some_iff.mp H
        obtain ⟨t419, A290, H⟩ := H
        replace H : ((stretch_Pick.f a1_0 a1_1 a1_2 t419).bind fun t422 => ((weirkeeperref03_Same.f kj3 t416 t422).bind fun t425 => (if t425 = true then ((stretch_Meet.f kj3 (([(⟨a0_0, a0_1, a0_2⟩ : S25), (⟨a1_0, a1_1, a1_2⟩ : S25)] : List (S25)))).bind fun bt429 => ((stretch_Pick.f bt429.1 bt429.2.1 bt429.2.2 l2).bind fun t432 => ((weirkeeperref03_Same.f kj3 t416 t432).bind fun t435 => (if t435 = true then ((stretch_Pick.f (⟨#[]⟩ : ByteArray) (⟨#[]⟩ : ByteArray) true l2).bind fun t436 => ((weirkeeperref03_Same.f kj3 t436 l2).bind fun t439 => (if t439 = true then ((weirkeeperlaw03_awake.f kj3).bind fun t440 => (some t440)) else (none)))) else (none))))) else (none)))) = some r := H
        have A29 := Aside0.mk A290
        clear A290
        replace H := Option.bind_eq_some_iff.mp H
        obtain ⟨t422, A300, H⟩ := H
        replace H : ((weirkeeperref03_Same.f kj3 t416 t422).bind fun t425 => (if t425 = true then ((stretch_Meet.f kj3 (([(⟨a0_0, a0_1, a0_2⟩ : S25), (⟨a1_0, a1_1, a1_2⟩ : S25)] : List (S25)))).bind fun bt429 => ((stretch_Pick.f bt429.1 bt429.2.1 bt429.2.2 l2).bind fun t432 => ((weirkeeperref03_Same.f kj3 t416 t432).bind fun t435 => (if t435 = true then ((stretch_Pick.f (⟨#[]⟩ : ByteArray) (⟨#[]⟩ : ByteArray) true l2).bind fun t436 => ((weirkeeperref03_Same.f kj3 t436 l2).bind fun t439 => (if t439 = true then ((weirkeeperlaw03_awake.f kj3).bind fun t440 => (some t440)) else (none)))) else (none))))) else (none))) = some r := H
        have A30 := Aside0.mk A300
        clear A300
        replace H := Option.bind_eq_some_iff.mp H
        obtain ⟨t425, A310, H⟩ := H
        replace H : (if t425 = true then ((stretch_Meet.f kj3 (([(⟨a0_0, a0_1, a0_2⟩ : S25), (⟨a1_0, a1_1, a1_2⟩ : S25)] : List (S25)))).bind fun bt429 => ((stretch_Pick.f bt429.1 bt429.2.1 bt429.2.2 l2).bind fun t432 => ((weirkeeperref03_Same.f kj3 t416 t432).bind fun t435 => (if t435 = true then ((stretch_Pick.f (⟨#[]⟩ : ByteArray) (⟨#[]⟩ : ByteArray) true l2).bind fun t436 => ((weirkeeperref03_Same.f kj3 t436 l2).bind fun t439 => (if t439 = true then ((weirkeeperlaw03_awake.f kj3).bind fun t440 => (some t440)) else (none)))) else (none))))) else (none)) = some r := H
        have A31 := Aside0.mk A310
        clear A310
        by_cases c32 : t425 = true
        · subst c32
          have H1 : ((stretch_Meet.f kj3 (([(⟨a0_0, a0_1, a0_2⟩ : S25), (⟨a1_0, a1_1, a1_2⟩ : S25)] : List (S25)))).bind fun bt429 => ((stretch_Pick.f bt429.1 bt429.2.1 bt429.2.2 l2).bind fun t432 => ((weirkeeperref03_Same.f kj3 t416 t432).bind fun t435 => (if t435 = true then ((stretch_Pick.f (⟨#[]⟩ : ByteArray) (⟨#[]⟩ : ByteArray) true l2).bind fun t436 => ((weirkeeperref03_Same.f kj3 t436 l2).bind fun t439 => (if t439 = true then ((weirkeeperlaw03_awake.f kj3).bind fun t440 => (some t440)) else (none)))) else (none))))) = some r := by rw [if_pos rfl] at H; exact H
          clear H
          have H := H1
          clear H1
          obtain ⟨y426, hy426⟩ : ∃ y_ : List (S25), y_ = (([(⟨a0_0, a0_1, a0_2⟩ : S25), (⟨a1_0, a1_1, a1_2⟩ : S25)] : List (S25))) := ⟨_, rfl⟩
          replace H : ((stretch_Meet.f kj3 y426).bind fun bt429 => ((stretch_Pick.f bt429.1 bt429.2.1 bt429.2.2 l2).bind fun t432 => ((weirkeeperref03_Same.f kj3 t416 t432).bind fun t435 => (if t435 = true then ((stretch_Pick.f (⟨#[]⟩ : ByteArray) (⟨#[]⟩ : ByteArray) true l2).bind fun t436 => ((weirkeeperref03_Same.f kj3 t436 l2).bind fun t439 => (if t439 = true then ((weirkeeperlaw03_awake.f kj3).bind fun t440 => (some t440)) else (none)))) else (none))))) = some r := by first | (rw [hy426]; with_reducible exact H) | (have H2_ := (Option.bind_some _ _).symm.trans H; rw [hy426]; with_reducible exact H2_) | (have H2_ := (Option.bind_some _ _).symm.trans H; with_reducible exact H2_) | with_reducible exact H | (rw [hy426]; exact H) | exact H
          have Ny426 := Aside0.mk hy426
          clear hy426
          replace H := Option.bind_eq_some_iff.mp H
          obtain ⟨⟨t429, t430, t431⟩, A330, H⟩ := H
          replace H : ((stretch_Pick.f t429 t430 t431 l2).bind fun t432 => ((weirkeeperref03_Same.f kj3 t416 t432).bind fun t435 => (if t435 = true then ((stretch_Pick.f (⟨#[]⟩ : ByteArray) (⟨#[]⟩ : ByteArray) true l2).bind fun t436 => ((weirkeeperref03_Same.f kj3 t436 l2).bind fun t439 => (if t439 = true then ((weirkeeperlaw03_awake.f kj3).bind fun t440 => (some t440)) else (none)))) else (none)))) = some r := H
          have A33 := Aside0.mk A330
          clear A330
          replace H := Option.bind_eq_some_iff.mp H
          obtain ⟨t432, A340, H⟩ := H
          replace H : ((weirkeeperref03_Same.f kj3 t416 t432).bind fun t435 => (if t435 = true then ((stretch_Pick.f (⟨#[]⟩ : ByteArray) (⟨#[]⟩ : ByteArray) true l2).bind fun t436 => ((weirkeeperref03_Same.f kj3 t436 l2).bind fun t439 => (if t439 = true then ((weirkeeperlaw03_awake.f kj3).bind fun t440 => (some t440)) else (none)))) else (none))) = some r := H
          have A34 := Aside0.mk A340
          clear A340
          replace H := Option.bind_eq_some_iff.mp H
          obtain ⟨t435, A350, H⟩ := H
          replace H : (if t435 = true then ((stretch_Pick.f (⟨#[]⟩ : ByteArray) (⟨#[]⟩ : ByteArray) true l2).bind fun t436 => ((weirkeeperref03_Same.f kj3 t436 l2).bind fun t439 => (if t439 = true then ((weirkeeperlaw03_awake.f kj3).bind fun t440 => (some t440)) else (none)))) else (none)) = some r := H
          have A35 := Aside0.mk A350
          clear A350
          by_cases c36 : t435 = true
          · subst c36
            have H1 : ((stretch_Pick.f (⟨#[]⟩ : ByteArray) (⟨#[]⟩ : ByteArray) true l2).bind fun t436 => ((weirkeeperref03_Same.f kj3 t436 l2).bind fun t439 => (if t439 = true then ((weirkeeperlaw03_awake.f kj3).bind fun t440 => (some t440)) else (none)))) = some r := by rw [if_pos rfl] at H; exact H
            clear H
            have H := H1
            clear H1
            replace H := Option.bind_eq_some_iff.mp H
            obtain ⟨t436, A370, H⟩ := H
            replace H : ((weirkeeperref03_Same.f kj3 t436 l2).bind fun t439 => (if t439 = true then ((weirkeeperlaw03_awake.f kj3).bind fun t440 => (some t440)) else (none))) = some r := H
            have A37 := Aside0.mk A370
            clear A370
            replace H := Option.bind_eq_some_iff.mp H
            obtain ⟨t439, A380, H⟩ := H
            replace H : (if t439 = true then ((weirkeeperlaw03_awake.f kj3).bind fun t440 => (some t440)) else (none)) = some r := H
            have A38 := Aside0.mk A380
            clear A380
            by_cases c39 : t439 = true
            · subst c39
              have H1 : ((weirkeeperlaw03_awake.f kj3).bind fun t440 => (some t440)) = some r := by rw [if_pos rfl] at H; exact H
              clear H
              have H := H1
              clear H1
              replace H := Option.bind_eq_some_iff.mp H
              obtain ⟨t440, A400, H⟩ := H
              replace H : (some t440) = some r := H
              have A40 := Aside0.mk A400
              clear A400
              obtain rfl := Option.some.inj H
              try go_wp2
              have n0_ := Aside0.mk (blk_drew BK408.out)
              have n1_ := Aside0.mk (blk_drew BK409.out)
              have n2_ := Aside0.mk (below_drew1 HB.out)
              clear BK408
              clear BK409
              clear HB
              have BK408 := n0_
              have BK409 := n1_
              have HB := n2_
              clear n0_ n1_ n2_
              refine start_ (n := 6) (S := fun w' => w'.cell? ⟨gb408, 0, none⟩ = some (.string a0_0) ∧ w'.cell? ⟨gb408, 1, none⟩ = some (.string a0_1) ∧ w'.cell? ⟨gb408, 2, none⟩ = some (.bool a0_2) ∧ w'.cell? ⟨gb409, 0, none⟩ = some (.string a1_0) ∧ w'.cell? ⟨gb409, 1, none⟩ = some (.string a1_1) ∧ w'.cell? ⟨gb409, 2, none⟩ = some (.bool a1_2)) (ds := []) #[false, false, false, false, false, false] (by kernel_rfl) rfl rfl ⟨(blk_cell BK408.out 0).trans rfl, (blk_cell BK408.out 1).trans rfl, (blk_cell BK408.out 2).trans rfl, (blk_cell BK409.out 0).trans rfl, (blk_cell BK409.out 1).trans rfl, (blk_cell BK409.out 2).trans rfl⟩ (fun hHeld => ?_)
              generalize wc.drew = w41 at BK408 BK409 HB hHeld ⊢
              refine pure_ (i := 2) (N := some 25) (v := ?_) (a' := ?_) #[false, false, true, false, false, false] rfl rfl (by kernel_rfl) (fun _ _ _ h => h) (Or.inl ⟨by rfl, ?_⟩) ?_ ?_
              rotate_left
              · intro w'
                go_simp
                with_reducible rfl
              rotate_left
              · simp only [Act.put, List.setIfInBounds_toArray, List.set_cons_zero, List.set_cons_succ, i64_w, i32_w]
                rfl
              refine take_ (i := 0) (N := some 23) (v := ?_) (a' := ?_) #[true, false, true, false, false, false] rfl rfl (by kernel_rfl) (fun _ _ _ h => h) (Or.inl ⟨by rfl, ?_⟩) hHeld ?_ ?_
              rotate_left
              · rintro w' ⟨s0, s1, s2, s3, s4, s5⟩
                go_simp
                with_reducible rfl
              rotate_left
              · simp only [Act.put, List.setIfInBounds_toArray, List.set_cons_zero, List.set_cons_succ, i64_w, i32_w]
                rfl
              refine take_ (i := 1) (N := some 24) (v := ?_) (a' := ?_) #[true, true, true, false, false, false] rfl rfl (by kernel_rfl) (fun _ _ _ h => h) (Or.inl ⟨by rfl, ?_⟩) hHeld ?_ ?_
              rotate_left
              · rintro w' ⟨s0, s1, s2, s3, s4, s5⟩
                go_simp
                with_reducible rfl
              rotate_left
              · simp only [Act.put, List.setIfInBounds_toArray, List.set_cons_zero, List.set_cons_succ, i64_w, i32_w]
                rfl
              refine one_ (i := 3) (N := some 26) #[true, true, true, true, false, false] rfl rfl (by kernel_rfl) (by decide) (fun K hK => ?_)
              refine goes_ Try.func17 (by kernel_rfl) rfl #[.agg #[.string a1_0, .string a1_1, .bool a1_2], .slice A2 l2.length c2] (by rfl) rfl rfl (by (try simp only [List.map_toArray, List.map_cons, List.map_nil]); first | done | rfl | (simp only [List.length_drop, List.length_take]; rfl)) ?_
              with_reducible refine (stretch_Pick.calls a1_0 a1_1 a1_2 _ _ l2 t413 _ ?side1 ?side2 A27.out).mono ?_
              (case side1 => repeat (first | exact (Kd.C_below HR2.out HB.out) | (with_reducible refine Kd.C_alloc ?_ _) | (with_reducible refine Kd.C_drewN ?_ _) | (with_reducible refine Kd.C_drew ?_)))
              (case side2 => exact HC2.out)
              rintro e w42 ⟨v414, rfl, ho0, hb⟩
              refine ⟨_, rfl, ?_⟩
              have n0_ := Aside0.mk (Kd.R_lower ho0 (below_size (by repeat (first | (with_reducible first | exact HB.out | apply below_alloc | apply pw_below_drewN | apply below_drew1 | refine below_set ?_ GE408.out | refine below_set ?_ GE409.out) | exact HB.out))))
              have n1_ := Aside0.mk (blk_below (g := gb408) (o := .cells #[.string a0_0, .string a0_1, .bool a0_2] 25 (0, 0)) (by (with_reducible repeat (first | refine blk_drewN ?_ _ | refine blk_drew ?_ | refine blk_alloc ?_ _)); exact BK408.out) hb)
              have n2_ := Aside0.mk (blk_below (g := gb409) (o := .cells #[.string a1_0, .string a1_1, .bool a1_2] 25 (0, 0)) (by (with_reducible repeat (first | refine blk_drewN ?_ _ | refine blk_drew ?_ | refine blk_alloc ?_ _)); exact BK409.out) hb)
              have n3_ := Aside0.mk (below_step (by repeat (first | (with_reducible first | exact HB.out | apply below_alloc | apply pw_below_drewN | apply below_drew1 | refine below_set ?_ GE408.out | refine below_set ?_ GE409.out) | exact HB.out)) hb)
              clear BK408
              clear BK409
              clear HB
              have HO415 := n0_
              have BK408 := n1_
              have BK409 := n2_
              have HB := n3_
              clear n0_ n1_ n2_ n3_
              (try clear hb)
              (try clear hb2)
              (try clear hk)
              (try clear hi)
              (try clear ho0)
              obtain ⟨Ao43, co43, eo43⟩ := Kd.R_slice HO415.out
              (first | subst eo43 | (injection eo43 with f1_ f2_ f3_; have f4_ := f1_.symm; have f5_ := f3_.symm; clear f1_ f2_ f3_; subst f4_; subst f5_))
              refine hK.out _ _ ⟨(blk_cell BK408.out 0).trans rfl, (blk_cell BK408.out 1).trans rfl, (blk_cell BK408.out 2).trans rfl, (blk_cell BK409.out 0).trans rfl, (blk_cell BK409.out 1).trans rfl, (blk_cell BK409.out 2).trans rfl⟩ (fun hHeld => ?_)
              clear hK K
              refine norm_ (a' := ?_) ?_ ?_
              rotate_left
              · show Act.put _ (some 26) _ = _
                simp only [Act.put, List.setIfInBounds_toArray, List.set_cons_zero, List.set_cons_succ, i64_w, i32_w]
                rfl
              refine one_ (i := 4) (N := some 27) #[true, true, true, true, true, false] rfl rfl (by kernel_rfl) (by decide) (fun K hK => ?_)
              refine goes_ Try.func17 (by kernel_rfl) rfl #[.agg #[.string a0_0, .string a0_1, .bool a0_2], .slice Ao43 t413.length co43] (by rfl) rfl rfl (by (try simp only [List.map_toArray, List.map_cons, List.map_nil]); first | done | rfl | (simp only [List.length_drop, List.length_take]; rfl)) ?_
              with_reducible refine (stretch_Pick.calls a0_0 a0_1 a0_2 _ _ t413 t416 _ ?side1 ?side2 A28.out).mono ?_
              (case side1 => repeat (first | exact (Kd.R_reads' HO415.out).2.2 | (with_reducible refine Kd.C_alloc ?_ _) | (with_reducible refine Kd.C_drewN ?_ _) | (with_reducible refine Kd.C_drew ?_)))
              (case side2 => exact (Kd.R_reads' HO415.out).2.1)
              rintro e w44 ⟨v417, rfl, ho0, hb⟩
              refine ⟨_, rfl, ?_⟩
              have n0_ := Aside0.mk (Kd.R_elder' (by (with_reducible repeat (first | apply Kd.R_alloc | apply Kd.R_drewN | apply Kd.R_drew)); exact HO415.out) (Kd.R_base ho0) hb)
              have n1_ := Aside0.mk (Kd.R_lower (Kd.R_new' ho0 (Kd.R_lt (by (with_reducible repeat (first | apply Kd.R_alloc | apply Kd.R_drewN | apply Kd.R_drew)); exact HO415.out))) (below_size (by repeat (first | (with_reducible first | exact HB.out | apply below_alloc | apply pw_below_drewN | apply below_drew1 | refine below_set ?_ GE408.out | refine below_set ?_ GE409.out) | exact HB.out))))
              have n2_ := Aside0.mk (blk_below (g := gb408) (o := .cells #[.string a0_0, .string a0_1, .bool a0_2] 25 (0, 0)) (by (with_reducible repeat (first | refine blk_drewN ?_ _ | refine blk_drew ?_ | refine blk_alloc ?_ _)); exact BK408.out) hb)
              have n3_ := Aside0.mk (blk_below (g := gb409) (o := .cells #[.string a1_0, .string a1_1, .bool a1_2] 25 (0, 0)) (by (with_reducible repeat (first | refine blk_drewN ?_ _ | refine blk_drew ?_ | refine blk_alloc ?_ _)); exact BK409.out) hb)
              have n4_ := Aside0.mk (below_step (by repeat (first | (with_reducible first | exact HB.out | apply below_alloc | apply pw_below_drewN | apply below_drew1 | refine below_set ?_ GE408.out | refine below_set ?_ GE409.out) | exact HB.out)) hb)
              clear HO415
              clear BK408
              clear BK409
              clear HB
              have HO415 := n0_
              have HO418 := n1_
              have BK408 := n2_
              have BK409 := n3_
              have HB := n4_
              clear n0_ n1_ n2_ n3_ n4_
              (try clear hb)
              (try clear hb2)
              (try clear hk)
              (try clear hi)
              (try clear ho0)
              refine hK.out _ _ ⟨(blk_cell BK408.out 0).trans rfl, (blk_cell BK408.out 1).trans rfl, (blk_cell BK408.out 2).trans rfl, (blk_cell BK409.out 0).trans rfl, (blk_cell BK409.out 1).trans rfl, (blk_cell BK409.out 2).trans rfl⟩ (fun hHeld => ?_)
              clear hK K
              refine norm_ (a' := ?_) ?_ ?_
              rotate_left
              · show Act.put _ (some 27) _ = _
                simp only [Act.put, List.setIfInBounds_toArray, List.set_cons_zero, List.set_cons_succ, i64_w, i32_w]
                rfl
              refine pure_ (i := 5) (N := some 7) (v := ?_) (a' := ?_) #[true, true, true, true, true, true] rfl rfl (by kernel_rfl) (fun _ _ _ h => h) (Or.inl ⟨by rfl, ?_⟩) ?_ ?_
              rotate_left
              · intro w'
                go_simp
                with_reducible rfl
              rotate_left
              · simp only [Act.put, List.setIfInBounds_toArray, List.set_cons_zero, List.set_cons_succ, i64_w, i32_w]
                rfl
              refine done_ (by kernel_rfl) ?_
              try go_wp2
              have n0_ := Aside0.mk (Kd.R_drew HO415.out)
              have n1_ := Aside0.mk (Kd.R_drew HO418.out)
              have n2_ := Aside0.mk (blk_drew BK408.out)
              have n3_ := Aside0.mk (blk_drew BK409.out)
              have n4_ := Aside0.mk (below_drew1 HB.out)
              clear HO415
              clear HO418
              clear BK408
              clear BK409
              clear HB
              have HO415 := n0_
              have HO418 := n1_
              have BK408 := n2_
              have BK409 := n3_
              have HB := n4_
              clear n0_ n1_ n2_ n3_ n4_
              refine start_ (n := 6) (S := fun w' => w'.cell? ⟨gb409, 0, none⟩ = some (.string a1_0) ∧ w'.cell? ⟨gb409, 1, none⟩ = some (.string a1_1) ∧ w'.cell? ⟨gb409, 2, none⟩ = some (.bool a1_2) ∧ w'.cell? ⟨gb408, 0, none⟩ = some (.string a0_0) ∧ w'.cell? ⟨gb408, 1, none⟩ = some (.string a0_1) ∧ w'.cell? ⟨gb408, 2, none⟩ = some (.bool a0_2)) (ds := []) #[false, false, false, false, false, false] (by kernel_rfl) rfl rfl ⟨(blk_cell BK409.out 0).trans rfl, (blk_cell BK409.out 1).trans rfl, (blk_cell BK409.out 2).trans rfl, (blk_cell BK408.out 0).trans rfl, (blk_cell BK408.out 1).trans rfl, (blk_cell BK408.out 2).trans rfl⟩ (fun hHeld => ?_)
              generalize w44.drew = w45 at HO415 HO418 BK408 BK409 HB hHeld ⊢
              refine pure_ (i := 2) (N := some 30) (v := ?_) (a' := ?_) #[false, false, true, false, false, false] rfl rfl (by kernel_rfl) (fun _ _ _ h => h) (Or.inl ⟨by rfl, ?_⟩) ?_ ?_
              rotate_left
              · intro w'
                go_simp
                with_reducible rfl
              rotate_left
              · simp only [Act.put, List.setIfInBounds_toArray, List.set_cons_zero, List.set_cons_succ, i64_w, i32_w]
                rfl
              refine take_ (i := 0) (N := some 28) (v := ?_) (a' := ?_) #[true, false, true, false, false, false] rfl rfl (by kernel_rfl) (fun _ _ _ h => h) (Or.inl ⟨by rfl, ?_⟩) hHeld ?_ ?_
              rotate_left
              · rintro w' ⟨s0, s1, s2, s3, s4, s5⟩
                go_simp
                with_reducible rfl
              rotate_left
              · simp only [Act.put, List.setIfInBounds_toArray, List.set_cons_zero, List.set_cons_succ, i64_w, i32_w]
                rfl
              refine take_ (i := 1) (N := some 29) (v := ?_) (a' := ?_) #[true, true, true, false, false, false] rfl rfl (by kernel_rfl) (fun _ _ _ h => h) (Or.inl ⟨by rfl, ?_⟩) hHeld ?_ ?_
              rotate_left
              · rintro w' ⟨s0, s1, s2, s3, s4, s5⟩
                go_simp
                with_reducible rfl
              rotate_left
              · simp only [Act.put, List.setIfInBounds_toArray, List.set_cons_zero, List.set_cons_succ, i64_w, i32_w]
                rfl
              refine one_ (i := 3) (N := some 31) #[true, true, true, true, false, false] rfl rfl (by kernel_rfl) (by decide) (fun K hK => ?_)
              refine goes_ Try.func17 (by kernel_rfl) rfl #[.agg #[.string a0_0, .string a0_1, .bool a0_2], .slice A2 l2.length c2] (by rfl) rfl rfl (by (try simp only [List.map_toArray, List.map_cons, List.map_nil]); first | done | rfl | (simp only [List.length_drop, List.length_take]; rfl)) ?_
              with_reducible refine (stretch_Pick.calls a0_0 a0_1 a0_2 _ _ l2 t419 _ ?side1 ?side2 A29.out).mono ?_
              (case side1 => repeat (first | exact (Kd.C_below HR2.out HB.out) | (with_reducible refine Kd.C_alloc ?_ _) | (with_reducible refine Kd.C_drewN ?_ _) | (with_reducible refine Kd.C_drew ?_)))
              (case side2 => exact HC2.out)
              rintro e w46 ⟨v420, rfl, ho0, hb⟩
              refine ⟨_, rfl, ?_⟩
              have n0_ := Aside0.mk (Kd.R_elder' (by (with_reducible repeat (first | apply Kd.R_alloc | apply Kd.R_drewN | apply Kd.R_drew)); exact HO415.out) (Kd.R_base ho0) hb)
              have n1_ := Aside0.mk (Kd.R_elder' (by (with_reducible repeat (first | apply Kd.R_alloc | apply Kd.R_drewN | apply Kd.R_drew)); exact HO418.out) (Kd.R_base ho0) hb)
              have n2_ := Aside0.mk (Kd.R_lower (Kd.R_new' (Kd.R_new' ho0 (Kd.R_lt (by (with_reducible repeat (first | apply Kd.R_alloc | apply Kd.R_drewN | apply Kd.R_drew)); exact HO415.out))) (Kd.R_lt (by (with_reducible repeat (first | apply Kd.R_alloc | apply Kd.R_drewN | apply Kd.R_drew)); exact HO418.out))) (below_size (by repeat (first | (with_reducible first | exact HB.out | apply below_alloc | apply pw_below_drewN | apply below_drew1 | refine below_set ?_ GE408.out | refine below_set ?_ GE409.out) | exact HB.out))))
              have n3_ := Aside0.mk (blk_below (g := gb408) (o := .cells #[.string a0_0, .string a0_1, .bool a0_2] 25 (0, 0)) (by (with_reducible repeat (first | refine blk_drewN ?_ _ | refine blk_drew ?_ | refine blk_alloc ?_ _)); exact BK408.out) hb)
              have n4_ := Aside0.mk (blk_below (g := gb409) (o := .cells #[.string a1_0, .string a1_1, .bool a1_2] 25 (0, 0)) (by (with_reducible repeat (first | refine blk_drewN ?_ _ | refine blk_drew ?_ | refine blk_alloc ?_ _)); exact BK409.out) hb)
              have n5_ := Aside0.mk (below_step (by repeat (first | (with_reducible first | exact HB.out | apply below_alloc | apply pw_below_drewN | apply below_drew1 | refine below_set ?_ GE408.out | refine below_set ?_ GE409.out) | exact HB.out)) hb)
              clear HO415
              clear HO418
              clear BK408
              clear BK409
              clear HB
              have HO415 := n0_
              have HO418 := n1_
              have HO421 := n2_
              have BK408 := n3_
              have BK409 := n4_
              have HB := n5_
              clear n0_ n1_ n2_ n3_ n4_ n5_
              (try clear hb)
              (try clear hb2)
              (try clear hk)
              (try clear hi)
              (try clear ho0)
              obtain ⟨Ao47, co47, eo47⟩ := Kd.R_slice HO421.out
              (first | subst eo47 | (injection eo47 with f1_ f2_ f3_; have f4_ := f1_.symm; have f5_ := f3_.symm; clear f1_ f2_ f3_; subst f4_; subst f5_))
              refine hK.out _ _ ⟨(blk_cell BK409.out 0).trans rfl, (blk_cell BK409.out 1).trans rfl, (blk_cell BK409.out 2).trans rfl, (blk_cell BK408.out 0).trans rfl, (blk_cell BK408.out 1).trans rfl, (blk_cell BK408.out 2).trans rfl⟩ (fun hHeld => ?_)
              clear hK K
              refine norm_ (a' := ?_) ?_ ?_
              rotate_left
              · show Act.put _ (some 31) _ = _
                simp only [Act.put, List.setIfInBounds_toArray, List.set_cons_zero, List.set_cons_succ, i64_w, i32_w]
                rfl
              refine one_ (i := 4) (N := some 32) #[true, true, true, true, true, false] rfl rfl (by kernel_rfl) (by decide) (fun K hK => ?_)
              refine goes_ Try.func17 (by kernel_rfl) rfl #[.agg #[.string a1_0, .string a1_1, .bool a1_2], .slice Ao47 t419.length co47] (by rfl) rfl rfl (by (try simp only [List.map_toArray, List.map_cons, List.map_nil]); first | done | rfl | (simp only [List.length_drop, List.length_take]; rfl)) ?_
              with_reducible refine (stretch_Pick.calls a1_0 a1_1 a1_2 _ _ t419 t422 _ ?side1 ?side2 A30.out).mono ?_
              (case side1 => repeat (first | exact (Kd.R_reads' HO421.out).2.2 | (with_reducible refine Kd.C_alloc ?_ _) | (with_reducible refine Kd.C_drewN ?_ _) | (with_reducible refine Kd.C_drew ?_)))
              (case side2 => exact (Kd.R_reads' HO421.out).2.1)
              rintro e w48 ⟨v423, rfl, ho0, hb⟩
              refine ⟨_, rfl, ?_⟩
              have n0_ := Aside0.mk (Kd.R_elder' (by (with_reducible repeat (first | apply Kd.R_alloc | apply Kd.R_drewN | apply Kd.R_drew)); exact HO415.out) (Kd.R_base ho0) hb)
              have n1_ := Aside0.mk (Kd.R_elder' (by (with_reducible repeat (first | apply Kd.R_alloc | apply Kd.R_drewN | apply Kd.R_drew)); exact HO418.out) (Kd.R_base ho0) hb)
              have n2_ := Aside0.mk (Kd.R_elder' (by (with_reducible repeat (first | apply Kd.R_alloc | apply Kd.R_drewN | apply Kd.R_drew)); exact HO421.out) (Kd.R_base ho0) hb)
              have n3_ := Aside0.mk (Kd.R_lower (Kd.R_new' (Kd.R_new' (Kd.R_new' ho0 (Kd.R_lt (by (with_reducible repeat (first | apply Kd.R_alloc | apply Kd.R_drewN | apply Kd.R_drew)); exact HO415.out))) (Kd.R_lt (by (with_reducible repeat (first | apply Kd.R_alloc | apply Kd.R_drewN | apply Kd.R_drew)); exact HO418.out))) (Kd.R_lt (by (with_reducible repeat (first | apply Kd.R_alloc | apply Kd.R_drewN | apply Kd.R_drew)); exact HO421.out))) (below_size (by repeat (first | (with_reducible first | exact HB.out | apply below_alloc | apply pw_below_drewN | apply below_drew1 | refine below_set ?_ GE408.out | refine below_set ?_ GE409.out) | exact HB.out))))
              have n4_ := Aside0.mk (blk_below (g := gb408) (o := .cells #[.string a0_0, .string a0_1, .bool a0_2] 25 (0, 0)) (by (with_reducible repeat (first | refine blk_drewN ?_ _ | refine blk_drew ?_ | refine blk_alloc ?_ _)); exact BK408.out) hb)
              have n5_ := Aside0.mk (blk_below (g := gb409) (o := .cells #[.string a1_0, .string a1_1, .bool a1_2] 25 (0, 0)) (by (with_reducible repeat (first | refine blk_drewN ?_ _ | refine blk_drew ?_ | refine blk_alloc ?_ _)); exact BK409.out) hb)
              have n6_ := Aside0.mk (below_step (by repeat (first | (with_reducible first | exact HB.out | apply below_alloc | apply pw_below_drewN | apply below_drew1 | refine below_set ?_ GE408.out | refine below_set ?_ GE409.out) | exact HB.out)) hb)
              clear HO415
              clear HO418
              clear HO421
              clear BK408
              clear BK409
              clear HB
              have HO415 := n0_
              have HO418 := n1_
              have HO421 := n2_
              have HO424 := n3_
              have BK408 := n4_
              have BK409 := n5_
              have HB := n6_
              clear n0_ n1_ n2_ n3_ n4_ n5_ n6_
              (try clear hb)
              (try clear hb2)
              (try clear hk)
              (try clear hi)
              (try clear ho0)
              refine hK.out _ _ ⟨(blk_cell BK409.out 0).trans rfl, (blk_cell BK409.out 1).trans rfl, (blk_cell BK409.out 2).trans rfl, (blk_cell BK408.out 0).trans rfl, (blk_cell BK408.out 1).trans rfl, (blk_cell BK408.out 2).trans rfl⟩ (fun hHeld => ?_)
              clear hK K
              refine norm_ (a' := ?_) ?_ ?_
              rotate_left
              · show Act.put _ (some 32) _ = _
                simp only [Act.put, List.setIfInBounds_toArray, List.set_cons_zero, List.set_cons_succ, i64_w, i32_w]
                rfl
              refine pure_ (i := 5) (N := some 8) (v := ?_) (a' := ?_) #[true, true, true, true, true, true] rfl rfl (by kernel_rfl) (fun _ _ _ h => h) (Or.inl ⟨by rfl, ?_⟩) ?_ ?_
              rotate_left
              · intro w'
                go_simp
                with_reducible rfl
              rotate_left
              · simp only [Act.put, List.setIfInBounds_toArray, List.set_cons_zero, List.set_cons_succ, i64_w, i32_w]
                rfl
              refine done_ (by kernel_rfl) ?_
              obtain ⟨Ao49, co49, eo49⟩ := Kd.R_slice HO418.out
              subst eo49
              obtain ⟨Ao50, co50, eo50⟩ := Kd.R_slice HO424.out
              subst eo50
              try go_wp2_with (first | ((with_reducible refine gate_callee (f := 18) rfl ?_); refine goesL_ (some 35) rfl rfl Try.func18 (by kernel_rfl) rfl #[.slice Ao49 t416.length co49, .slice Ao50 t422.length co50] rfl (by (try simp only [List.map_toArray, List.map_cons, List.map_nil]); first | done | rfl | (simp only [List.length_drop, List.length_take]; rfl)) ?_; (with_reducible refine (weirkeeperref03_Same.calls kj3 _ _ t416 _ _ t422 true _ ?side1 ?side2 ?side3 ?side4 A31.out).mono ?_); (case side1 => repeat (first | exact (Kd.R_reads' HO418.out).2.2 | (with_reducible refine Kd.C_alloc ?_ _) | (with_reducible refine Kd.C_drewN ?_ _) | (with_reducible refine Kd.C_drew ?_))); (case side2 => exact (Kd.R_reads' HO418.out).2.1); (case side3 => repeat (first | exact (Kd.R_reads' HO424.out).2.2 | (with_reducible refine Kd.C_alloc ?_ _) | (with_reducible refine Kd.C_drewN ?_ _) | (with_reducible refine Kd.C_drew ?_))); (case side4 => exact (Kd.R_reads' HO424.out).2.1); rintro e w' ⟨rfl, ⟨nd, rfl⟩⟩; refine ⟨_, rfl, ?_⟩; have hnb51 := NB408_409.out; have hnc51 := NB409_408.out; have hcz52_0 : w48.cell? ⟨gb408, 0, none⟩ = some (.string a0_0) := (blk_cell BK408.out 0).trans rfl; have hcz52_1 : w48.cell? ⟨gb408, 1, none⟩ = some (.string a0_1) := (blk_cell BK408.out 1).trans rfl; have hcz52_2 : w48.cell? ⟨gb408, 2, none⟩ = some (.bool a0_2) := (blk_cell BK408.out 2).trans rfl; have hfz52_0 := blk_frozen BK408.out 0; have hfz52_1 := blk_frozen BK408.out 1; have hfz52_2 := blk_frozen BK408.out 2; have hcz53_0 : w48.cell? ⟨gb409, 0, none⟩ = some (.string a1_0) := (blk_cell BK409.out 0).trans rfl; have hcz53_1 : w48.cell? ⟨gb409, 1, none⟩ = some (.string a1_1) := (blk_cell BK409.out 1).trans rfl; have hcz53_2 : w48.cell? ⟨gb409, 2, none⟩ = some (.bool a1_2) := (blk_cell BK409.out 2).trans rfl; have hfz53_0 := blk_frozen BK409.out 0; have hfz53_1 := blk_frozen BK409.out 1; have hfz53_2 := blk_frozen BK409.out 2) | ((with_reducible refine gate_dst (N := 40) rfl ?_); (try (refine gate_guard (by rfl) ?_; dsimp only)); refine Kd.R_lit k25 _ 25 ?hg (N := 40) ?hd (xs := ([(⟨a0_0, a0_1, a0_2⟩ : S25), (⟨a1_0, a1_1, a1_2⟩ : S25)] : List (S25))) (inner := [.string a0_0, .string a0_1, .bool a0_2, .string a1_0, .string a1_1, .bool a1_2]) (ok := fun _ => True) (okp := fun _ => True) ?hr ?hp (fun _ hk => hk) trivial (Below.refl _ _) (Nat.le_refl _) (by simp) ?_; (case hd => rfl); (case hg => rfl); (case hr => first | (go_simp; done) | (go_simp; rfl)); (case hp => exact (Reps.c3 (show Kd.M k25 _ _ _ (⟨a0_0, a0_1, a0_2⟩ : S25) [.string a0_0, .string a0_1, .bool a0_2] from (k25_mkM _ _ _ (⟨a0_0, a0_1, a0_2⟩ : S25) )) (Reps.c3 (show Kd.M k25 _ _ _ (⟨a1_0, a1_1, a1_2⟩ : S25) [.string a1_0, .string a1_1, .bool a1_2] from (k25_mkM _ _ _ (⟨a1_0, a1_1, a1_2⟩ : S25) )) (Reps.none _ _)))); intro v427 w54 ho55 hb hg_ hnew_; clear hg_ hnew_; (first | rw [← Ny426.out] at ho55 | (simp only [Int.reduceToNat] at ho55; rw [← Ny426.out] at ho55)); have n0_ := Aside0.mk (Kd.R_below (by (with_reducible repeat (first | apply Kd.R_alloc | apply Kd.R_drewN | apply Kd.R_drew)); exact HO415.out) hb); have n1_ := Aside0.mk (Kd.R_below (by (with_reducible repeat (first | apply Kd.R_alloc | apply Kd.R_drewN | apply Kd.R_drew)); exact HO418.out) hb); have n2_ := Aside0.mk (Kd.R_below (by (with_reducible repeat (first | apply Kd.R_alloc | apply Kd.R_drewN | apply Kd.R_drew)); exact HO421.out) hb); have n3_ := Aside0.mk (Kd.R_below (by (with_reducible repeat (first | apply Kd.R_alloc | apply Kd.R_drewN | apply Kd.R_drew)); exact HO424.out) hb); have n4_ := Aside0.mk (Kd.R_lower (Kd.R_newB (Kd.R_newB ho55 (g := gb408) (o := .cells #[.string a0_0, .string a0_1, .bool a0_2] 25 (0, 0)) (by (with_reducible repeat (first | refine blk_drewN ?_ _ | refine blk_drew ?_ | refine blk_alloc ?_ _)); exact BK408.out)) (g := gb409) (o := .cells #[.string a1_0, .string a1_1, .bool a1_2] 25 (0, 0)) (by (with_reducible repeat (first | refine blk_drewN ?_ _ | refine blk_drew ?_ | refine blk_alloc ?_ _)); exact BK409.out)) (below_size (by repeat (first | (with_reducible first | exact HB.out | apply below_alloc | apply pw_below_drewN | apply below_drew1 | refine below_set ?_ GE408.out | refine below_set ?_ GE409.out) | exact HB.out)))); have n5_ := Aside0.mk (blk_below (g := gb408) (o := .cells #[.string a0_0, .string a0_1, .bool a0_2] 25 (0, 0)) (by (with_reducible repeat (first | refine blk_drewN ?_ _ | refine blk_drew ?_ | refine blk_alloc ?_ _)); exact BK408.out) hb); have n6_ := Aside0.mk (blk_below (g := gb409) (o := .cells #[.string a1_0, .string a1_1, .bool a1_2] 25 (0, 0)) (by (with_reducible repeat (first | refine blk_drewN ?_ _ | refine blk_drew ?_ | refine blk_alloc ?_ _)); exact BK409.out) hb); have n7_ := Aside0.mk (below_step (by repeat (first | (with_reducible first | exact HB.out | apply below_alloc | apply pw_below_drewN | apply below_drew1 | refine below_set ?_ GE408.out | refine below_set ?_ GE409.out) | exact HB.out)) hb); clear HO415; clear HO418; clear HO421; clear HO424; clear BK408; clear BK409; clear HB; have HO415 := n0_; have HO418 := n1_; have HO421 := n2_; have HO424 := n3_; have HO428 := n4_; have BK408 := n5_; have BK409 := n6_; have HB := n7_; clear n0_ n1_ n2_ n3_ n4_ n5_ n6_ n7_; clear hb ho55; obtain ⟨Ao56, co56, eo56⟩ := Kd.R_slice HO428.out; subst eo56) | (go_at_call 11; (with_reducible refine (stretch_Meet.calls kj3 _ _ y426 t429 t430 t431 _ ?side1 ?side2 A33.out).mono ?_); (case side1 => repeat (first | exact (Kd.R_reads' HO428.out).2.2 | (with_reducible refine Kd.C_alloc ?_ _) | (with_reducible refine Kd.C_drewN ?_ _) | (with_reducible refine Kd.C_drew ?_))); (case side2 => exact (Kd.R_reads' HO428.out).2.1); rintro e w57 ⟨rfl, hb⟩; have n0_ := Aside0.mk (Kd.R_below (by (with_reducible repeat (first | apply Kd.R_alloc | apply Kd.R_drewN | apply Kd.R_drew)); exact HO415.out) hb); have n1_ := Aside0.mk (Kd.R_below (by (with_reducible repeat (first | apply Kd.R_alloc | apply Kd.R_drewN | apply Kd.R_drew)); exact HO418.out) hb); have n2_ := Aside0.mk (Kd.R_below (by (with_reducible repeat (first | apply Kd.R_alloc | apply Kd.R_drewN | apply Kd.R_drew)); exact HO421.out) hb); have n3_ := Aside0.mk (Kd.R_below (by (with_reducible repeat (first | apply Kd.R_alloc | apply Kd.R_drewN | apply Kd.R_drew)); exact HO424.out) hb); have n4_ := Aside0.mk (Kd.R_below (by (with_reducible repeat (first | apply Kd.R_alloc | apply Kd.R_drewN | apply Kd.R_drew)); exact HO428.out) hb); have n5_ := Aside0.mk (blk_below (g := gb408) (o := .cells #[.string a0_0, .string a0_1, .bool a0_2] 25 (0, 0)) (by (with_reducible repeat (first | refine blk_drewN ?_ _ | refine blk_drew ?_ | refine blk_alloc ?_ _)); exact BK408.out) hb); have n6_ := Aside0.mk (blk_below (g := gb409) (o := .cells #[.string a1_0, .string a1_1, .bool a1_2] 25 (0, 0)) (by (with_reducible repeat (first | refine blk_drewN ?_ _ | refine blk_drew ?_ | refine blk_alloc ?_ _)); exact BK409.out) hb); have n7_ := Aside0.mk (below_step (by repeat (first | (with_reducible first | exact HB.out | apply below_alloc | apply pw_below_drewN | apply below_drew1 | refine below_set ?_ GE408.out | refine below_set ?_ GE409.out) | exact HB.out)) hb); clear HO415; clear HO418; clear HO421; clear HO424; clear HO428; clear BK408; clear BK409; clear HB; have HO415 := n0_; have HO418 := n1_; have HO421 := n2_; have HO424 := n3_; have HO428 := n4_; have BK408 := n5_; have BK409 := n6_; have HB := n7_; clear n0_ n1_ n2_ n3_ n4_ n5_ n6_ n7_; (try clear hb); (try clear hb2); (try clear hk); (try clear hi)) | (go_at_call 17; (with_reducible refine (stretch_Pick.calls t429 t430 t431 _ _ l2 t432 _ ?side1 ?side2 A34.out).mono ?_); (case side1 => repeat (first | exact (Kd.C_below HR2.out HB.out) | (with_reducible refine Kd.C_alloc ?_ _) | (with_reducible refine Kd.C_drewN ?_ _) | (with_reducible refine Kd.C_drew ?_))); (case side2 => exact HC2.out); rintro e w58 ⟨v433, rfl, ho0, hb⟩; have n0_ := Aside0.mk (Kd.R_elder' (by (with_reducible repeat (first | apply Kd.R_alloc | apply Kd.R_drewN | apply Kd.R_drew)); exact HO415.out) (Kd.R_base ho0) hb); have n1_ := Aside0.mk (Kd.R_elder' (by (with_reducible repeat (first | apply Kd.R_alloc | apply Kd.R_drewN | apply Kd.R_drew)); exact HO418.out) (Kd.R_base ho0) hb); have n2_ := Aside0.mk (Kd.R_elder' (by (with_reducible repeat (first | apply Kd.R_alloc | apply Kd.R_drewN | apply Kd.R_drew)); exact HO421.out) (Kd.R_base ho0) hb); have n3_ := Aside0.mk (Kd.R_elder' (by (with_reducible repeat (first | apply Kd.R_alloc | apply Kd.R_drewN | apply Kd.R_drew)); exact HO424.out) (Kd.R_base ho0) hb); have n4_ := Aside0.mk (Kd.R_below (by (with_reducible repeat (first | apply Kd.R_alloc | apply Kd.R_drewN | apply Kd.R_drew)); exact HO428.out) hb); have n5_ := Aside0.mk (Kd.R_lower (Kd.R_new' (Kd.R_new' (Kd.R_new' (Kd.R_new' ho0 (Kd.R_lt (by (with_reducible repeat (first | apply Kd.R_alloc | apply Kd.R_drewN | apply Kd.R_drew)); exact HO415.out))) (Kd.R_lt (by (with_reducible repeat (first | apply Kd.R_alloc | apply Kd.R_drewN | apply Kd.R_drew)); exact HO418.out))) (Kd.R_lt (by (with_reducible repeat (first | apply Kd.R_alloc | apply Kd.R_drewN | apply Kd.R_drew)); exact HO421.out))) (Kd.R_lt (by (with_reducible repeat (first | apply Kd.R_alloc | apply Kd.R_drewN | apply Kd.R_drew)); exact HO424.out))) (below_size (by repeat (first | (with_reducible first | exact HB.out | apply below_alloc | apply pw_below_drewN | apply below_drew1 | refine below_set ?_ GE408.out | refine below_set ?_ GE409.out) | exact HB.out)))); have n6_ := Aside0.mk (blk_below (g := gb408) (o := .cells #[.string a0_0, .string a0_1, .bool a0_2] 25 (0, 0)) (by (with_reducible repeat (first | refine blk_drewN ?_ _ | refine blk_drew ?_ | refine blk_alloc ?_ _)); exact BK408.out) hb); have n7_ := Aside0.mk (blk_below (g := gb409) (o := .cells #[.string a1_0, .string a1_1, .bool a1_2] 25 (0, 0)) (by (with_reducible repeat (first | refine blk_drewN ?_ _ | refine blk_drew ?_ | refine blk_alloc ?_ _)); exact BK409.out) hb); have n8_ := Aside0.mk (below_step (by repeat (first | (with_reducible first | exact HB.out | apply below_alloc | apply pw_below_drewN | apply below_drew1 | refine below_set ?_ GE408.out | refine below_set ?_ GE409.out) | exact HB.out)) hb); clear HO415; clear HO418; clear HO421; clear HO424; clear HO428; clear BK408; clear BK409; clear HB; have HO415 := n0_; have HO418 := n1_; have HO421 := n2_; have HO424 := n3_; have HO428 := n4_; have HO434 := n5_; have BK408 := n6_; have BK409 := n7_; have HB := n8_; clear n0_ n1_ n2_ n3_ n4_ n5_ n6_ n7_ n8_; (try clear hb); (try clear hb2); (try clear hk); (try clear hi); (try clear ho0); obtain ⟨Ao59, co59, eo59⟩ := Kd.R_slice HO434.out; subst eo59) | (go_at_call 18; (with_reducible refine (weirkeeperref03_Same.calls kj3 _ _ t416 _ _ t432 true _ ?side1 ?side2 ?side3 ?side4 A35.out).mono ?_); (case side1 => repeat (first | exact (Kd.R_reads' HO418.out).2.2 | (with_reducible refine Kd.C_alloc ?_ _) | (with_reducible refine Kd.C_drewN ?_ _) | (with_reducible refine Kd.C_drew ?_))); (case side2 => exact (Kd.R_reads' HO418.out).2.1); (case side3 => repeat (first | exact (Kd.R_reads' HO434.out).2.2 | (with_reducible refine Kd.C_alloc ?_ _) | (with_reducible refine Kd.C_drewN ?_ _) | (with_reducible refine Kd.C_drew ?_))); (case side4 => exact (Kd.R_reads' HO434.out).2.1); rintro e w' ⟨rfl, ⟨nd, rfl⟩⟩) | (go_at_call 17; (with_reducible refine (stretch_Pick.calls (⟨#[]⟩ : ByteArray) (⟨#[]⟩ : ByteArray) true _ _ l2 t436 _ ?side1 ?side2 A37.out).mono ?_); (case side1 => repeat (first | exact (Kd.C_below HR2.out (by repeat (first | (with_reducible first | exact HB.out | apply below_alloc | apply pw_below_drewN | apply below_drew1 | refine below_set ?_ GE408.out | refine below_set ?_ GE409.out) | exact HB.out))) | (with_reducible refine Kd.C_alloc ?_ _) | (with_reducible refine Kd.C_drewN ?_ _) | (with_reducible refine Kd.C_drew ?_))); (case side2 => exact HC2.out); rintro e w60 ⟨v437, rfl, ho0, hb⟩; have n0_ := Aside0.mk (Kd.R_elder' (by (with_reducible repeat (first | apply Kd.R_alloc | apply Kd.R_drewN | apply Kd.R_drew)); exact HO415.out) (Kd.R_base ho0) hb); have n1_ := Aside0.mk (Kd.R_elder' (by (with_reducible repeat (first | apply Kd.R_alloc | apply Kd.R_drewN | apply Kd.R_drew)); exact HO418.out) (Kd.R_base ho0) hb); have n2_ := Aside0.mk (Kd.R_elder' (by (with_reducible repeat (first | apply Kd.R_alloc | apply Kd.R_drewN | apply Kd.R_drew)); exact HO421.out) (Kd.R_base ho0) hb); have n3_ := Aside0.mk (Kd.R_elder' (by (with_reducible repeat (first | apply Kd.R_alloc | apply Kd.R_drewN | apply Kd.R_drew)); exact HO424.out) (Kd.R_base ho0) hb); have n4_ := Aside0.mk (Kd.R_below (by (with_reducible repeat (first | apply Kd.R_alloc | apply Kd.R_drewN | apply Kd.R_drew)); exact HO428.out) hb); have n5_ := Aside0.mk (Kd.R_elder' (by (with_reducible repeat (first | apply Kd.R_alloc | apply Kd.R_drewN | apply Kd.R_drew)); exact HO434.out) (Kd.R_base ho0) hb); have n6_ := Aside0.mk (Kd.R_lower (Kd.R_new' (Kd.R_new' (Kd.R_new' (Kd.R_new' (Kd.R_new' ho0 (Kd.R_lt (by (with_reducible repeat (first | apply Kd.R_alloc | apply Kd.R_drewN | apply Kd.R_drew)); exact HO415.out))) (Kd.R_lt (by (with_reducible repeat (first | apply Kd.R_alloc | apply Kd.R_drewN | apply Kd.R_drew)); exact HO418.out))) (Kd.R_lt (by (with_reducible repeat (first | apply Kd.R_alloc | apply Kd.R_drewN | apply Kd.R_drew)); exact HO421.out))) (Kd.R_lt (by (with_reducible repeat (first | apply Kd.R_alloc | apply Kd.R_drewN | apply Kd.R_drew)); exact HO424.out))) (Kd.R_lt (by (with_reducible repeat (first | apply Kd.R_alloc | apply Kd.R_drewN | apply Kd.R_drew)); exact HO434.out))) (below_size (by repeat (first | (with_reducible first | exact HB.out | apply below_alloc | apply pw_below_drewN | apply below_drew1 | refine below_set ?_ GE408.out | refine below_set ?_ GE409.out) | exact HB.out)))); have n7_ := Aside0.mk (blk_below (g := gb408) (o := .cells #[.string a0_0, .string a0_1, .bool a0_2] 25 (0, 0)) (by (with_reducible repeat (first | refine blk_drewN ?_ _ | refine blk_drew ?_ | refine blk_alloc ?_ _)); exact BK408.out) hb); have n8_ := Aside0.mk (blk_below (g := gb409) (o := .cells #[.string a1_0, .string a1_1, .bool a1_2] 25 (0, 0)) (by (with_reducible repeat (first | refine blk_drewN ?_ _ | refine blk_drew ?_ | refine blk_alloc ?_ _)); exact BK409.out) hb); have n9_ := Aside0.mk (below_step (by repeat (first | (with_reducible first | exact HB.out | apply below_alloc | apply pw_below_drewN | apply below_drew1 | refine below_set ?_ GE408.out | refine below_set ?_ GE409.out) | exact HB.out)) hb); clear HO415; clear HO418; clear HO421; clear HO424; clear HO428; clear HO434; clear BK408; clear BK409; clear HB; have HO415 := n0_; have HO418 := n1_; have HO421 := n2_; have HO424 := n3_; have HO428 := n4_; have HO434 := n5_; have HO438 := n6_; have BK408 := n7_; have BK409 := n8_; have HB := n9_; clear n0_ n1_ n2_ n3_ n4_ n5_ n6_ n7_ n8_ n9_; (try clear hb); (try clear hb2); (try clear hk); (try clear hi); (try clear ho0); obtain ⟨Ao61, co61, eo61⟩ := Kd.R_slice HO438.out; subst eo61) | (go_at_call 18; (with_reducible refine (weirkeeperref03_Same.calls kj3 _ _ t436 _ _ l2 true _ ?side1 ?side2 ?side3 ?side4 A38.out).mono ?_); (case side1 => repeat (first | exact (Kd.R_reads' HO438.out).2.2 | (with_reducible refine Kd.C_alloc ?_ _) | (with_reducible refine Kd.C_drewN ?_ _) | (with_reducible refine Kd.C_drew ?_))); (case side2 => exact (Kd.R_reads' HO438.out).2.1); (case side3 => repeat (first | exact (Kd.C_below HR2.out HB.out) | (with_reducible refine Kd.C_alloc ?_ _) | (with_reducible refine Kd.C_drewN ?_ _) | (with_reducible refine Kd.C_drew ?_))); (case side4 => exact HC2.out); rintro e w' ⟨rfl, ⟨nd, rfl⟩⟩) | (go_at_call 8; (with_reducible refine (weirkeeperlaw03_awake.calls kj3  t440 _ A40.out).mono ?_); rintro e w62 ⟨rfl, hb⟩; have n0_ := Aside0.mk (Kd.R_below (by (with_reducible repeat (first | apply Kd.R_alloc | apply Kd.R_drewN | apply Kd.R_drew)); exact HO415.out) hb); have n1_ := Aside0.mk (Kd.R_below (by (with_reducible repeat (first | apply Kd.R_alloc | apply Kd.R_drewN | apply Kd.R_drew)); exact HO418.out) hb); have n2_ := Aside0.mk (Kd.R_below (by (with_reducible repeat (first | apply Kd.R_alloc | apply Kd.R_drewN | apply Kd.R_drew)); exact HO421.out) hb); have n3_ := Aside0.mk (Kd.R_below (by (with_reducible repeat (first | apply Kd.R_alloc | apply Kd.R_drewN | apply Kd.R_drew)); exact HO424.out) hb); have n4_ := Aside0.mk (Kd.R_below (by (with_reducible repeat (first | apply Kd.R_alloc | apply Kd.R_drewN | apply Kd.R_drew)); exact HO428.out) hb); have n5_ := Aside0.mk (Kd.R_below (by (with_reducible repeat (first | apply Kd.R_alloc | apply Kd.R_drewN | apply Kd.R_drew)); exact HO434.out) hb); have n6_ := Aside0.mk (Kd.R_below (by (with_reducible repeat (first | apply Kd.R_alloc | apply Kd.R_drewN | apply Kd.R_drew)); exact HO438.out) hb); have n7_ := Aside0.mk (blk_below (g := gb408) (o := .cells #[.string a0_0, .string a0_1, .bool a0_2] 25 (0, 0)) (by (with_reducible repeat (first | refine blk_drewN ?_ _ | refine blk_drew ?_ | refine blk_alloc ?_ _)); exact BK408.out) hb); have n8_ := Aside0.mk (blk_below (g := gb409) (o := .cells #[.string a1_0, .string a1_1, .bool a1_2] 25 (0, 0)) (by (with_reducible repeat (first | refine blk_drewN ?_ _ | refine blk_drew ?_ | refine blk_alloc ?_ _)); exact BK409.out) hb); have n9_ := Aside0.mk (below_step (by repeat (first | (with_reducible first | exact HB.out | apply below_alloc | apply pw_below_drewN | apply below_drew1 | refine below_set ?_ GE408.out | refine below_set ?_ GE409.out) | exact HB.out)) hb); clear HO415; clear HO418; clear HO421; clear HO424; clear HO428; clear HO434; clear HO438; clear BK408; clear BK409; clear HB; have HO415 := n0_; have HO418 := n1_; have HO421 := n2_; have HO424 := n3_; have HO428 := n4_; have HO434 := n5_; have HO438 := n6_; have BK408 := n7_; have BK409 := n8_; have HB := n9_; clear n0_ n1_ n2_ n3_ n4_ n5_ n6_ n7_ n8_ n9_; (try clear hb); (try clear hb2); (try clear hk); (try clear hi)))
              go_ret
              exact ⟨by first | rfl | (simp [errW_none, errW_some] <;> rfl) | (simp [*, errW_none, errW_some] <;> rfl), by repeat (first | (with_reducible first | exact HB.out | apply below_alloc | apply pw_below_drewN | apply below_drew1 | refine below_set ?_ GE408.out | refine below_set ?_ GE409.out) | exact HB.out)⟩
            · replace c39 := Bool.eq_false_iff.mpr c39
              subst c39
              have H1 : (none) = some r := by rw [if_neg (show ¬ (false = true) by decide)] at H; exact H
              clear H
              have H := H1
              clear H1
              exact absurd H (by simp)
          · replace c36 := Bool.eq_false_iff.mpr c36
            subst c36
            have H1 : (none) = some r := by rw [if_neg (show ¬ (false = true) by decide)] at H; exact H
            clear H
            have H := H1
            clear H1
            exact absurd H (by simp)
        · replace c32 := Bool.eq_false_iff.mpr c32
          subst c32
          have H1 : (none) = some r := by rw [if_neg (show ¬ (false = true) by decide)] at H; exact H
          clear H
          have H := H1
          clear H1
          exact absurd H (by simp)

end Go.Proofs.Ytbfhojfeolejlaa.X
