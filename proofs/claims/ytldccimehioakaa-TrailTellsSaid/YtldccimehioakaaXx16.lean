-- Written by a program of this session (wip/tools/xprint.py) out of the translation. Not trusted: Lean checks it.
import Derived.Test.YtldccimehioakaaXx0
namespace Go.Proofs.Ytldccimehioakaa.X
open Go.RowKit Go.Proofs.YtldccimehioakaaW.PrintWords Go.Proofs.YtldccimehioakaaW.PrintLast Go.Proofs.YtldccimehioakaaW.PrintMore
attribute [local go_sem] max2_int min2_int max_two min_two max_three min_three max_four min_four max2_str min2_str   -- for this text's walks alone
set_option linter.unusedVariables false
set_option linter.unusedSimpArgs false

/-! ### weirkeeperref13_May: function 28 -/
def weirkeeperref13_May.j0 : Nat → Bool → Int → ByteArray → Bool → ByteArray → Bool → ByteArray → Option (Bool)
  | 0, _, _, _, _, _, _, _ => none
  | k + 1, x28, x152000, x152001, x152002, x152003, x152004, x152005 => if x28 = true then (some false) else (if x152002 = true then (if x152004 = true then (some true) else (if x152005.toList = ([] : List UInt8) then (some true) else (some false))) else (if x152003.toList = ([] : List UInt8) then (if x152004 = true then (some x152004) else (if x152005.toList = ([] : List UInt8) then (some x152004) else (some false))) else (some false)))
def weirkeeperref13_May.f (k : Nat) (a0_0 : Int) (a0_1 : ByteArray) (a0_2 : Bool) (a0_3 : ByteArray) (a0_4 : Bool) (a0_5 : ByteArray) : Option (Bool) := if a0_0 < 1 then (weirkeeperref13_May.j0 k true a0_0 a0_1 a0_2 a0_3 a0_4 a0_5) else (if a0_0 > 2147483647 then (weirkeeperref13_May.j0 k true a0_0 a0_1 a0_2 a0_3 a0_4 a0_5) else (if (a0_1.size : Int) > 16 then (weirkeeperref13_May.j0 k true a0_0 a0_1 a0_2 a0_3 a0_4 a0_5) else (if (a0_3.size : Int) > 32 then (weirkeeperref13_May.j0 k true a0_0 a0_1 a0_2 a0_3 a0_4 a0_5) else (weirkeeperref13_May.j0 k (decide ((a0_5.size : Int) > 32)) a0_0 a0_1 a0_2 a0_3 a0_4 a0_5))))
theorem weirkeeperref13_May.mono_l : ∀ k, (∀ y0 y1 y2 y3 y4 y5 y6, LeO (weirkeeperref13_May.j0 k y0 y1 y2 y3 y4 y5 y6) (weirkeeperref13_May.j0 (k + 1) y0 y1 y2 y3 y4 y5 y6))
  | 0 => fun _ _ _ _ _ _ _ r h => by simp [weirkeeperref13_May.j0] at h
  | k + 1 => by
    have ih0 := weirkeeperref13_May.mono_l k
    · intro y0 y1 y2 y3 y4 y5 y6
      unfold weirkeeperref13_May.j0
      repeat' first
      | (with_reducible exact ih0 _ _ _ _ _ _ _)
      | (with_reducible exact LeO.refl _)
      | (with_reducible exact LeO.none _)
      | (with_reducible refine LeO.ite ?_ ?_)
      | (with_reducible refine LeO.bind ?_ (fun _ => ?_))
      | exact ih0 _ _ _ _ _ _ _
      | exact LeO.none _
      | refine LeO.ite ?_ ?_
      | refine LeO.bind ?_ (fun _ => ?_)
theorem weirkeeperref13_May.mono : ∀ a0 a1 a2 a3 a4 a5 k, LeO (weirkeeperref13_May.f k a0 a1 a2 a3 a4 a5) (weirkeeperref13_May.f (k + 1) a0 a1 a2 a3 a4 a5) := by
  intro a0 a1 a2 a3 a4 a5 k
  have ih0 := weirkeeperref13_May.mono_l k
  unfold weirkeeperref13_May.f
  repeat' first
      | (with_reducible exact ih0 _ _ _ _ _ _ _)
      | (with_reducible exact LeO.refl _)
      | (with_reducible exact LeO.none _)
      | (with_reducible refine LeO.ite ?_ ?_)
      | (with_reducible refine LeO.bind ?_ (fun _ => ?_))
      | exact ih0 _ _ _ _ _ _ _
      | exact LeO.none _
      | refine LeO.ite ?_ ?_
      | refine LeO.bind ?_ (fun _ => ?_)
set_option maxHeartbeats 8000000 in
set_option maxRecDepth 100000 in
theorem weirkeeperref13_May.calls (k : Nat) (a0_0 : Int) (a0_1 : ByteArray) (a0_2 : Bool) (a0_3 : ByteArray) (a0_4 : Bool) (a0_5 : ByteArray) (r : Bool) (w : World) (h : weirkeeperref13_May.f k a0_0 a0_1 a0_2 a0_3 a0_4 a0_5 = some r) :
    Calls Try.prog 28 #[.agg #[.int .i64 a0_0, .string a0_1, .bool a0_2, .string a0_3, .bool a0_4, .string a0_5]] w fun e w' => e = .returned (.bool r) ∧ Below w.heap.size w w' := by
  have hu30 := Try.underlying30
  have HB := Aside0.mk (Below.refl w.heap.size w)
  have H : (if a0_0 < 1 then (weirkeeperref13_May.j0 k true a0_0 a0_1 a0_2 a0_3 a0_4 a0_5) else (if a0_0 > 2147483647 then (weirkeeperref13_May.j0 k true a0_0 a0_1 a0_2 a0_3 a0_4 a0_5) else (if (a0_1.size : Int) > 16 then (weirkeeperref13_May.j0 k true a0_0 a0_1 a0_2 a0_3 a0_4 a0_5) else (if (a0_3.size : Int) > 32 then (weirkeeperref13_May.j0 k true a0_0 a0_1 a0_2 a0_3 a0_4 a0_5) else (weirkeeperref13_May.j0 k (decide ((a0_5.size : Int) > 32)) a0_0 a0_1 a0_2 a0_3 a0_4 a0_5))))) = some r := h
  clear h
  have HC2 := Aside0.mk H
  clear H
  go_enter Try.func28, Try.ntmps28
  go_upto_region 1 with (first | ((with_reducible refine gate_dst (N := 1) rfl ?_); (try (refine gate_guard (by rfl) ?_; dsimp only)); refine box_event ?hg (N := 1) ?hd (cs := #[.int .i64 a0_0, .string a0_1, .bool a0_2, .string a0_3, .bool a0_4, .string a0_5]) (t := 30) ?hr ?_; (case hd => rfl); (case hg => rfl); (case hr => first | (go_simp; done) | (go_simp; rfl)); intro gb151 hg w3 hbox hb; have n0_ := Aside0.mk (below_step (by repeat (first | (with_reducible first | exact HB.out | apply below_alloc | apply pw_below_drewN | apply below_drew1) | exact HB.out)) hb); have n1_ := Aside0.mk (hbox); have n2_ := Aside0.mk ((by rw [hg]; exact (below_size (by repeat (first | (with_reducible first | exact HB.out | apply below_alloc | apply pw_below_drewN | apply below_drew1) | exact HB.out))) : w.heap.size ≤ gb151)); have n3_ := Aside0.mk ((by rw [hg]; exact (below_size (by repeat (first | (with_reducible first | exact HB.out | apply below_alloc | apply pw_below_drewN | apply below_drew1) | exact HB.out))) : w.heap.size ≤ gb151)); clear HB; have HB := n0_; have BK151 := n1_; have GW151 := n2_; have GE151 := n3_; clear n0_ n1_ n2_ n3_; clear hb hbox hg))
  (try simp only [Act.put, List.setIfInBounds_toArray, List.set_cons_zero, List.set_cons_succ])
  go_cut [28] (fun v28 wc => ∃ (kq : Nat) (x28_1 : Bool), v28 = .bool x28_1 ∧ Aside0 (weirkeeperref13_May.j0 kq x28_1 a0_0 a0_1 a0_2 a0_3 a0_4 a0_5 = some r) ∧ Aside0 (kq ≤ k) ∧ Aside0 (wc.heap[gb151]? = some (.cells #[.int .i64 a0_0, .string a0_1, .bool a0_2, .string a0_3, .bool a0_4, .string a0_5] 30 (0, 0))) ∧ Aside0 (Below w.heap.size w wc))
  case first =>
    have H := HC2.out
    clear HC2
    by_cases c4 : a0_0 < 1
    · rw [if_pos c4] at H
      have c4b0 : decide (a0_0 < 1) = true := decide_eq_true c4
      clear c4
      (first | rw [c4b0] | (simp only [i64_w, i32_w]; rw [c4b0]) | skip)
      have H' := Aside0.mk H
      clear H
      have hcz5_0 : w3.cell? ⟨gb151, 0, none⟩ = some (.int .i64 a0_0) := (blk_cell BK151.out 0).trans rfl
      have hcz5_1 : w3.cell? ⟨gb151, 1, none⟩ = some (.string a0_1) := (blk_cell BK151.out 1).trans rfl
      have hcz5_2 : w3.cell? ⟨gb151, 2, none⟩ = some (.bool a0_2) := (blk_cell BK151.out 2).trans rfl
      have hcz5_3 : w3.cell? ⟨gb151, 3, none⟩ = some (.string a0_3) := (blk_cell BK151.out 3).trans rfl
      have hcz5_4 : w3.cell? ⟨gb151, 4, none⟩ = some (.bool a0_4) := (blk_cell BK151.out 4).trans rfl
      have hcz5_5 : w3.cell? ⟨gb151, 5, none⟩ = some (.string a0_5) := (blk_cell BK151.out 5).trans rfl
      have hfz5_0 := blk_frozen BK151.out 0
      have hfz5_1 := blk_frozen BK151.out 1
      have hfz5_2 := blk_frozen BK151.out 2
      have hfz5_3 := blk_frozen BK151.out 3
      have hfz5_4 := blk_frozen BK151.out 4
      have hfz5_5 := blk_frozen BK151.out 5
      go_wp2
      go_meet
      case rel => exact ⟨_, (true), (by first | rfl | (simp; done) | (simp [*]; done)), H', ⟨by first | omega | exact Nat.le_refl _⟩, ⟨by (with_reducible repeat (first | refine blk_drewN ?_ _ | refine blk_drew ?_ | refine blk_alloc ?_ _)); exact BK151.out⟩, ⟨by repeat (first | (with_reducible first | exact HB.out | apply below_alloc | apply pw_below_drewN | apply below_drew1 | refine below_set ?_ GE151.out) | exact HB.out)⟩⟩
    · rw [if_neg c4] at H
      have c4b0 : decide (a0_0 < 1) = false := decide_eq_false c4
      clear c4
      (first | rw [c4b0] | (simp only [i64_w, i32_w]; rw [c4b0]) | skip)
      by_cases c6 : a0_0 > 2147483647
      · rw [if_pos c6] at H
        have c6b0 : decide (2147483647 < a0_0) = true := decide_eq_true c6
        clear c6
        have H' := Aside0.mk H
        clear H
        have hcz7_0 : w3.cell? ⟨gb151, 0, none⟩ = some (.int .i64 a0_0) := (blk_cell BK151.out 0).trans rfl
        have hcz7_1 : w3.cell? ⟨gb151, 1, none⟩ = some (.string a0_1) := (blk_cell BK151.out 1).trans rfl
        have hcz7_2 : w3.cell? ⟨gb151, 2, none⟩ = some (.bool a0_2) := (blk_cell BK151.out 2).trans rfl
        have hcz7_3 : w3.cell? ⟨gb151, 3, none⟩ = some (.string a0_3) := (blk_cell BK151.out 3).trans rfl
        have hcz7_4 : w3.cell? ⟨gb151, 4, none⟩ = some (.bool a0_4) := (blk_cell BK151.out 4).trans rfl
        have hcz7_5 : w3.cell? ⟨gb151, 5, none⟩ = some (.string a0_5) := (blk_cell BK151.out 5).trans rfl
        have hfz7_0 := blk_frozen BK151.out 0
        have hfz7_1 := blk_frozen BK151.out 1
        have hfz7_2 := blk_frozen BK151.out 2
        have hfz7_3 := blk_frozen BK151.out 3
        have hfz7_4 := blk_frozen BK151.out 4
        have hfz7_5 := blk_frozen BK151.out 5
        go_wp2
        go_meet
        case rel => exact ⟨_, (true), (by first | rfl | (simp; done) | (simp [*]; done)), H', ⟨by first | omega | exact Nat.le_refl _⟩, ⟨by (with_reducible repeat (first | refine blk_drewN ?_ _ | refine blk_drew ?_ | refine blk_alloc ?_ _)); exact BK151.out⟩, ⟨by repeat (first | (with_reducible first | exact HB.out | apply below_alloc | apply pw_below_drewN | apply below_drew1 | refine below_set ?_ GE151.out) | exact HB.out)⟩⟩
      · rw [if_neg c6] at H
        have c6b0 : decide (2147483647 < a0_0) = false := decide_eq_false c6
        clear c6
        by_cases c8 : (a0_1.size : Int) > 16
        · rw [if_pos c8] at H
          have c8b0 : decide (16 < (a0_1.size : Int)) = true := decide_eq_true c8
          have c8b1 : decide (16 < a0_1.size) = true := decide_eq_true (by omega)
          clear c8
          have H' := Aside0.mk H
          clear H
          have hcz9_0 : w3.cell? ⟨gb151, 0, none⟩ = some (.int .i64 a0_0) := (blk_cell BK151.out 0).trans rfl
          have hcz9_1 : w3.cell? ⟨gb151, 1, none⟩ = some (.string a0_1) := (blk_cell BK151.out 1).trans rfl
          have hcz9_2 : w3.cell? ⟨gb151, 2, none⟩ = some (.bool a0_2) := (blk_cell BK151.out 2).trans rfl
          have hcz9_3 : w3.cell? ⟨gb151, 3, none⟩ = some (.string a0_3) := (blk_cell BK151.out 3).trans rfl
          have hcz9_4 : w3.cell? ⟨gb151, 4, none⟩ = some (.bool a0_4) := (blk_cell BK151.out 4).trans rfl
          have hcz9_5 : w3.cell? ⟨gb151, 5, none⟩ = some (.string a0_5) := (blk_cell BK151.out 5).trans rfl
          have hfz9_0 := blk_frozen BK151.out 0
          have hfz9_1 := blk_frozen BK151.out 1
          have hfz9_2 := blk_frozen BK151.out 2
          have hfz9_3 := blk_frozen BK151.out 3
          have hfz9_4 := blk_frozen BK151.out 4
          have hfz9_5 := blk_frozen BK151.out 5
          go_wp2
          go_meet
          case rel => exact ⟨_, (true), (by first | rfl | (simp; done) | (simp [*]; done)), H', ⟨by first | omega | exact Nat.le_refl _⟩, ⟨by (with_reducible repeat (first | refine blk_drewN ?_ _ | refine blk_drew ?_ | refine blk_alloc ?_ _)); exact BK151.out⟩, ⟨by repeat (first | (with_reducible first | exact HB.out | apply below_alloc | apply pw_below_drewN | apply below_drew1 | refine below_set ?_ GE151.out) | exact HB.out)⟩⟩
        · rw [if_neg c8] at H
          have c8b0 : decide (16 < (a0_1.size : Int)) = false := decide_eq_false c8
          have c8b1 : decide (16 < a0_1.size) = false := decide_eq_false (by omega)
          clear c8
          by_cases c10 : (a0_3.size : Int) > 32
          · rw [if_pos c10] at H
            have c10b0 : decide (32 < (a0_3.size : Int)) = true := decide_eq_true c10
            have c10b1 : decide (32 < a0_3.size) = true := decide_eq_true (by omega)
            clear c10
            have H' := Aside0.mk H
            clear H
            have hcz11_0 : w3.cell? ⟨gb151, 0, none⟩ = some (.int .i64 a0_0) := (blk_cell BK151.out 0).trans rfl
            have hcz11_1 : w3.cell? ⟨gb151, 1, none⟩ = some (.string a0_1) := (blk_cell BK151.out 1).trans rfl
            have hcz11_2 : w3.cell? ⟨gb151, 2, none⟩ = some (.bool a0_2) := (blk_cell BK151.out 2).trans rfl
            have hcz11_3 : w3.cell? ⟨gb151, 3, none⟩ = some (.string a0_3) := (blk_cell BK151.out 3).trans rfl
            have hcz11_4 : w3.cell? ⟨gb151, 4, none⟩ = some (.bool a0_4) := (blk_cell BK151.out 4).trans rfl
            have hcz11_5 : w3.cell? ⟨gb151, 5, none⟩ = some (.string a0_5) := (blk_cell BK151.out 5).trans rfl
            have hfz11_0 := blk_frozen BK151.out 0
            have hfz11_1 := blk_frozen BK151.out 1
            have hfz11_2 := blk_frozen BK151.out 2
            have hfz11_3 := blk_frozen BK151.out 3
            have hfz11_4 := blk_frozen BK151.out 4
            have hfz11_5 := blk_frozen BK151.out 5
            go_wp2
            go_meet
            case rel => exact ⟨_, (true), (by first | rfl | (simp; done) | (simp [*]; done)), H', ⟨by first | omega | exact Nat.le_refl _⟩, ⟨by (with_reducible repeat (first | refine blk_drewN ?_ _ | refine blk_drew ?_ | refine blk_alloc ?_ _)); exact BK151.out⟩, ⟨by repeat (first | (with_reducible first | exact HB.out | apply below_alloc | apply pw_below_drewN | apply below_drew1 | refine below_set ?_ GE151.out) | exact HB.out)⟩⟩
          · rw [if_neg c10] at H
            have c10b0 : decide (32 < (a0_3.size : Int)) = false := decide_eq_false c10
            have c10b1 : decide (32 < a0_3.size) = false := decide_eq_false (by omega)
            clear c10
            have H' := Aside0.mk H
            clear H
            have hcz12_0 : w3.cell? ⟨gb151, 0, none⟩ = some (.int .i64 a0_0) := (blk_cell BK151.out 0).trans rfl
            have hcz12_1 : w3.cell? ⟨gb151, 1, none⟩ = some (.string a0_1) := (blk_cell BK151.out 1).trans rfl
            have hcz12_2 : w3.cell? ⟨gb151, 2, none⟩ = some (.bool a0_2) := (blk_cell BK151.out 2).trans rfl
            have hcz12_3 : w3.cell? ⟨gb151, 3, none⟩ = some (.string a0_3) := (blk_cell BK151.out 3).trans rfl
            have hcz12_4 : w3.cell? ⟨gb151, 4, none⟩ = some (.bool a0_4) := (blk_cell BK151.out 4).trans rfl
            have hcz12_5 : w3.cell? ⟨gb151, 5, none⟩ = some (.string a0_5) := (blk_cell BK151.out 5).trans rfl
            have hfz12_0 := blk_frozen BK151.out 0
            have hfz12_1 := blk_frozen BK151.out 1
            have hfz12_2 := blk_frozen BK151.out 2
            have hfz12_3 := blk_frozen BK151.out 3
            have hfz12_4 := blk_frozen BK151.out 4
            have hfz12_5 := blk_frozen BK151.out 5
            go_wp2
            go_meet
            case rel => exact ⟨_, (decide ((a0_5.size : Int) > 32)), (by first | rfl | (simp; done) | (simp [*]; done)), H', ⟨by first | omega | exact Nat.le_refl _⟩, ⟨by (with_reducible repeat (first | refine blk_drewN ?_ _ | refine blk_drew ?_ | refine blk_alloc ?_ _)); exact BK151.out⟩, ⟨by repeat (first | (with_reducible first | exact HB.out | apply below_alloc | apply pw_below_drewN | apply below_drew1 | refine below_set ?_ GE151.out) | exact HB.out)⟩⟩
  case rest =>
    clear HC2
    try clear c1
    try clear c2
    try clear p2
    try clear c4
    try clear c4b0
    try clear c6
    try clear c6b0
    try clear c8
    try clear c8b0
    try clear c8b1
    try clear c10
    try clear c10b0
    try clear c10b1
    try clear hcz11_0
    try clear hcz11_1
    try clear hcz11_2
    try clear hcz11_3
    try clear hcz11_4
    try clear hcz11_5
    try clear hcz12_0
    try clear hcz12_1
    try clear hcz12_2
    try clear hcz12_3
    try clear hcz12_4
    try clear hcz12_5
    try clear hcz5_0
    try clear hcz5_1
    try clear hcz5_2
    try clear hcz5_3
    try clear hcz5_4
    try clear hcz5_5
    try clear hcz7_0
    try clear hcz7_1
    try clear hcz7_2
    try clear hcz7_3
    try clear hcz7_4
    try clear hcz7_5
    try clear hcz9_0
    try clear hcz9_1
    try clear hcz9_2
    try clear hcz9_3
    try clear hcz9_4
    try clear hcz9_5
    try clear hfz11_0
    try clear hfz11_1
    try clear hfz11_2
    try clear hfz11_3
    try clear hfz11_4
    try clear hfz11_5
    try clear hfz12_0
    try clear hfz12_1
    try clear hfz12_2
    try clear hfz12_3
    try clear hfz12_4
    try clear hfz12_5
    try clear hfz5_0
    try clear hfz5_1
    try clear hfz5_2
    try clear hfz5_3
    try clear hfz5_4
    try clear hfz5_5
    try clear hfz7_0
    try clear hfz7_1
    try clear hfz7_2
    try clear hfz7_3
    try clear hfz7_4
    try clear hfz7_5
    try clear hfz9_0
    try clear hfz9_1
    try clear hfz9_2
    try clear hfz9_3
    try clear hfz9_4
    try clear hfz9_5
    obtain ⟨kq, x28_1, rfl, HA, HJ1, BK151, HB⟩ := hcut
    cases kq with
    | zero => exact absurd HA.out (by simp [weirkeeperref13_May.j0])
    | succ kj1 =>
      have H := HA.out
      clear HA
      simp only [weirkeeperref13_May.j0] at H
      by_cases c13 : x28_1 = true
      · subst c13
        have H1 : (some false) = some r := by rw [if_pos rfl] at H; exact H
        clear H
        have H := H1
        clear H1
        obtain rfl := Option.some.inj H
        go_wp2
        go_ret
        exact ⟨by first | rfl | (simp [errW_none, errW_some] <;> rfl) | (simp [*, errW_none, errW_some] <;> rfl), by repeat (first | (with_reducible first | exact HB.out | apply below_alloc | apply pw_below_drewN | apply below_drew1 | refine below_set ?_ GE151.out) | exact HB.out)⟩
      · replace c13 := Bool.eq_false_iff.mpr c13
        subst c13
        have H1 : (if a0_2 = true then (if a0_4 = true then (some true) else (if a0_5.toList = ([] : List UInt8) then (some true) else (some false))) else (if a0_3.toList = ([] : List UInt8) then (if a0_4 = true then (some a0_4) else (if a0_5.toList = ([] : List UInt8) then (some a0_4) else (some false))) else (some false))) = some r := by rw [if_neg (show ¬ (false = true) by decide)] at H; exact H
        clear H
        have H := H1
        clear H1
        by_cases c14 : a0_2 = true
        · subst c14
          have H1 : (if a0_4 = true then (some true) else (if a0_5.toList = ([] : List UInt8) then (some true) else (some false))) = some r := by rw [if_pos rfl] at H; exact H
          clear H
          have H := H1
          clear H1
          by_cases c15 : a0_4 = true
          · subst c15
            have H1 : (some true) = some r := by rw [if_pos rfl] at H; exact H
            clear H
            have H := H1
            clear H1
            obtain rfl := Option.some.inj H
            have hcz16_0 : wc.cell? ⟨gb151, 0, none⟩ = some (.int .i64 a0_0) := (blk_cell BK151.out 0).trans rfl
            have hcz16_1 : wc.cell? ⟨gb151, 1, none⟩ = some (.string a0_1) := (blk_cell BK151.out 1).trans rfl
            have hcz16_2 : wc.cell? ⟨gb151, 2, none⟩ = some (.bool true) := (blk_cell BK151.out 2).trans rfl
            have hcz16_3 : wc.cell? ⟨gb151, 3, none⟩ = some (.string a0_3) := (blk_cell BK151.out 3).trans rfl
            have hcz16_4 : wc.cell? ⟨gb151, 4, none⟩ = some (.bool true) := (blk_cell BK151.out 4).trans rfl
            have hcz16_5 : wc.cell? ⟨gb151, 5, none⟩ = some (.string a0_5) := (blk_cell BK151.out 5).trans rfl
            have hfz16_0 := blk_frozen BK151.out 0
            have hfz16_1 := blk_frozen BK151.out 1
            have hfz16_2 := blk_frozen BK151.out 2
            have hfz16_3 := blk_frozen BK151.out 3
            have hfz16_4 := blk_frozen BK151.out 4
            have hfz16_5 := blk_frozen BK151.out 5
            go_wp2
            go_ret
            exact ⟨by first | rfl | (simp [errW_none, errW_some] <;> rfl) | (simp [*, errW_none, errW_some] <;> rfl), by repeat (first | (with_reducible first | exact HB.out | apply below_alloc | apply pw_below_drewN | apply below_drew1 | refine below_set ?_ GE151.out) | exact HB.out)⟩
          · replace c15 := Bool.eq_false_iff.mpr c15
            subst c15
            have H1 : (if a0_5.toList = ([] : List UInt8) then (some true) else (some false)) = some r := by rw [if_neg (show ¬ (false = true) by decide)] at H; exact H
            clear H
            have H := H1
            clear H1
            by_cases c17 : a0_5.toList = ([] : List UInt8)
            · rw [if_pos c17] at H
              have c17b0 : (a0_5.toList == ([] : List UInt8)) = true := beq_iff_eq.mpr c17
              have c17b1 : (a0_5.toList != ([] : List UInt8)) = false := bne_eq_false_iff_eq.mpr c17
              clear c17
              obtain rfl := Option.some.inj H
              have hcz18_0 : wc.cell? ⟨gb151, 0, none⟩ = some (.int .i64 a0_0) := (blk_cell BK151.out 0).trans rfl
              have hcz18_1 : wc.cell? ⟨gb151, 1, none⟩ = some (.string a0_1) := (blk_cell BK151.out 1).trans rfl
              have hcz18_2 : wc.cell? ⟨gb151, 2, none⟩ = some (.bool true) := (blk_cell BK151.out 2).trans rfl
              have hcz18_3 : wc.cell? ⟨gb151, 3, none⟩ = some (.string a0_3) := (blk_cell BK151.out 3).trans rfl
              have hcz18_4 : wc.cell? ⟨gb151, 4, none⟩ = some (.bool false) := (blk_cell BK151.out 4).trans rfl
              have hcz18_5 : wc.cell? ⟨gb151, 5, none⟩ = some (.string a0_5) := (blk_cell BK151.out 5).trans rfl
              have hfz18_0 := blk_frozen BK151.out 0
              have hfz18_1 := blk_frozen BK151.out 1
              have hfz18_2 := blk_frozen BK151.out 2
              have hfz18_3 := blk_frozen BK151.out 3
              have hfz18_4 := blk_frozen BK151.out 4
              have hfz18_5 := blk_frozen BK151.out 5
              go_wp2
              go_ret
              exact ⟨by first | rfl | (simp [errW_none, errW_some] <;> rfl) | (simp [*, errW_none, errW_some] <;> rfl), by repeat (first | (with_reducible first | exact HB.out | apply below_alloc | apply pw_below_drewN | apply below_drew1 | refine below_set ?_ GE151.out) | exact HB.out)⟩
            · rw [if_neg c17] at H
              have c17b0 : (a0_5.toList == ([] : List UInt8)) = false := beq_eq_false_iff_ne.mpr c17
              have c17b1 : (a0_5.toList != ([] : List UInt8)) = true := bne_iff_ne.mpr c17
              obtain rfl := Option.some.inj H
              have hcz19_0 : wc.cell? ⟨gb151, 0, none⟩ = some (.int .i64 a0_0) := (blk_cell BK151.out 0).trans rfl
              have hcz19_1 : wc.cell? ⟨gb151, 1, none⟩ = some (.string a0_1) := (blk_cell BK151.out 1).trans rfl
              have hcz19_2 : wc.cell? ⟨gb151, 2, none⟩ = some (.bool true) := (blk_cell BK151.out 2).trans rfl
              have hcz19_3 : wc.cell? ⟨gb151, 3, none⟩ = some (.string a0_3) := (blk_cell BK151.out 3).trans rfl
              have hcz19_4 : wc.cell? ⟨gb151, 4, none⟩ = some (.bool false) := (blk_cell BK151.out 4).trans rfl
              have hcz19_5 : wc.cell? ⟨gb151, 5, none⟩ = some (.string a0_5) := (blk_cell BK151.out 5).trans rfl
              have hfz19_0 := blk_frozen BK151.out 0
              have hfz19_1 := blk_frozen BK151.out 1
              have hfz19_2 := blk_frozen BK151.out 2
              have hfz19_3 := blk_frozen BK151.out 3
              have hfz19_4 := blk_frozen BK151.out 4
              have hfz19_5 := blk_frozen BK151.out 5
              go_wp2
              go_ret
              exact ⟨by first | rfl | (simp [errW_none, errW_some] <;> rfl) | (simp [*, errW_none, errW_some] <;> rfl), by repeat (first | (with_reducible first | exact HB.out | apply below_alloc | apply pw_below_drewN | apply below_drew1 | refine below_set ?_ GE151.out) | exact HB.out)⟩
        · replace c14 := Bool.eq_false_iff.mpr c14
          subst c14
          have H1 : (if a0_3.toList = ([] : List UInt8) then (if a0_4 = true then (some a0_4) else (if a0_5.toList = ([] : List UInt8) then (some a0_4) else (some false))) else (some false)) = some r := by rw [if_neg (show ¬ (false = true) by decide)] at H; exact H
          clear H
          have H := H1
          clear H1
          by_cases c20 : a0_3.toList = ([] : List UInt8)
          · rw [if_pos c20] at H
            have c20b0 : (a0_3.toList == ([] : List UInt8)) = true := beq_iff_eq.mpr c20
            have c20b1 : (a0_3.toList != ([] : List UInt8)) = false := bne_eq_false_iff_eq.mpr c20
            clear c20
            by_cases c21 : a0_4 = true
            · subst c21
              have H1 : (some true) = some r := by rw [if_pos rfl] at H; exact H
              clear H
              have H := H1
              clear H1
              obtain rfl := Option.some.inj H
              have hcz22_0 : wc.cell? ⟨gb151, 0, none⟩ = some (.int .i64 a0_0) := (blk_cell BK151.out 0).trans rfl
              have hcz22_1 : wc.cell? ⟨gb151, 1, none⟩ = some (.string a0_1) := (blk_cell BK151.out 1).trans rfl
              have hcz22_2 : wc.cell? ⟨gb151, 2, none⟩ = some (.bool false) := (blk_cell BK151.out 2).trans rfl
              have hcz22_3 : wc.cell? ⟨gb151, 3, none⟩ = some (.string a0_3) := (blk_cell BK151.out 3).trans rfl
              have hcz22_4 : wc.cell? ⟨gb151, 4, none⟩ = some (.bool true) := (blk_cell BK151.out 4).trans rfl
              have hcz22_5 : wc.cell? ⟨gb151, 5, none⟩ = some (.string a0_5) := (blk_cell BK151.out 5).trans rfl
              have hfz22_0 := blk_frozen BK151.out 0
              have hfz22_1 := blk_frozen BK151.out 1
              have hfz22_2 := blk_frozen BK151.out 2
              have hfz22_3 := blk_frozen BK151.out 3
              have hfz22_4 := blk_frozen BK151.out 4
              have hfz22_5 := blk_frozen BK151.out 5
              go_wp2
              go_ret
              exact ⟨by first | rfl | (simp [errW_none, errW_some] <;> rfl) | (simp [*, errW_none, errW_some] <;> rfl), by repeat (first | (with_reducible first | exact HB.out | apply below_alloc | apply pw_below_drewN | apply below_drew1 | refine below_set ?_ GE151.out) | exact HB.out)⟩
            · replace c21 := Bool.eq_false_iff.mpr c21
              subst c21
              have H1 : (if a0_5.toList = ([] : List UInt8) then (some false) else (some false)) = some r := by rw [if_neg (show ¬ (false = true) by decide)] at H; exact H
              clear H
              have H := H1
              clear H1
              by_cases c23 : a0_5.toList = ([] : List UInt8)
              · rw [if_pos c23] at H
                have c23b0 : (a0_5.toList == ([] : List UInt8)) = true := beq_iff_eq.mpr c23
                have c23b1 : (a0_5.toList != ([] : List UInt8)) = false := bne_eq_false_iff_eq.mpr c23
                clear c23
                obtain rfl := Option.some.inj H
                have hcz24_0 : wc.cell? ⟨gb151, 0, none⟩ = some (.int .i64 a0_0) := (blk_cell BK151.out 0).trans rfl
                have hcz24_1 : wc.cell? ⟨gb151, 1, none⟩ = some (.string a0_1) := (blk_cell BK151.out 1).trans rfl
                have hcz24_2 : wc.cell? ⟨gb151, 2, none⟩ = some (.bool false) := (blk_cell BK151.out 2).trans rfl
                have hcz24_3 : wc.cell? ⟨gb151, 3, none⟩ = some (.string a0_3) := (blk_cell BK151.out 3).trans rfl
                have hcz24_4 : wc.cell? ⟨gb151, 4, none⟩ = some (.bool false) := (blk_cell BK151.out 4).trans rfl
                have hcz24_5 : wc.cell? ⟨gb151, 5, none⟩ = some (.string a0_5) := (blk_cell BK151.out 5).trans rfl
                have hfz24_0 := blk_frozen BK151.out 0
                have hfz24_1 := blk_frozen BK151.out 1
                have hfz24_2 := blk_frozen BK151.out 2
                have hfz24_3 := blk_frozen BK151.out 3
                have hfz24_4 := blk_frozen BK151.out 4
                have hfz24_5 := blk_frozen BK151.out 5
                go_wp2
                go_ret
                exact ⟨by first | rfl | (simp [errW_none, errW_some] <;> rfl) | (simp [*, errW_none, errW_some] <;> rfl), by repeat (first | (with_reducible first | exact HB.out | apply below_alloc | apply pw_below_drewN | apply below_drew1 | refine below_set ?_ GE151.out) | exact HB.out)⟩
              · rw [if_neg c23] at H
                have c23b0 : (a0_5.toList == ([] : List UInt8)) = false := beq_eq_false_iff_ne.mpr c23
                have c23b1 : (a0_5.toList != ([] : List UInt8)) = true := bne_iff_ne.mpr c23
                obtain rfl := Option.some.inj H
                have hcz25_0 : wc.cell? ⟨gb151, 0, none⟩ = some (.int .i64 a0_0) := (blk_cell BK151.out 0).trans rfl
                have hcz25_1 : wc.cell? ⟨gb151, 1, none⟩ = some (.string a0_1) := (blk_cell BK151.out 1).trans rfl
                have hcz25_2 : wc.cell? ⟨gb151, 2, none⟩ = some (.bool false) := (blk_cell BK151.out 2).trans rfl
                have hcz25_3 : wc.cell? ⟨gb151, 3, none⟩ = some (.string a0_3) := (blk_cell BK151.out 3).trans rfl
                have hcz25_4 : wc.cell? ⟨gb151, 4, none⟩ = some (.bool false) := (blk_cell BK151.out 4).trans rfl
                have hcz25_5 : wc.cell? ⟨gb151, 5, none⟩ = some (.string a0_5) := (blk_cell BK151.out 5).trans rfl
                have hfz25_0 := blk_frozen BK151.out 0
                have hfz25_1 := blk_frozen BK151.out 1
                have hfz25_2 := blk_frozen BK151.out 2
                have hfz25_3 := blk_frozen BK151.out 3
                have hfz25_4 := blk_frozen BK151.out 4
                have hfz25_5 := blk_frozen BK151.out 5
                go_wp2
                go_ret
                exact ⟨by first | rfl | (simp [errW_none, errW_some] <;> rfl) | (simp [*, errW_none, errW_some] <;> rfl), by repeat (first | (with_reducible first | exact HB.out | apply below_alloc | apply pw_below_drewN | apply below_drew1 | refine below_set ?_ GE151.out) | exact HB.out)⟩
          · rw [if_neg c20] at H
            have c20b0 : (a0_3.toList == ([] : List UInt8)) = false := beq_eq_false_iff_ne.mpr c20
            have c20b1 : (a0_3.toList != ([] : List UInt8)) = true := bne_iff_ne.mpr c20
            obtain rfl := Option.some.inj H
            have hcz26_0 : wc.cell? ⟨gb151, 0, none⟩ = some (.int .i64 a0_0) := (blk_cell BK151.out 0).trans rfl
            have hcz26_1 : wc.cell? ⟨gb151, 1, none⟩ = some (.string a0_1) := (blk_cell BK151.out 1).trans rfl
            have hcz26_2 : wc.cell? ⟨gb151, 2, none⟩ = some (.bool false) := (blk_cell BK151.out 2).trans rfl
            have hcz26_3 : wc.cell? ⟨gb151, 3, none⟩ = some (.string a0_3) := (blk_cell BK151.out 3).trans rfl
            have hcz26_4 : wc.cell? ⟨gb151, 4, none⟩ = some (.bool a0_4) := (blk_cell BK151.out 4).trans rfl
            have hcz26_5 : wc.cell? ⟨gb151, 5, none⟩ = some (.string a0_5) := (blk_cell BK151.out 5).trans rfl
            have hfz26_0 := blk_frozen BK151.out 0
            have hfz26_1 := blk_frozen BK151.out 1
            have hfz26_2 := blk_frozen BK151.out 2
            have hfz26_3 := blk_frozen BK151.out 3
            have hfz26_4 := blk_frozen BK151.out 4
            have hfz26_5 := blk_frozen BK151.out 5
            go_wp2
            go_ret
            exact ⟨by first | rfl | (simp [errW_none, errW_some] <;> rfl) | (simp [*, errW_none, errW_some] <;> rfl), by repeat (first | (with_reducible first | exact HB.out | apply below_alloc | apply pw_below_drewN | apply below_drew1 | refine below_set ?_ GE151.out) | exact HB.out)⟩

end Go.Proofs.Ytldccimehioakaa.X
