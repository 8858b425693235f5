-- Written by a program of this session (wip/tools/xprint.py) out of the translation. Not trusted: Lean checks it.
import Derived.Test.YtbfhojfeolejlaaXx0
namespace Go.Proofs.Ytbfhojfeolejlaa.X
open Go.RowKit Go.Proofs.YtbfhojfeolejlaaW.PrintWords Go.Proofs.YtbfhojfeolejlaaW.PrintLast Go.Proofs.YtbfhojfeolejlaaW.PrintMore
attribute [local go_sem] max2_int min2_int max_two min_two max_three min_three max_four min_four max2_str min2_str   -- for this text's walks alone
set_option linter.unusedVariables false
set_option linter.unusedSimpArgs false

/-! ### weirkeeperref03_Meet: function 12 -/
def weirkeeperref03_Meet.l0 : Nat → List (S25) → Int → ByteArray → ByteArray → Bool → Option (ByteArray × ByteArray × Bool)
  | 0, _, _, _, _, _ => none
  | k + 1, x0, x4, x135000, x135001, x135002 => if x4 < (x0.length : Int) then (if 0 ≤ x4 then (if (!Op.bytesLess (((rd_T25 x0 x4).f0).toList) x135000.toList && !((((rd_T25 x0 x4).f0).toList) == x135000.toList)) = true then (if ((rd_T25 x0 x4).f2 = true) then (weirkeeperref03_Meet.l0 k x0 (wrap64 (x4 + 1)) ((rd_T25 x0 x4).f0) x135001 x135002) else (if x135002 = true then (weirkeeperref03_Meet.l0 k x0 (wrap64 (x4 + 1)) ((rd_T25 x0 x4).f0) ((rd_T25 x0 x4).f1) false) else (if (Op.bytesLess (((rd_T25 x0 x4).f1).toList) x135001.toList) = true then (weirkeeperref03_Meet.l0 k x0 (wrap64 (x4 + 1)) ((rd_T25 x0 x4).f0) ((rd_T25 x0 x4).f1) false) else (weirkeeperref03_Meet.l0 k x0 (wrap64 (x4 + 1)) ((rd_T25 x0 x4).f0) x135001 x135002)))) else (if ((rd_T25 x0 x4).f2 = true) then (weirkeeperref03_Meet.l0 k x0 (wrap64 (x4 + 1)) x135000 x135001 x135002) else (if x135002 = true then (weirkeeperref03_Meet.l0 k x0 (wrap64 (x4 + 1)) x135000 ((rd_T25 x0 x4).f1) false) else (if (Op.bytesLess (((rd_T25 x0 x4).f1).toList) x135001.toList) = true then (weirkeeperref03_Meet.l0 k x0 (wrap64 (x4 + 1)) x135000 ((rd_T25 x0 x4).f1) false) else (weirkeeperref03_Meet.l0 k x0 (wrap64 (x4 + 1)) x135000 x135001 x135002))))) else (none)) else (some (x135000, x135001, x135002))
def weirkeeperref03_Meet.f (k : Nat) (l0 : List (S25)) : Option (ByteArray × ByteArray × Bool) := weirkeeperref03_Meet.l0 k l0 0 (⟨#[]⟩ : ByteArray) (⟨#[]⟩ : ByteArray) true
theorem weirkeeperref03_Meet.mono_l : ∀ k, (∀ y0 y1 y2 y3 y4, LeO (weirkeeperref03_Meet.l0 k y0 y1 y2 y3 y4) (weirkeeperref03_Meet.l0 (k + 1) y0 y1 y2 y3 y4))
  | 0 => fun _ _ _ _ _ r h => by simp [weirkeeperref03_Meet.l0] at h
  | k + 1 => by
    have ih0 := weirkeeperref03_Meet.mono_l k
    · intro y0 y1 y2 y3 y4
      unfold weirkeeperref03_Meet.l0
      repeat' first
      | (with_reducible exact ih0 _ _ _ _ _)
      | (with_reducible exact LeO.refl _)
      | (with_reducible exact LeO.none _)
      | (with_reducible refine LeO.ite ?_ ?_)
      | (with_reducible refine LeO.bind ?_ (fun _ => ?_))
      | exact ih0 _ _ _ _ _
      | exact LeO.none _
      | refine LeO.ite ?_ ?_
      | refine LeO.bind ?_ (fun _ => ?_)
theorem weirkeeperref03_Meet.mono : ∀ a0 k, LeO (weirkeeperref03_Meet.f k a0) (weirkeeperref03_Meet.f (k + 1) a0) := by
  intro a0 k
  have ih0 := weirkeeperref03_Meet.mono_l k
  unfold weirkeeperref03_Meet.f
  repeat' first
      | (with_reducible exact ih0 _ _ _ _ _)
      | (with_reducible exact LeO.refl _)
      | (with_reducible exact LeO.none _)
      | (with_reducible refine LeO.ite ?_ ?_)
      | (with_reducible refine LeO.bind ?_ (fun _ => ?_))
      | exact ih0 _ _ _ _ _
      | exact LeO.none _
      | refine LeO.ite ?_ ?_
      | refine LeO.bind ?_ (fun _ => ?_)
set_option maxHeartbeats 8000000 in
set_option maxRecDepth 100000 in
theorem weirkeeperref03_Meet.calls (k : Nat) (A0 : Option Addr) (c0 : Nat) (l0 : List (S25)) (r1 : ByteArray) (r2 : ByteArray) (r3 : Bool) (w : World) (hr0 : Kd.C k25 w A0 l0.length l0) (hc0 : l0.length ≤ c0) (h : weirkeeperref03_Meet.f k l0 = some (r1, r2, r3)) :
    Calls Try.prog 12 #[.slice A0 l0.length c0] w fun e w' => e = .returned (.agg #[.string r1, .string r2, .bool r3]) ∧ Below w.heap.size w w' := by
  have hu25 := Try.underlying25
  have HR0 := Aside0.mk hr0
  have HC0 := Aside0.mk hc0
  clear hr0 hc0
  have HB := Aside0.mk (Below.refl w.heap.size w)
  have H : (weirkeeperref03_Meet.l0 k l0 0 (⟨#[]⟩ : ByteArray) (⟨#[]⟩ : ByteArray) true) = some (r1, r2, r3) := h
  clear h
  have H' := Aside0.mk H
  clear H
  go_enter Try.func12, Try.ntmps12
  go_wp2_with (first | ((with_reducible refine gate_dst (N := 2) rfl ?_); refine box_event ?hg (N := 2) ?hd (cs := #[.string (⟨#[]⟩ : ByteArray), .string (⟨#[]⟩ : ByteArray), .bool false]) (t := 25) ?hr ?_; (case hd => rfl); (case hg => rfl); (case hr => first | (go_simp; done) | (go_simp; rfl)); intro gb133 hg w2 hbox hb; have n0_ := Aside0.mk (below_step (by repeat (first | (with_reducible first | exact HB.out | apply below_alloc | apply pw_below_drewN | apply below_drew1) | exact HB.out)) hb); have n1_ := Aside0.mk (hbox); have n2_ := Aside0.mk ((by rw [hg]; exact (below_size (by repeat (first | (with_reducible first | exact HB.out | apply below_alloc | apply pw_below_drewN | apply below_drew1) | exact HB.out))) : w.heap.size ≤ gb133)); have n3_ := Aside0.mk ((by rw [hg]; exact (below_size (by repeat (first | (with_reducible first | exact HB.out | apply below_alloc | apply pw_below_drewN | apply below_drew1) | exact HB.out))) : w.heap.size ≤ gb133)); clear HB; have HB := n0_; have BK133 := n1_; have GW133 := n2_; have GE133 := n3_; clear n0_ n1_ n2_ n3_; clear hb hbox hg) | ((with_reducible refine gate_dst (N := 3) rfl ?_); refine box_event ?hg (N := 3) ?hd (cs := #[.string (⟨#[]⟩ : ByteArray), .string (⟨#[]⟩ : ByteArray), .bool false]) (t := 25) ?hr ?_; (case hd => rfl); (case hg => rfl); (case hr => first | (go_simp; done) | (go_simp; rfl)); intro gb134 hg w3 hbox hb; have n0_ := Aside0.mk (blk_below (g := gb133) (o := .cells #[.string (⟨#[]⟩ : ByteArray), .string (⟨#[]⟩ : ByteArray), .bool false] 25 (0, 0)) (by (with_reducible repeat (first | refine blk_drewN ?_ _ | refine blk_drew ?_ | refine blk_alloc ?_ _)); exact BK133.out) hb); have n1_ := Aside0.mk (below_step (by repeat (first | (with_reducible first | exact HB.out | apply below_alloc | apply pw_below_drewN | apply below_drew1 | refine below_set ?_ GE133.out) | exact HB.out)) hb); have n2_ := Aside0.mk (hbox); have n3_ := Aside0.mk ((by rw [hg]; exact (below_size (by repeat (first | (with_reducible first | exact HB.out | apply below_alloc | apply pw_below_drewN | apply below_drew1 | refine below_set ?_ GE133.out) | exact HB.out))) : w.heap.size ≤ gb134)); have n4_ := Aside0.mk ((by rw [hg]; exact (below_size (by repeat (first | (with_reducible first | exact HB.out | apply below_alloc | apply pw_below_drewN | apply below_drew1 | refine below_set ?_ GE133.out) | exact HB.out))) : w.heap.size ≤ gb134)); have n5_ := Aside0.mk ((by rw [hg]; exact Nat.ne_of_lt (blk_lt (g := gb133) (o := .cells #[.string (⟨#[]⟩ : ByteArray), .string (⟨#[]⟩ : ByteArray), .bool false] 25 (0, 0)) (by (with_reducible repeat (first | refine blk_drewN ?_ _ | refine blk_drew ?_ | refine blk_alloc ?_ _)); exact BK133.out)) : gb133 ≠ gb134)); have n6_ := Aside0.mk ((by rw [hg]; exact Nat.ne_of_gt (blk_lt (g := gb133) (o := .cells #[.string (⟨#[]⟩ : ByteArray), .string (⟨#[]⟩ : ByteArray), .bool false] 25 (0, 0)) (by (with_reducible repeat (first | refine blk_drewN ?_ _ | refine blk_drew ?_ | refine blk_alloc ?_ _)); exact BK133.out)) : gb134 ≠ gb133)); clear BK133; clear HB; have BK133 := n0_; have HB := n1_; have BK134 := n2_; have GW134 := n3_; have GE134 := n4_; have NB133_134 := n5_; have NB134_133 := n6_; clear n0_ n1_ n2_ n3_ n4_ n5_ n6_; clear hb hbox hg; have hnb4 := NB134_133.out; have hnc4 := NB133_134.out; have hcz5_0 : w3.cell? ⟨gb134, 0, none⟩ = some (.string (⟨#[]⟩ : ByteArray)) := (blk_cell BK134.out 0).trans rfl; have hcz5_1 : w3.cell? ⟨gb134, 1, none⟩ = some (.string (⟨#[]⟩ : ByteArray)) := (blk_cell BK134.out 1).trans rfl; have hcz5_2 : w3.cell? ⟨gb134, 2, none⟩ = some (.bool false) := (blk_cell BK134.out 2).trans rfl; have hfz5_0 := blk_frozen BK134.out 0; have hfz5_1 := blk_frozen BK134.out 1; have hfz5_2 := blk_frozen BK134.out 2))
  repeat (go_quiet (first | ((with_reducible refine gate_dst (N := 2) rfl ?_); refine box_event ?hg (N := 2) ?hd (cs := #[.string (⟨#[]⟩ : ByteArray), .string (⟨#[]⟩ : ByteArray), .bool false]) (t := 25) ?hr ?_; (case hd => rfl); (case hg => rfl); (case hr => first | (go_simp; done) | (go_simp; rfl)); intro gb133 hg w2 hbox hb; have n0_ := Aside0.mk (below_step (by repeat (first | (with_reducible first | exact HB.out | apply below_alloc | apply pw_below_drewN | apply below_drew1) | exact HB.out)) hb); have n1_ := Aside0.mk (hbox); have n2_ := Aside0.mk ((by rw [hg]; exact (below_size (by repeat (first | (with_reducible first | exact HB.out | apply below_alloc | apply pw_below_drewN | apply below_drew1) | exact HB.out))) : w.heap.size ≤ gb133)); have n3_ := Aside0.mk ((by rw [hg]; exact (below_size (by repeat (first | (with_reducible first | exact HB.out | apply below_alloc | apply pw_below_drewN | apply below_drew1) | exact HB.out))) : w.heap.size ≤ gb133)); clear HB; have HB := n0_; have BK133 := n1_; have GW133 := n2_; have GE133 := n3_; clear n0_ n1_ n2_ n3_; clear hb hbox hg) | ((with_reducible refine gate_dst (N := 3) rfl ?_); refine box_event ?hg (N := 3) ?hd (cs := #[.string (⟨#[]⟩ : ByteArray), .string (⟨#[]⟩ : ByteArray), .bool false]) (t := 25) ?hr ?_; (case hd => rfl); (case hg => rfl); (case hr => first | (go_simp; done) | (go_simp; rfl)); intro gb134 hg w3 hbox hb; have n0_ := Aside0.mk (blk_below (g := gb133) (o := .cells #[.string (⟨#[]⟩ : ByteArray), .string (⟨#[]⟩ : ByteArray), .bool false] 25 (0, 0)) (by (with_reducible repeat (first | refine blk_drewN ?_ _ | refine blk_drew ?_ | refine blk_alloc ?_ _)); exact BK133.out) hb); have n1_ := Aside0.mk (below_step (by repeat (first | (with_reducible first | exact HB.out | apply below_alloc | apply pw_below_drewN | apply below_drew1 | refine below_set ?_ GE133.out) | exact HB.out)) hb); have n2_ := Aside0.mk (hbox); have n3_ := Aside0.mk ((by rw [hg]; exact (below_size (by repeat (first | (with_reducible first | exact HB.out | apply below_alloc | apply pw_below_drewN | apply below_drew1 | refine below_set ?_ GE133.out) | exact HB.out))) : w.heap.size ≤ gb134)); have n4_ := Aside0.mk ((by rw [hg]; exact (below_size (by repeat (first | (with_reducible first | exact HB.out | apply below_alloc | apply pw_below_drewN | apply below_drew1 | refine below_set ?_ GE133.out) | exact HB.out))) : w.heap.size ≤ gb134)); have n5_ := Aside0.mk ((by rw [hg]; exact Nat.ne_of_lt (blk_lt (g := gb133) (o := .cells #[.string (⟨#[]⟩ : ByteArray), .string (⟨#[]⟩ : ByteArray), .bool false] 25 (0, 0)) (by (with_reducible repeat (first | refine blk_drewN ?_ _ | refine blk_drew ?_ | refine blk_alloc ?_ _)); exact BK133.out)) : gb133 ≠ gb134)); have n6_ := Aside0.mk ((by rw [hg]; exact Nat.ne_of_gt (blk_lt (g := gb133) (o := .cells #[.string (⟨#[]⟩ : ByteArray), .string (⟨#[]⟩ : ByteArray), .bool false] 25 (0, 0)) (by (with_reducible repeat (first | refine blk_drewN ?_ _ | refine blk_drew ?_ | refine blk_alloc ?_ _)); exact BK133.out)) : gb134 ≠ gb133)); clear BK133; clear HB; have BK133 := n0_; have HB := n1_; have BK134 := n2_; have GW134 := n3_; have GE134 := n4_; have NB133_134 := n5_; have NB134_133 := n6_; clear n0_ n1_ n2_ n3_ n4_ n5_ n6_; clear hb hbox hg; have hnb4 := NB134_133.out; have hnc4 := NB133_134.out; have hcz5_0 : w3.cell? ⟨gb134, 0, none⟩ = some (.string (⟨#[]⟩ : ByteArray)) := (blk_cell BK134.out 0).trans rfl; have hcz5_1 : w3.cell? ⟨gb134, 1, none⟩ = some (.string (⟨#[]⟩ : ByteArray)) := (blk_cell BK134.out 1).trans rfl; have hcz5_2 : w3.cell? ⟨gb134, 2, none⟩ = some (.bool false) := (blk_cell BK134.out 2).trans rfl; have hfz5_0 := blk_frozen BK134.out 0; have hfz5_1 := blk_frozen BK134.out 1; have hfz5_2 := blk_frozen BK134.out 2)); try go_wp2_with (first | ((with_reducible refine gate_dst (N := 2) rfl ?_); refine box_event ?hg (N := 2) ?hd (cs := #[.string (⟨#[]⟩ : ByteArray), .string (⟨#[]⟩ : ByteArray), .bool false]) (t := 25) ?hr ?_; (case hd => rfl); (case hg => rfl); (case hr => first | (go_simp; done) | (go_simp; rfl)); intro gb133 hg w2 hbox hb; have n0_ := Aside0.mk (below_step (by repeat (first | (with_reducible first | exact HB.out | apply below_alloc | apply pw_below_drewN | apply below_drew1) | exact HB.out)) hb); have n1_ := Aside0.mk (hbox); have n2_ := Aside0.mk ((by rw [hg]; exact (below_size (by repeat (first | (with_reducible first | exact HB.out | apply below_alloc | apply pw_below_drewN | apply below_drew1) | exact HB.out))) : w.heap.size ≤ gb133)); have n3_ := Aside0.mk ((by rw [hg]; exact (below_size (by repeat (first | (with_reducible first | exact HB.out | apply below_alloc | apply pw_below_drewN | apply below_drew1) | exact HB.out))) : w.heap.size ≤ gb133)); clear HB; have HB := n0_; have BK133 := n1_; have GW133 := n2_; have GE133 := n3_; clear n0_ n1_ n2_ n3_; clear hb hbox hg) | ((with_reducible refine gate_dst (N := 3) rfl ?_); refine box_event ?hg (N := 3) ?hd (cs := #[.string (⟨#[]⟩ : ByteArray), .string (⟨#[]⟩ : ByteArray), .bool false]) (t := 25) ?hr ?_; (case hd => rfl); (case hg => rfl); (case hr => first | (go_simp; done) | (go_simp; rfl)); intro gb134 hg w3 hbox hb; have n0_ := Aside0.mk (blk_below (g := gb133) (o := .cells #[.string (⟨#[]⟩ : ByteArray), .string (⟨#[]⟩ : ByteArray), .bool false] 25 (0, 0)) (by (with_reducible repeat (first | refine blk_drewN ?_ _ | refine blk_drew ?_ | refine blk_alloc ?_ _)); exact BK133.out) hb); have n1_ := Aside0.mk (below_step (by repeat (first | (with_reducible first | exact HB.out | apply below_alloc | apply pw_below_drewN | apply below_drew1 | refine below_set ?_ GE133.out) | exact HB.out)) hb); have n2_ := Aside0.mk (hbox); have n3_ := Aside0.mk ((by rw [hg]; exact (below_size (by repeat (first | (with_reducible first | exact HB.out | apply below_alloc | apply pw_below_drewN | apply below_drew1 | refine below_set ?_ GE133.out) | exact HB.out))) : w.heap.size ≤ gb134)); have n4_ := Aside0.mk ((by rw [hg]; exact (below_size (by repeat (first | (with_reducible first | exact HB.out | apply below_alloc | apply pw_below_drewN | apply below_drew1 | refine below_set ?_ GE133.out) | exact HB.out))) : w.heap.size ≤ gb134)); have n5_ := Aside0.mk ((by rw [hg]; exact Nat.ne_of_lt (blk_lt (g := gb133) (o := .cells #[.string (⟨#[]⟩ : ByteArray), .string (⟨#[]⟩ : ByteArray), .bool false] 25 (0, 0)) (by (with_reducible repeat (first | refine blk_drewN ?_ _ | refine blk_drew ?_ | refine blk_alloc ?_ _)); exact BK133.out)) : gb133 ≠ gb134)); have n6_ := Aside0.mk ((by rw [hg]; exact Nat.ne_of_gt (blk_lt (g := gb133) (o := .cells #[.string (⟨#[]⟩ : ByteArray), .string (⟨#[]⟩ : ByteArray), .bool false] 25 (0, 0)) (by (with_reducible repeat (first | refine blk_drewN ?_ _ | refine blk_drew ?_ | refine blk_alloc ?_ _)); exact BK133.out)) : gb134 ≠ gb133)); clear BK133; clear HB; have BK133 := n0_; have HB := n1_; have BK134 := n2_; have GW134 := n3_; have GE134 := n4_; have NB133_134 := n5_; have NB134_133 := n6_; clear n0_ n1_ n2_ n3_ n4_ n5_ n6_; clear hb hbox hg; have hnb4 := NB134_133.out; have hnc4 := NB133_134.out; have hcz5_0 : w3.cell? ⟨gb134, 0, none⟩ = some (.string (⟨#[]⟩ : ByteArray)) := (blk_cell BK134.out 0).trans rfl; have hcz5_1 : w3.cell? ⟨gb134, 1, none⟩ = some (.string (⟨#[]⟩ : ByteArray)) := (blk_cell BK134.out 1).trans rfl; have hcz5_2 : w3.cell? ⟨gb134, 2, none⟩ = some (.bool false) := (blk_cell BK134.out 2).trans rfl; have hfz5_0 := blk_frozen BK134.out 0; have hfz5_1 := blk_frozen BK134.out 1; have hfz5_2 := blk_frozen BK134.out 2)))
  go_loopg [4] k (fun kq v4 w' => ∃ (x4_1 : Int) (x135000_1 : ByteArray) (x135001_1 : ByteArray) (x135002_1 : Bool), v4 = .int .i64 x4_1 ∧ Aside0 (weirkeeperref03_Meet.l0 kq l0 x4_1 x135000_1 x135001_1 x135002_1 = some (r1, r2, r3)) ∧ Aside0 (kq ≤ k) ∧ Aside0 (w'.heap[gb133]? = some (.cells #[.string (⟨#[]⟩ : ByteArray), .string (⟨#[]⟩ : ByteArray), .bool false] 25 (0, 0))) ∧ Aside0 (w'.heap[gb134]? = some (.cells #[.string x135000_1, .string x135001_1, .bool x135002_1] 25 (0, 0))) ∧ Aside0 (Below w.heap.size w w'))
  case atStart => exact ⟨(0), ((⟨#[]⟩ : ByteArray)), ((⟨#[]⟩ : ByteArray)), (true), (by first | rfl | (simp; done) | (simp [*]; done)), H', ⟨Nat.le_refl _⟩, ⟨by (with_reducible repeat (first | refine blk_drewN ?_ _ | refine blk_drew ?_ | refine blk_alloc ?_ _)); refine blk_far ?_ NB133_134.out _; (with_reducible repeat (first | refine blk_drewN ?_ _ | refine blk_drew ?_ | refine blk_alloc ?_ _)); refine blk_far ?_ NB133_134.out _; (with_reducible repeat (first | refine blk_drewN ?_ _ | refine blk_drew ?_ | refine blk_alloc ?_ _)); refine blk_far ?_ NB133_134.out _; (with_reducible repeat (first | refine blk_drewN ?_ _ | refine blk_drew ?_ | refine blk_alloc ?_ _)); exact BK133.out⟩, ⟨by (with_reducible repeat (first | refine blk_drewN ?_ _ | refine blk_drew ?_ | refine blk_alloc ?_ _)); refine blk_put (cs := #[.string (⟨#[]⟩ : ByteArray), .string (⟨#[]⟩ : ByteArray), .bool false]) ?_ 2 _ rfl; (with_reducible repeat (first | refine blk_drewN ?_ _ | refine blk_drew ?_ | refine blk_alloc ?_ _)); refine blk_put (cs := #[.string (⟨#[]⟩ : ByteArray), .string (⟨#[]⟩ : ByteArray), .bool false]) ?_ 1 _ rfl; (with_reducible repeat (first | refine blk_drewN ?_ _ | refine blk_drew ?_ | refine blk_alloc ?_ _)); refine blk_put (cs := #[.string (⟨#[]⟩ : ByteArray), .string (⟨#[]⟩ : ByteArray), .bool false]) ?_ 0 _ rfl; (with_reducible repeat (first | refine blk_drewN ?_ _ | refine blk_drew ?_ | refine blk_alloc ?_ _)); exact BK134.out⟩, ⟨by repeat (first | (with_reducible first | exact HB.out | apply below_alloc | apply pw_below_drewN | apply below_drew1 | refine below_set ?_ GE133.out | refine below_set ?_ GE134.out) | exact HB.out)⟩⟩
  case round =>
    clear H'
    try clear c1
    try clear p2
    try clear c4
    try clear hcz5_0
    try clear hcz5_1
    try clear hcz5_2
    try clear hfz5_0
    try clear hfz5_1
    try clear hfz5_2
    obtain ⟨x4_1, x135000_1, x135001_1, x135002_1, rfl, HA, HK1, BK133, BK134, HB⟩ := hrel
    cases gk with
    | zero => exact absurd HA.out (by simp [weirkeeperref03_Meet.l0])
    | succ k1 =>
      have H := HA.out
      clear HA
      simp only [weirkeeperref03_Meet.l0] at H
      by_cases c6 : x4_1 < (l0.length : Int)
      · rw [if_pos c6] at H
        have c6b0 : decide (x4_1 < (l0.length : Int)) = true := decide_eq_true c6
        clear c6
        by_cases c7 : 0 ≤ x4_1
        · rw [if_pos c7] at H
          have c7b0 : decide (0 ≤ x4_1) = true := decide_eq_true c7
          clear c7
          by_cases c8 : (!Op.bytesLess (((rd_T25 l0 x4_1).f0).toList) x135000_1.toList && !((((rd_T25 l0 x4_1).f0).toList) == x135000_1.toList)) = true
          · rw [if_pos c8] at H
            have c8b0 : (!Op.bytesLess (((rd_T25 l0 x4_1).f0).toList) x135000_1.toList && !((((rd_T25 l0 x4_1).f0).toList) == x135000_1.toList)) = true := c8
            clear c8
            obtain ⟨bq9, hbq9⟩ : ∃ b_ : Bool, b_ = ((rd_T25 l0 x4_1).f2) := ⟨_, rfl⟩
            replace H : (if (bq9 = true) then (weirkeeperref03_Meet.l0 k1 l0 (wrap64 (x4_1 + 1)) ((rd_T25 l0 x4_1).f0) x135001_1 x135002_1) else (if x135002_1 = true then (weirkeeperref03_Meet.l0 k1 l0 (wrap64 (x4_1 + 1)) ((rd_T25 l0 x4_1).f0) ((rd_T25 l0 x4_1).f1) false) else (if (Op.bytesLess (((rd_T25 l0 x4_1).f1).toList) x135001_1.toList) = true then (weirkeeperref03_Meet.l0 k1 l0 (wrap64 (x4_1 + 1)) ((rd_T25 l0 x4_1).f0) ((rd_T25 l0 x4_1).f1) false) else (weirkeeperref03_Meet.l0 k1 l0 (wrap64 (x4_1 + 1)) ((rd_T25 l0 x4_1).f0) x135001_1 x135002_1)))) = some (r1, r2, r3) := by rw [← hbq9] at H; exact H
            have Nbq9 := Aside0.mk hbq9
            clear hbq9
            by_cases c10 : (bq9 = true)
            · subst c10
              have H1 : (weirkeeperref03_Meet.l0 k1 l0 (wrap64 (x4_1 + 1)) ((rd_T25 l0 x4_1).f0) x135001_1 x135002_1) = some (r1, r2, r3) := by rw [if_pos rfl] at H; exact H
              clear H
              have H := H1
              clear H1
              have H' := Aside0.mk H
              clear H
              have p135 : 0 ≤ (x4_1 : Int) := of_decide_eq_true (by first | (with_reducible assumption) | assumption)
              have q135 : x4_1 < (l0.length : Int) := of_decide_eq_true (by first | (with_reducible assumption) | assumption)
              obtain ⟨ad135, e135, hx135_0, hx135_1, hx135_2⟩ := at_T25 HR0.out x4_1 p135 q135
              (try rw [← Nbq9.out] at hx135_2)
              cases e135
              replace hx135_0 := (HB.out.cell (World.block_lt_of_cell? w _ hx135_0)).trans hx135_0
              replace hx135_1 := (HB.out.cell (World.block_lt_of_cell? w _ hx135_1)).trans hx135_1
              replace hx135_2 := (HB.out.cell (World.block_lt_of_cell? w _ hx135_2)).trans hx135_2
              replace p135 := eq_true p135
              replace q135 := eq_true q135
              have hnb11 := NB134_133.out
              have hnc11 := NB133_134.out
              have hcz12_0 : wr.cell? ⟨gb134, 0, none⟩ = some (.string x135000_1) := (blk_cell BK134.out 0).trans rfl
              have hcz12_1 : wr.cell? ⟨gb134, 1, none⟩ = some (.string x135001_1) := (blk_cell BK134.out 1).trans rfl
              have hcz12_2 : wr.cell? ⟨gb134, 2, none⟩ = some (.bool x135002_1) := (blk_cell BK134.out 2).trans rfl
              have hfz12_0 := blk_frozen BK134.out 0
              have hfz12_1 := blk_frozen BK134.out 1
              have hfz12_2 := blk_frozen BK134.out 2
              have p136 : 0 ≤ (x4_1 : Int) := of_decide_eq_true (by first | (with_reducible assumption) | assumption)
              have q136 : x4_1 < (l0.length : Int) := of_decide_eq_true (by first | (with_reducible assumption) | assumption)
              obtain ⟨ad136, e136, hx136_0, hx136_1, hx136_2⟩ := at_T25 HR0.out x4_1 p136 q136
              (try rw [← Nbq9.out] at hx136_2)
              obtain rfl : ad135 = ad136 := (by injection e136)
              replace hx136_0 := (HB.out.cell (World.block_lt_of_cell? w _ hx136_0)).trans hx136_0
              replace hx136_1 := (HB.out.cell (World.block_lt_of_cell? w _ hx136_1)).trans hx136_1
              replace hx136_2 := (HB.out.cell (World.block_lt_of_cell? w _ hx136_2)).trans hx136_2
              replace p136 := eq_true p136
              replace q136 := eq_true q136
              have p137 : 0 ≤ (x4_1 : Int) := of_decide_eq_true (by first | (with_reducible assumption) | assumption)
              have q137 : x4_1 < (l0.length : Int) := of_decide_eq_true (by first | (with_reducible assumption) | assumption)
              obtain ⟨ad137, e137, hx137_0, hx137_1, hx137_2⟩ := at_T25 HR0.out x4_1 p137 q137
              (try rw [← Nbq9.out] at hx137_2)
              obtain rfl : ad135 = ad137 := (by injection e137)
              have hn137_0 : ad135.block ≠ gb134 := Nat.ne_of_lt (Nat.lt_of_lt_of_le (by have := World.block_lt_of_cell? _ _ hx137_0; first | rwa [add_block] at this | exact this) GW134.out)
              replace hx137_0 := (HB.out.cell (World.block_lt_of_cell? w _ hx137_0)).trans hx137_0
              replace hx137_1 := (HB.out.cell (World.block_lt_of_cell? w _ hx137_1)).trans hx137_1
              replace hx137_2 := (HB.out.cell (World.block_lt_of_cell? w _ hx137_2)).trans hx137_2
              replace hx137_0 := (cell_far (p := ⟨gb134, 0, none⟩) (by first | (rw [add_block]; exact hn137_0) | (show (Addr.add _ _).block ≠ _; rw [add_block]; exact hn137_0) | exact hn137_0) (.string ((rd_T25 l0 x4_1).f0))).trans hx137_0
              replace hx137_1 := (cell_far (p := ⟨gb134, 0, none⟩) (by first | (rw [add_block]; exact hn137_0) | (show (Addr.add _ _).block ≠ _; rw [add_block]; exact hn137_0) | exact hn137_0) (.string ((rd_T25 l0 x4_1).f0))).trans hx137_1
              replace hx137_2 := (cell_far (p := ⟨gb134, 0, none⟩) (by first | (rw [add_block]; exact hn137_0) | (show (Addr.add _ _).block ≠ _; rw [add_block]; exact hn137_0) | exact hn137_0) (.string ((rd_T25 l0 x4_1).f0))).trans hx137_2
              (try have hy137_0 := fun (n_ : Nat) => (show (((wr.drewN n_).setCell ⟨gb134, 0, none⟩ (.string ((rd_T25 l0 x4_1).f0)))).cell? _ = some _ from hx137_0))
              (try have hy137_1 := fun (n_ : Nat) => (show (((wr.drewN n_).setCell ⟨gb134, 0, none⟩ (.string ((rd_T25 l0 x4_1).f0)))).cell? _ = some _ from hx137_1))
              (try have hy137_2 := fun (n_ : Nat) => (show (((wr.drewN n_).setCell ⟨gb134, 0, none⟩ (.string ((rd_T25 l0 x4_1).f0)))).cell? _ = some _ from hx137_2))
              clear hn137_0
              replace p137 := eq_true p137
              replace q137 := eq_true q137
              go_wp2
              repeat (go_quiet (fail); try go_wp2)
              go_roundg k1
              case measure => have := HK1.out; omega
              case rel => exact ⟨(wrap64 (x4_1 + 1)), ((rd_T25 l0 x4_1).f0), (x135001_1), (x135002_1), (by first | rfl | (simp; done) | (simp [*]; done)), H', ⟨by have := HK1.out; omega⟩, ⟨by (with_reducible repeat (first | refine blk_drewN ?_ _ | refine blk_drew ?_ | refine blk_alloc ?_ _)); refine blk_far ?_ NB133_134.out _; (with_reducible repeat (first | refine blk_drewN ?_ _ | refine blk_drew ?_ | refine blk_alloc ?_ _)); exact BK133.out⟩, ⟨by (with_reducible repeat (first | refine blk_drewN ?_ _ | refine blk_drew ?_ | refine blk_alloc ?_ _)); refine blk_put (cs := #[.string x135000_1, .string x135001_1, .bool x135002_1]) ?_ 0 _ rfl; (with_reducible repeat (first | refine blk_drewN ?_ _ | refine blk_drew ?_ | refine blk_alloc ?_ _)); exact BK134.out⟩, ⟨by repeat (first | (with_reducible first | exact HB.out | apply below_alloc | apply pw_below_drewN | apply below_drew1 | refine below_set ?_ GE133.out | refine below_set ?_ GE134.out) | exact HB.out)⟩⟩
            · replace c10 := Bool.eq_false_iff.mpr c10
              subst c10
              have H1 : (if x135002_1 = true then (weirkeeperref03_Meet.l0 k1 l0 (wrap64 (x4_1 + 1)) ((rd_T25 l0 x4_1).f0) ((rd_T25 l0 x4_1).f1) false) else (if (Op.bytesLess (((rd_T25 l0 x4_1).f1).toList) x135001_1.toList) = true then (weirkeeperref03_Meet.l0 k1 l0 (wrap64 (x4_1 + 1)) ((rd_T25 l0 x4_1).f0) ((rd_T25 l0 x4_1).f1) false) else (weirkeeperref03_Meet.l0 k1 l0 (wrap64 (x4_1 + 1)) ((rd_T25 l0 x4_1).f0) x135001_1 x135002_1))) = some (r1, r2, r3) := by rw [if_neg (show ¬ (false = true) by decide)] at H; exact H
              clear H
              have H := H1
              clear H1
              by_cases c13 : x135002_1 = true
              · subst c13
                have H1 : (weirkeeperref03_Meet.l0 k1 l0 (wrap64 (x4_1 + 1)) ((rd_T25 l0 x4_1).f0) ((rd_T25 l0 x4_1).f1) false) = some (r1, r2, r3) := by rw [if_pos rfl] at H; exact H
                clear H
                have H := H1
                clear H1
                have H' := Aside0.mk H
                clear H
                have p135 : 0 ≤ (x4_1 : Int) := of_decide_eq_true (by first | (with_reducible assumption) | assumption)
                have q135 : x4_1 < (l0.length : Int) := of_decide_eq_true (by first | (with_reducible assumption) | assumption)
                obtain ⟨ad135, e135, hx135_0, hx135_1, hx135_2⟩ := at_T25 HR0.out x4_1 p135 q135
                (try rw [← Nbq9.out] at hx135_2)
                cases e135
                replace hx135_0 := (HB.out.cell (World.block_lt_of_cell? w _ hx135_0)).trans hx135_0
                replace hx135_1 := (HB.out.cell (World.block_lt_of_cell? w _ hx135_1)).trans hx135_1
                replace hx135_2 := (HB.out.cell (World.block_lt_of_cell? w _ hx135_2)).trans hx135_2
                replace p135 := eq_true p135
                replace q135 := eq_true q135
                have hnb14 := NB134_133.out
                have hnc14 := NB133_134.out
                have hcz15_0 : wr.cell? ⟨gb134, 0, none⟩ = some (.string x135000_1) := (blk_cell BK134.out 0).trans rfl
                have hcz15_1 : wr.cell? ⟨gb134, 1, none⟩ = some (.string x135001_1) := (blk_cell BK134.out 1).trans rfl
                have hcz15_2 : wr.cell? ⟨gb134, 2, none⟩ = some (.bool true) := (blk_cell BK134.out 2).trans rfl
                have hfz15_0 := blk_frozen BK134.out 0
                have hfz15_1 := blk_frozen BK134.out 1
                have hfz15_2 := blk_frozen BK134.out 2
                have p136 : 0 ≤ (x4_1 : Int) := of_decide_eq_true (by first | (with_reducible assumption) | assumption)
                have q136 : x4_1 < (l0.length : Int) := of_decide_eq_true (by first | (with_reducible assumption) | assumption)
                obtain ⟨ad136, e136, hx136_0, hx136_1, hx136_2⟩ := at_T25 HR0.out x4_1 p136 q136
                (try rw [← Nbq9.out] at hx136_2)
                obtain rfl : ad135 = ad136 := (by injection e136)
                replace hx136_0 := (HB.out.cell (World.block_lt_of_cell? w _ hx136_0)).trans hx136_0
                replace hx136_1 := (HB.out.cell (World.block_lt_of_cell? w _ hx136_1)).trans hx136_1
                replace hx136_2 := (HB.out.cell (World.block_lt_of_cell? w _ hx136_2)).trans hx136_2
                replace p136 := eq_true p136
                replace q136 := eq_true q136
                have p137 : 0 ≤ (x4_1 : Int) := of_decide_eq_true (by first | (with_reducible assumption) | assumption)
                have q137 : x4_1 < (l0.length : Int) := of_decide_eq_true (by first | (with_reducible assumption) | assumption)
                obtain ⟨ad137, e137, hx137_0, hx137_1, hx137_2⟩ := at_T25 HR0.out x4_1 p137 q137
                (try rw [← Nbq9.out] at hx137_2)
                obtain rfl : ad135 = ad137 := (by injection e137)
                have hn137_0 : ad135.block ≠ gb134 := Nat.ne_of_lt (Nat.lt_of_lt_of_le (by have := World.block_lt_of_cell? _ _ hx137_0; first | rwa [add_block] at this | exact this) GW134.out)
                replace hx137_0 := (HB.out.cell (World.block_lt_of_cell? w _ hx137_0)).trans hx137_0
                replace hx137_1 := (HB.out.cell (World.block_lt_of_cell? w _ hx137_1)).trans hx137_1
                replace hx137_2 := (HB.out.cell (World.block_lt_of_cell? w _ hx137_2)).trans hx137_2
                replace hx137_0 := (cell_far (p := ⟨gb134, 0, none⟩) (by first | (rw [add_block]; exact hn137_0) | (show (Addr.add _ _).block ≠ _; rw [add_block]; exact hn137_0) | exact hn137_0) (.string ((rd_T25 l0 x4_1).f0))).trans hx137_0
                replace hx137_1 := (cell_far (p := ⟨gb134, 0, none⟩) (by first | (rw [add_block]; exact hn137_0) | (show (Addr.add _ _).block ≠ _; rw [add_block]; exact hn137_0) | exact hn137_0) (.string ((rd_T25 l0 x4_1).f0))).trans hx137_1
                replace hx137_2 := (cell_far (p := ⟨gb134, 0, none⟩) (by first | (rw [add_block]; exact hn137_0) | (show (Addr.add _ _).block ≠ _; rw [add_block]; exact hn137_0) | exact hn137_0) (.string ((rd_T25 l0 x4_1).f0))).trans hx137_2
                (try have hy137_0 := fun (n_ : Nat) => (show (((wr.drewN n_).setCell ⟨gb134, 0, none⟩ (.string ((rd_T25 l0 x4_1).f0)))).cell? _ = some _ from hx137_0))
                (try have hy137_1 := fun (n_ : Nat) => (show (((wr.drewN n_).setCell ⟨gb134, 0, none⟩ (.string ((rd_T25 l0 x4_1).f0)))).cell? _ = some _ from hx137_1))
                (try have hy137_2 := fun (n_ : Nat) => (show (((wr.drewN n_).setCell ⟨gb134, 0, none⟩ (.string ((rd_T25 l0 x4_1).f0)))).cell? _ = some _ from hx137_2))
                clear hn137_0
                replace p137 := eq_true p137
                replace q137 := eq_true q137
                have p138 : 0 ≤ (x4_1 : Int) := of_decide_eq_true (by first | (with_reducible assumption) | assumption)
                have q138 : x4_1 < (l0.length : Int) := of_decide_eq_true (by first | (with_reducible assumption) | assumption)
                obtain ⟨ad138, e138, hx138_0, hx138_1, hx138_2⟩ := at_T25 HR0.out x4_1 p138 q138
                (try rw [← Nbq9.out] at hx138_2)
                obtain rfl : ad135 = ad138 := (by injection e138)
                have hn138_0 : ad135.block ≠ gb134 := Nat.ne_of_lt (Nat.lt_of_lt_of_le (by have := World.block_lt_of_cell? _ _ hx138_0; first | rwa [add_block] at this | exact this) GW134.out)
                replace hx138_0 := (HB.out.cell (World.block_lt_of_cell? w _ hx138_0)).trans hx138_0
                replace hx138_1 := (HB.out.cell (World.block_lt_of_cell? w _ hx138_1)).trans hx138_1
                replace hx138_2 := (HB.out.cell (World.block_lt_of_cell? w _ hx138_2)).trans hx138_2
                replace hx138_0 := (cell_far (p := ⟨gb134, 0, none⟩) (by first | (rw [add_block]; exact hn138_0) | (show (Addr.add _ _).block ≠ _; rw [add_block]; exact hn138_0) | exact hn138_0) (.string ((rd_T25 l0 x4_1).f0))).trans hx138_0
                replace hx138_1 := (cell_far (p := ⟨gb134, 0, none⟩) (by first | (rw [add_block]; exact hn138_0) | (show (Addr.add _ _).block ≠ _; rw [add_block]; exact hn138_0) | exact hn138_0) (.string ((rd_T25 l0 x4_1).f0))).trans hx138_1
                replace hx138_2 := (cell_far (p := ⟨gb134, 0, none⟩) (by first | (rw [add_block]; exact hn138_0) | (show (Addr.add _ _).block ≠ _; rw [add_block]; exact hn138_0) | exact hn138_0) (.string ((rd_T25 l0 x4_1).f0))).trans hx138_2
                (try have hy138_0 := fun (n_ : Nat) => (show (((wr.drewN n_).setCell ⟨gb134, 0, none⟩ (.string ((rd_T25 l0 x4_1).f0)))).cell? _ = some _ from hx138_0))
                (try have hy138_1 := fun (n_ : Nat) => (show (((wr.drewN n_).setCell ⟨gb134, 0, none⟩ (.string ((rd_T25 l0 x4_1).f0)))).cell? _ = some _ from hx138_1))
                (try have hy138_2 := fun (n_ : Nat) => (show (((wr.drewN n_).setCell ⟨gb134, 0, none⟩ (.string ((rd_T25 l0 x4_1).f0)))).cell? _ = some _ from hx138_2))
                clear hn138_0
                replace p138 := eq_true p138
                replace q138 := eq_true q138
                go_wp2
                repeat (go_quiet (fail); try go_wp2)
                go_roundg k1
                case measure => have := HK1.out; omega
                case rel => exact ⟨(wrap64 (x4_1 + 1)), ((rd_T25 l0 x4_1).f0), ((rd_T25 l0 x4_1).f1), (false), (by first | rfl | (simp; done) | (simp [*]; done)), H', ⟨by have := HK1.out; omega⟩, ⟨by (with_reducible repeat (first | refine blk_drewN ?_ _ | refine blk_drew ?_ | refine blk_alloc ?_ _)); refine blk_far ?_ NB133_134.out _; (with_reducible repeat (first | refine blk_drewN ?_ _ | refine blk_drew ?_ | refine blk_alloc ?_ _)); refine blk_far ?_ NB133_134.out _; (with_reducible repeat (first | refine blk_drewN ?_ _ | refine blk_drew ?_ | refine blk_alloc ?_ _)); refine blk_far ?_ NB133_134.out _; (with_reducible repeat (first | refine blk_drewN ?_ _ | refine blk_drew ?_ | refine blk_alloc ?_ _)); exact BK133.out⟩, ⟨by (with_reducible repeat (first | refine blk_drewN ?_ _ | refine blk_drew ?_ | refine blk_alloc ?_ _)); refine blk_put (cs := #[.string ((rd_T25 l0 x4_1).f0), .string ((rd_T25 l0 x4_1).f1), .bool true]) ?_ 2 _ rfl; (with_reducible repeat (first | refine blk_drewN ?_ _ | refine blk_drew ?_ | refine blk_alloc ?_ _)); refine blk_put (cs := #[.string ((rd_T25 l0 x4_1).f0), .string x135001_1, .bool true]) ?_ 1 _ rfl; (with_reducible repeat (first | refine blk_drewN ?_ _ | refine blk_drew ?_ | refine blk_alloc ?_ _)); refine blk_put (cs := #[.string x135000_1, .string x135001_1, .bool true]) ?_ 0 _ rfl; (with_reducible repeat (first | refine blk_drewN ?_ _ | refine blk_drew ?_ | refine blk_alloc ?_ _)); exact BK134.out⟩, ⟨by repeat (first | (with_reducible first | exact HB.out | apply below_alloc | apply pw_below_drewN | apply below_drew1 | refine below_set ?_ GE133.out | refine below_set ?_ GE134.out) | exact HB.out)⟩⟩
              · replace c13 := Bool.eq_false_iff.mpr c13
                subst c13
                have H1 : (if (Op.bytesLess (((rd_T25 l0 x4_1).f1).toList) x135001_1.toList) = true then (weirkeeperref03_Meet.l0 k1 l0 (wrap64 (x4_1 + 1)) ((rd_T25 l0 x4_1).f0) ((rd_T25 l0 x4_1).f1) false) else (weirkeeperref03_Meet.l0 k1 l0 (wrap64 (x4_1 + 1)) ((rd_T25 l0 x4_1).f0) x135001_1 false)) = some (r1, r2, r3) := by rw [if_neg (show ¬ (false = true) by decide)] at H; exact H
                clear H
                have H := H1
                clear H1
                by_cases c16 : (Op.bytesLess (((rd_T25 l0 x4_1).f1).toList) x135001_1.toList) = true
                · rw [if_pos c16] at H
                  have c16b0 : (Op.bytesLess (((rd_T25 l0 x4_1).f1).toList) x135001_1.toList) = true := c16
                  clear c16
                  have H' := Aside0.mk H
                  clear H
                  have p135 : 0 ≤ (x4_1 : Int) := of_decide_eq_true (by first | (with_reducible assumption) | assumption)
                  have q135 : x4_1 < (l0.length : Int) := of_decide_eq_true (by first | (with_reducible assumption) | assumption)
                  obtain ⟨ad135, e135, hx135_0, hx135_1, hx135_2⟩ := at_T25 HR0.out x4_1 p135 q135
                  (try rw [← Nbq9.out] at hx135_2)
                  cases e135
                  replace hx135_0 := (HB.out.cell (World.block_lt_of_cell? w _ hx135_0)).trans hx135_0
                  replace hx135_1 := (HB.out.cell (World.block_lt_of_cell? w _ hx135_1)).trans hx135_1
                  replace hx135_2 := (HB.out.cell (World.block_lt_of_cell? w _ hx135_2)).trans hx135_2
                  replace p135 := eq_true p135
                  replace q135 := eq_true q135
                  have hnb17 := NB134_133.out
                  have hnc17 := NB133_134.out
                  have hcz18_0 : wr.cell? ⟨gb134, 0, none⟩ = some (.string x135000_1) := (blk_cell BK134.out 0).trans rfl
                  have hcz18_1 : wr.cell? ⟨gb134, 1, none⟩ = some (.string x135001_1) := (blk_cell BK134.out 1).trans rfl
                  have hcz18_2 : wr.cell? ⟨gb134, 2, none⟩ = some (.bool false) := (blk_cell BK134.out 2).trans rfl
                  have hfz18_0 := blk_frozen BK134.out 0
                  have hfz18_1 := blk_frozen BK134.out 1
                  have hfz18_2 := blk_frozen BK134.out 2
                  have p136 : 0 ≤ (x4_1 : Int) := of_decide_eq_true (by first | (with_reducible assumption) | assumption)
                  have q136 : x4_1 < (l0.length : Int) := of_decide_eq_true (by first | (with_reducible assumption) | assumption)
                  obtain ⟨ad136, e136, hx136_0, hx136_1, hx136_2⟩ := at_T25 HR0.out x4_1 p136 q136
                  (try rw [← Nbq9.out] at hx136_2)
                  obtain rfl : ad135 = ad136 := (by injection e136)
                  replace hx136_0 := (HB.out.cell (World.block_lt_of_cell? w _ hx136_0)).trans hx136_0
                  replace hx136_1 := (HB.out.cell (World.block_lt_of_cell? w _ hx136_1)).trans hx136_1
                  replace hx136_2 := (HB.out.cell (World.block_lt_of_cell? w _ hx136_2)).trans hx136_2
                  replace p136 := eq_true p136
                  replace q136 := eq_true q136
                  have p137 : 0 ≤ (x4_1 : Int) := of_decide_eq_true (by first | (with_reducible assumption) | assumption)
                  have q137 : x4_1 < (l0.length : Int) := of_decide_eq_true (by first | (with_reducible assumption) | assumption)
                  obtain ⟨ad137, e137, hx137_0, hx137_1, hx137_2⟩ := at_T25 HR0.out x4_1 p137 q137
                  (try rw [← Nbq9.out] at hx137_2)
                  obtain rfl : ad135 = ad137 := (by injection e137)
                  have hn137_0 : ad135.block ≠ gb134 := Nat.ne_of_lt (Nat.lt_of_lt_of_le (by have := World.block_lt_of_cell? _ _ hx137_0; first | rwa [add_block] at this | exact this) GW134.out)
                  replace hx137_0 := (HB.out.cell (World.block_lt_of_cell? w _ hx137_0)).trans hx137_0
                  replace hx137_1 := (HB.out.cell (World.block_lt_of_cell? w _ hx137_1)).trans hx137_1
                  replace hx137_2 := (HB.out.cell (World.block_lt_of_cell? w _ hx137_2)).trans hx137_2
                  replace hx137_0 := (cell_far (p := ⟨gb134, 0, none⟩) (by first | (rw [add_block]; exact hn137_0) | (show (Addr.add _ _).block ≠ _; rw [add_block]; exact hn137_0) | exact hn137_0) (.string ((rd_T25 l0 x4_1).f0))).trans hx137_0
                  replace hx137_1 := (cell_far (p := ⟨gb134, 0, none⟩) (by first | (rw [add_block]; exact hn137_0) | (show (Addr.add _ _).block ≠ _; rw [add_block]; exact hn137_0) | exact hn137_0) (.string ((rd_T25 l0 x4_1).f0))).trans hx137_1
                  replace hx137_2 := (cell_far (p := ⟨gb134, 0, none⟩) (by first | (rw [add_block]; exact hn137_0) | (show (Addr.add _ _).block ≠ _; rw [add_block]; exact hn137_0) | exact hn137_0) (.string ((rd_T25 l0 x4_1).f0))).trans hx137_2
                  (try have hy137_0 := fun (n_ : Nat) => (show (((wr.drewN n_).setCell ⟨gb134, 0, none⟩ (.string ((rd_T25 l0 x4_1).f0)))).cell? _ = some _ from hx137_0))
                  (try have hy137_1 := fun (n_ : Nat) => (show (((wr.drewN n_).setCell ⟨gb134, 0, none⟩ (.string ((rd_T25 l0 x4_1).f0)))).cell? _ = some _ from hx137_1))
                  (try have hy137_2 := fun (n_ : Nat) => (show (((wr.drewN n_).setCell ⟨gb134, 0, none⟩ (.string ((rd_T25 l0 x4_1).f0)))).cell? _ = some _ from hx137_2))
                  clear hn137_0
                  replace p137 := eq_true p137
                  replace q137 := eq_true q137
                  have p139 : 0 ≤ (x4_1 : Int) := of_decide_eq_true (by first | (with_reducible assumption) | assumption)
                  have q139 : x4_1 < (l0.length : Int) := of_decide_eq_true (by first | (with_reducible assumption) | assumption)
                  obtain ⟨ad139, e139, hx139_0, hx139_1, hx139_2⟩ := at_T25 HR0.out x4_1 p139 q139
                  (try rw [← Nbq9.out] at hx139_2)
                  obtain rfl : ad135 = ad139 := (by injection e139)
                  have hn139_0 : ad135.block ≠ gb134 := Nat.ne_of_lt (Nat.lt_of_lt_of_le (by have := World.block_lt_of_cell? _ _ hx139_0; first | rwa [add_block] at this | exact this) GW134.out)
                  replace hx139_0 := (HB.out.cell (World.block_lt_of_cell? w _ hx139_0)).trans hx139_0
                  replace hx139_1 := (HB.out.cell (World.block_lt_of_cell? w _ hx139_1)).trans hx139_1
                  replace hx139_2 := (HB.out.cell (World.block_lt_of_cell? w _ hx139_2)).trans hx139_2
                  replace hx139_0 := (cell_far (p := ⟨gb134, 0, none⟩) (by first | (rw [add_block]; exact hn139_0) | (show (Addr.add _ _).block ≠ _; rw [add_block]; exact hn139_0) | exact hn139_0) (.string ((rd_T25 l0 x4_1).f0))).trans hx139_0
                  replace hx139_1 := (cell_far (p := ⟨gb134, 0, none⟩) (by first | (rw [add_block]; exact hn139_0) | (show (Addr.add _ _).block ≠ _; rw [add_block]; exact hn139_0) | exact hn139_0) (.string ((rd_T25 l0 x4_1).f0))).trans hx139_1
                  replace hx139_2 := (cell_far (p := ⟨gb134, 0, none⟩) (by first | (rw [add_block]; exact hn139_0) | (show (Addr.add _ _).block ≠ _; rw [add_block]; exact hn139_0) | exact hn139_0) (.string ((rd_T25 l0 x4_1).f0))).trans hx139_2
                  (try have hy139_0 := fun (n_ : Nat) => (show (((wr.drewN n_).setCell ⟨gb134, 0, none⟩ (.string ((rd_T25 l0 x4_1).f0)))).cell? _ = some _ from hx139_0))
                  (try have hy139_1 := fun (n_ : Nat) => (show (((wr.drewN n_).setCell ⟨gb134, 0, none⟩ (.string ((rd_T25 l0 x4_1).f0)))).cell? _ = some _ from hx139_1))
                  (try have hy139_2 := fun (n_ : Nat) => (show (((wr.drewN n_).setCell ⟨gb134, 0, none⟩ (.string ((rd_T25 l0 x4_1).f0)))).cell? _ = some _ from hx139_2))
                  clear hn139_0
                  replace p139 := eq_true p139
                  replace q139 := eq_true q139
                  have p140 : 0 ≤ (x4_1 : Int) := of_decide_eq_true (by first | (with_reducible assumption) | assumption)
                  have q140 : x4_1 < (l0.length : Int) := of_decide_eq_true (by first | (with_reducible assumption) | assumption)
                  obtain ⟨ad140, e140, hx140_0, hx140_1, hx140_2⟩ := at_T25 HR0.out x4_1 p140 q140
                  (try rw [← Nbq9.out] at hx140_2)
                  obtain rfl : ad135 = ad140 := (by injection e140)
                  have hn140_0 : ad135.block ≠ gb134 := Nat.ne_of_lt (Nat.lt_of_lt_of_le (by have := World.block_lt_of_cell? _ _ hx140_0; first | rwa [add_block] at this | exact this) GW134.out)
                  replace hx140_0 := (HB.out.cell (World.block_lt_of_cell? w _ hx140_0)).trans hx140_0
                  replace hx140_1 := (HB.out.cell (World.block_lt_of_cell? w _ hx140_1)).trans hx140_1
                  replace hx140_2 := (HB.out.cell (World.block_lt_of_cell? w _ hx140_2)).trans hx140_2
                  replace hx140_0 := (cell_far (p := ⟨gb134, 0, none⟩) (by first | (rw [add_block]; exact hn140_0) | (show (Addr.add _ _).block ≠ _; rw [add_block]; exact hn140_0) | exact hn140_0) (.string ((rd_T25 l0 x4_1).f0))).trans hx140_0
                  replace hx140_1 := (cell_far (p := ⟨gb134, 0, none⟩) (by first | (rw [add_block]; exact hn140_0) | (show (Addr.add _ _).block ≠ _; rw [add_block]; exact hn140_0) | exact hn140_0) (.string ((rd_T25 l0 x4_1).f0))).trans hx140_1
                  replace hx140_2 := (cell_far (p := ⟨gb134, 0, none⟩) (by first | (rw [add_block]; exact hn140_0) | (show (Addr.add _ _).block ≠ _; rw [add_block]; exact hn140_0) | exact hn140_0) (.string ((rd_T25 l0 x4_1).f0))).trans hx140_2
                  (try have hy140_0 := fun (n_ : Nat) => (show (((wr.drewN n_).setCell ⟨gb134, 0, none⟩ (.string ((rd_T25 l0 x4_1).f0)))).cell? _ = some _ from hx140_0))
                  (try have hy140_1 := fun (n_ : Nat) => (show (((wr.drewN n_).setCell ⟨gb134, 0, none⟩ (.string ((rd_T25 l0 x4_1).f0)))).cell? _ = some _ from hx140_1))
                  (try have hy140_2 := fun (n_ : Nat) => (show (((wr.drewN n_).setCell ⟨gb134, 0, none⟩ (.string ((rd_T25 l0 x4_1).f0)))).cell? _ = some _ from hx140_2))
                  clear hn140_0
                  replace p140 := eq_true p140
                  replace q140 := eq_true q140
                  go_wp2
                  repeat (go_quiet (fail); try go_wp2)
                  go_roundg k1
                  case measure => have := HK1.out; omega
                  case rel => exact ⟨(wrap64 (x4_1 + 1)), ((rd_T25 l0 x4_1).f0), ((rd_T25 l0 x4_1).f1), (false), (by first | rfl | (simp; done) | (simp [*]; done)), H', ⟨by have := HK1.out; omega⟩, ⟨by (with_reducible repeat (first | refine blk_drewN ?_ _ | refine blk_drew ?_ | refine blk_alloc ?_ _)); refine blk_far ?_ NB133_134.out _; (with_reducible repeat (first | refine blk_drewN ?_ _ | refine blk_drew ?_ | refine blk_alloc ?_ _)); refine blk_far ?_ NB133_134.out _; (with_reducible repeat (first | refine blk_drewN ?_ _ | refine blk_drew ?_ | refine blk_alloc ?_ _)); refine blk_far ?_ NB133_134.out _; (with_reducible repeat (first | refine blk_drewN ?_ _ | refine blk_drew ?_ | refine blk_alloc ?_ _)); exact BK133.out⟩, ⟨by (with_reducible repeat (first | refine blk_drewN ?_ _ | refine blk_drew ?_ | refine blk_alloc ?_ _)); refine blk_put (cs := #[.string ((rd_T25 l0 x4_1).f0), .string ((rd_T25 l0 x4_1).f1), .bool false]) ?_ 2 _ rfl; (with_reducible repeat (first | refine blk_drewN ?_ _ | refine blk_drew ?_ | refine blk_alloc ?_ _)); refine blk_put (cs := #[.string ((rd_T25 l0 x4_1).f0), .string x135001_1, .bool false]) ?_ 1 _ rfl; (with_reducible repeat (first | refine blk_drewN ?_ _ | refine blk_drew ?_ | refine blk_alloc ?_ _)); refine blk_put (cs := #[.string x135000_1, .string x135001_1, .bool false]) ?_ 0 _ rfl; (with_reducible repeat (first | refine blk_drewN ?_ _ | refine blk_drew ?_ | refine blk_alloc ?_ _)); exact BK134.out⟩, ⟨by repeat (first | (with_reducible first | exact HB.out | apply below_alloc | apply pw_below_drewN | apply below_drew1 | refine below_set ?_ GE133.out | refine below_set ?_ GE134.out) | exact HB.out)⟩⟩
                · rw [if_neg c16] at H
                  have c16b0 : (Op.bytesLess (((rd_T25 l0 x4_1).f1).toList) x135001_1.toList) = false := by simpa using c16
                  clear c16
                  have H' := Aside0.mk H
                  clear H
                  have p135 : 0 ≤ (x4_1 : Int) := of_decide_eq_true (by first | (with_reducible assumption) | assumption)
                  have q135 : x4_1 < (l0.length : Int) := of_decide_eq_true (by first | (with_reducible assumption) | assumption)
                  obtain ⟨ad135, e135, hx135_0, hx135_1, hx135_2⟩ := at_T25 HR0.out x4_1 p135 q135
                  (try rw [← Nbq9.out] at hx135_2)
                  cases e135
                  replace hx135_0 := (HB.out.cell (World.block_lt_of_cell? w _ hx135_0)).trans hx135_0
                  replace hx135_1 := (HB.out.cell (World.block_lt_of_cell? w _ hx135_1)).trans hx135_1
                  replace hx135_2 := (HB.out.cell (World.block_lt_of_cell? w _ hx135_2)).trans hx135_2
                  replace p135 := eq_true p135
                  replace q135 := eq_true q135
                  have hnb19 := NB134_133.out
                  have hnc19 := NB133_134.out
                  have hcz20_0 : wr.cell? ⟨gb134, 0, none⟩ = some (.string x135000_1) := (blk_cell BK134.out 0).trans rfl
                  have hcz20_1 : wr.cell? ⟨gb134, 1, none⟩ = some (.string x135001_1) := (blk_cell BK134.out 1).trans rfl
                  have hcz20_2 : wr.cell? ⟨gb134, 2, none⟩ = some (.bool false) := (blk_cell BK134.out 2).trans rfl
                  have hfz20_0 := blk_frozen BK134.out 0
                  have hfz20_1 := blk_frozen BK134.out 1
                  have hfz20_2 := blk_frozen BK134.out 2
                  have p136 : 0 ≤ (x4_1 : Int) := of_decide_eq_true (by first | (with_reducible assumption) | assumption)
                  have q136 : x4_1 < (l0.length : Int) := of_decide_eq_true (by first | (with_reducible assumption) | assumption)
                  obtain ⟨ad136, e136, hx136_0, hx136_1, hx136_2⟩ := at_T25 HR0.out x4_1 p136 q136
                  (try rw [← Nbq9.out] at hx136_2)
                  obtain rfl : ad135 = ad136 := (by injection e136)
                  replace hx136_0 := (HB.out.cell (World.block_lt_of_cell? w _ hx136_0)).trans hx136_0
                  replace hx136_1 := (HB.out.cell (World.block_lt_of_cell? w _ hx136_1)).trans hx136_1
                  replace hx136_2 := (HB.out.cell (World.block_lt_of_cell? w _ hx136_2)).trans hx136_2
                  replace p136 := eq_true p136
                  replace q136 := eq_true q136
                  have p137 : 0 ≤ (x4_1 : Int) := of_decide_eq_true (by first | (with_reducible assumption) | assumption)
                  have q137 : x4_1 < (l0.length : Int) := of_decide_eq_true (by first | (with_reducible assumption) | assumption)
                  obtain ⟨ad137, e137, hx137_0, hx137_1, hx137_2⟩ := at_T25 HR0.out x4_1 p137 q137
                  (try rw [← Nbq9.out] at hx137_2)
                  obtain rfl : ad135 = ad137 := (by injection e137)
                  have hn137_0 : ad135.block ≠ gb134 := Nat.ne_of_lt (Nat.lt_of_lt_of_le (by have := World.block_lt_of_cell? _ _ hx137_0; first | rwa [add_block] at this | exact this) GW134.out)
                  replace hx137_0 := (HB.out.cell (World.block_lt_of_cell? w _ hx137_0)).trans hx137_0
                  replace hx137_1 := (HB.out.cell (World.block_lt_of_cell? w _ hx137_1)).trans hx137_1
                  replace hx137_2 := (HB.out.cell (World.block_lt_of_cell? w _ hx137_2)).trans hx137_2
                  replace hx137_0 := (cell_far (p := ⟨gb134, 0, none⟩) (by first | (rw [add_block]; exact hn137_0) | (show (Addr.add _ _).block ≠ _; rw [add_block]; exact hn137_0) | exact hn137_0) (.string ((rd_T25 l0 x4_1).f0))).trans hx137_0
                  replace hx137_1 := (cell_far (p := ⟨gb134, 0, none⟩) (by first | (rw [add_block]; exact hn137_0) | (show (Addr.add _ _).block ≠ _; rw [add_block]; exact hn137_0) | exact hn137_0) (.string ((rd_T25 l0 x4_1).f0))).trans hx137_1
                  replace hx137_2 := (cell_far (p := ⟨gb134, 0, none⟩) (by first | (rw [add_block]; exact hn137_0) | (show (Addr.add _ _).block ≠ _; rw [add_block]; exact hn137_0) | exact hn137_0) (.string ((rd_T25 l0 x4_1).f0))).trans hx137_2
                  (try have hy137_0 := fun (n_ : Nat) => (show (((wr.drewN n_).setCell ⟨gb134, 0, none⟩ (.string ((rd_T25 l0 x4_1).f0)))).cell? _ = some _ from hx137_0))
                  (try have hy137_1 := fun (n_ : Nat) => (show (((wr.drewN n_).setCell ⟨gb134, 0, none⟩ (.string ((rd_T25 l0 x4_1).f0)))).cell? _ = some _ from hx137_1))
                  (try have hy137_2 := fun (n_ : Nat) => (show (((wr.drewN n_).setCell ⟨gb134, 0, none⟩ (.string ((rd_T25 l0 x4_1).f0)))).cell? _ = some _ from hx137_2))
                  clear hn137_0
                  replace p137 := eq_true p137
                  replace q137 := eq_true q137
                  have p139 : 0 ≤ (x4_1 : Int) := of_decide_eq_true (by first | (with_reducible assumption) | assumption)
                  have q139 : x4_1 < (l0.length : Int) := of_decide_eq_true (by first | (with_reducible assumption) | assumption)
                  obtain ⟨ad139, e139, hx139_0, hx139_1, hx139_2⟩ := at_T25 HR0.out x4_1 p139 q139
                  (try rw [← Nbq9.out] at hx139_2)
                  obtain rfl : ad135 = ad139 := (by injection e139)
                  have hn139_0 : ad135.block ≠ gb134 := Nat.ne_of_lt (Nat.lt_of_lt_of_le (by have := World.block_lt_of_cell? _ _ hx139_0; first | rwa [add_block] at this | exact this) GW134.out)
                  replace hx139_0 := (HB.out.cell (World.block_lt_of_cell? w _ hx139_0)).trans hx139_0
                  replace hx139_1 := (HB.out.cell (World.block_lt_of_cell? w _ hx139_1)).trans hx139_1
                  replace hx139_2 := (HB.out.cell (World.block_lt_of_cell? w _ hx139_2)).trans hx139_2
                  replace hx139_0 := (cell_far (p := ⟨gb134, 0, none⟩) (by first | (rw [add_block]; exact hn139_0) | (show (Addr.add _ _).block ≠ _; rw [add_block]; exact hn139_0) | exact hn139_0) (.string ((rd_T25 l0 x4_1).f0))).trans hx139_0
                  replace hx139_1 := (cell_far (p := ⟨gb134, 0, none⟩) (by first | (rw [add_block]; exact hn139_0) | (show (Addr.add _ _).block ≠ _; rw [add_block]; exact hn139_0) | exact hn139_0) (.string ((rd_T25 l0 x4_1).f0))).trans hx139_1
                  replace hx139_2 := (cell_far (p := ⟨gb134, 0, none⟩) (by first | (rw [add_block]; exact hn139_0) | (show (Addr.add _ _).block ≠ _; rw [add_block]; exact hn139_0) | exact hn139_0) (.string ((rd_T25 l0 x4_1).f0))).trans hx139_2
                  (try have hy139_0 := fun (n_ : Nat) => (show (((wr.drewN n_).setCell ⟨gb134, 0, none⟩ (.string ((rd_T25 l0 x4_1).f0)))).cell? _ = some _ from hx139_0))
                  (try have hy139_1 := fun (n_ : Nat) => (show (((wr.drewN n_).setCell ⟨gb134, 0, none⟩ (.string ((rd_T25 l0 x4_1).f0)))).cell? _ = some _ from hx139_1))
                  (try have hy139_2 := fun (n_ : Nat) => (show (((wr.drewN n_).setCell ⟨gb134, 0, none⟩ (.string ((rd_T25 l0 x4_1).f0)))).cell? _ = some _ from hx139_2))
                  clear hn139_0
                  replace p139 := eq_true p139
                  replace q139 := eq_true q139
                  go_wp2
                  repeat (go_quiet (fail); try go_wp2)
                  go_roundg k1
                  case measure => have := HK1.out; omega
                  case rel => exact ⟨(wrap64 (x4_1 + 1)), ((rd_T25 l0 x4_1).f0), (x135001_1), (false), (by first | rfl | (simp; done) | (simp [*]; done)), H', ⟨by have := HK1.out; omega⟩, ⟨by (with_reducible repeat (first | refine blk_drewN ?_ _ | refine blk_drew ?_ | refine blk_alloc ?_ _)); refine blk_far ?_ NB133_134.out _; (with_reducible repeat (first | refine blk_drewN ?_ _ | refine blk_drew ?_ | refine blk_alloc ?_ _)); exact BK133.out⟩, ⟨by (with_reducible repeat (first | refine blk_drewN ?_ _ | refine blk_drew ?_ | refine blk_alloc ?_ _)); refine blk_put (cs := #[.string x135000_1, .string x135001_1, .bool false]) ?_ 0 _ rfl; (with_reducible repeat (first | refine blk_drewN ?_ _ | refine blk_drew ?_ | refine blk_alloc ?_ _)); exact BK134.out⟩, ⟨by repeat (first | (with_reducible first | exact HB.out | apply below_alloc | apply pw_below_drewN | apply below_drew1 | refine below_set ?_ GE133.out | refine below_set ?_ GE134.out) | exact HB.out)⟩⟩
          · rw [if_neg c8] at H
            have c8b0 : (!Op.bytesLess (((rd_T25 l0 x4_1).f0).toList) x135000_1.toList && !((((rd_T25 l0 x4_1).f0).toList) == x135000_1.toList)) = false := by simpa using c8
            clear c8
            obtain ⟨bq21, hbq21⟩ : ∃ b_ : Bool, b_ = ((rd_T25 l0 x4_1).f2) := ⟨_, rfl⟩
            replace H : (if (bq21 = true) then (weirkeeperref03_Meet.l0 k1 l0 (wrap64 (x4_1 + 1)) x135000_1 x135001_1 x135002_1) else (if x135002_1 = true then (weirkeeperref03_Meet.l0 k1 l0 (wrap64 (x4_1 + 1)) x135000_1 ((rd_T25 l0 x4_1).f1) false) else (if (Op.bytesLess (((rd_T25 l0 x4_1).f1).toList) x135001_1.toList) = true then (weirkeeperref03_Meet.l0 k1 l0 (wrap64 (x4_1 + 1)) x135000_1 ((rd_T25 l0 x4_1).f1) false) else (weirkeeperref03_Meet.l0 k1 l0 (wrap64 (x4_1 + 1)) x135000_1 x135001_1 x135002_1)))) = some (r1, r2, r3) := by rw [← hbq21] at H; exact H
            have Nbq21 := Aside0.mk hbq21
            clear hbq21
            by_cases c22 : (bq21 = true)
            · subst c22
              have H1 : (weirkeeperref03_Meet.l0 k1 l0 (wrap64 (x4_1 + 1)) x135000_1 x135001_1 x135002_1) = some (r1, r2, r3) := by rw [if_pos rfl] at H; exact H
              clear H
              have H := H1
              clear H1
              have H' := Aside0.mk H
              clear H
              have p135 : 0 ≤ (x4_1 : Int) := of_decide_eq_true (by first | (with_reducible assumption) | assumption)
              have q135 : x4_1 < (l0.length : Int) := of_decide_eq_true (by first | (with_reducible assumption) | assumption)
              obtain ⟨ad135, e135, hx135_0, hx135_1, hx135_2⟩ := at_T25 HR0.out x4_1 p135 q135
              (try rw [← Nbq21.out] at hx135_2)
              cases e135
              replace hx135_0 := (HB.out.cell (World.block_lt_of_cell? w _ hx135_0)).trans hx135_0
              replace hx135_1 := (HB.out.cell (World.block_lt_of_cell? w _ hx135_1)).trans hx135_1
              replace hx135_2 := (HB.out.cell (World.block_lt_of_cell? w _ hx135_2)).trans hx135_2
              replace p135 := eq_true p135
              replace q135 := eq_true q135
              have hnb23 := NB134_133.out
              have hnc23 := NB133_134.out
              have hcz24_0 : wr.cell? ⟨gb134, 0, none⟩ = some (.string x135000_1) := (blk_cell BK134.out 0).trans rfl
              have hcz24_1 : wr.cell? ⟨gb134, 1, none⟩ = some (.string x135001_1) := (blk_cell BK134.out 1).trans rfl
              have hcz24_2 : wr.cell? ⟨gb134, 2, none⟩ = some (.bool x135002_1) := (blk_cell BK134.out 2).trans rfl
              have hfz24_0 := blk_frozen BK134.out 0
              have hfz24_1 := blk_frozen BK134.out 1
              have hfz24_2 := blk_frozen BK134.out 2
              have p141 : 0 ≤ (x4_1 : Int) := of_decide_eq_true (by first | (with_reducible assumption) | assumption)
              have q141 : x4_1 < (l0.length : Int) := of_decide_eq_true (by first | (with_reducible assumption) | assumption)
              obtain ⟨ad141, e141, hx141_0, hx141_1, hx141_2⟩ := at_T25 HR0.out x4_1 p141 q141
              (try rw [← Nbq21.out] at hx141_2)
              obtain rfl : ad135 = ad141 := (by injection e141)
              replace hx141_0 := (HB.out.cell (World.block_lt_of_cell? w _ hx141_0)).trans hx141_0
              replace hx141_1 := (HB.out.cell (World.block_lt_of_cell? w _ hx141_1)).trans hx141_1
              replace hx141_2 := (HB.out.cell (World.block_lt_of_cell? w _ hx141_2)).trans hx141_2
              replace p141 := eq_true p141
              replace q141 := eq_true q141
              go_wp2
              repeat (go_quiet (fail); try go_wp2)
              go_roundg k1
              case measure => have := HK1.out; omega
              case rel => exact ⟨(wrap64 (x4_1 + 1)), (x135000_1), (x135001_1), (x135002_1), (by first | rfl | (simp; done) | (simp [*]; done)), H', ⟨by have := HK1.out; omega⟩, ⟨by (with_reducible repeat (first | refine blk_drewN ?_ _ | refine blk_drew ?_ | refine blk_alloc ?_ _)); exact BK133.out⟩, ⟨by (with_reducible repeat (first | refine blk_drewN ?_ _ | refine blk_drew ?_ | refine blk_alloc ?_ _)); exact BK134.out⟩, ⟨by repeat (first | (with_reducible first | exact HB.out | apply below_alloc | apply pw_below_drewN | apply below_drew1 | refine below_set ?_ GE133.out | refine below_set ?_ GE134.out) | exact HB.out)⟩⟩
            · replace c22 := Bool.eq_false_iff.mpr c22
              subst c22
              have H1 : (if x135002_1 = true then (weirkeeperref03_Meet.l0 k1 l0 (wrap64 (x4_1 + 1)) x135000_1 ((rd_T25 l0 x4_1).f1) false) else (if (Op.bytesLess (((rd_T25 l0 x4_1).f1).toList) x135001_1.toList) = true then (weirkeeperref03_Meet.l0 k1 l0 (wrap64 (x4_1 + 1)) x135000_1 ((rd_T25 l0 x4_1).f1) false) else (weirkeeperref03_Meet.l0 k1 l0 (wrap64 (x4_1 + 1)) x135000_1 x135001_1 x135002_1))) = some (r1, r2, r3) := by rw [if_neg (show ¬ (false = true) by decide)] at H; exact H
              clear H
              have H := H1
              clear H1
              by_cases c25 : x135002_1 = true
              · subst c25
                have H1 : (weirkeeperref03_Meet.l0 k1 l0 (wrap64 (x4_1 + 1)) x135000_1 ((rd_T25 l0 x4_1).f1) false) = some (r1, r2, r3) := by rw [if_pos rfl] at H; exact H
                clear H
                have H := H1
                clear H1
                have H' := Aside0.mk H
                clear H
                have p135 : 0 ≤ (x4_1 : Int) := of_decide_eq_true (by first | (with_reducible assumption) | assumption)
                have q135 : x4_1 < (l0.length : Int) := of_decide_eq_true (by first | (with_reducible assumption) | assumption)
                obtain ⟨ad135, e135, hx135_0, hx135_1, hx135_2⟩ := at_T25 HR0.out x4_1 p135 q135
                (try rw [← Nbq21.out] at hx135_2)
                cases e135
                replace hx135_0 := (HB.out.cell (World.block_lt_of_cell? w _ hx135_0)).trans hx135_0
                replace hx135_1 := (HB.out.cell (World.block_lt_of_cell? w _ hx135_1)).trans hx135_1
                replace hx135_2 := (HB.out.cell (World.block_lt_of_cell? w _ hx135_2)).trans hx135_2
                replace p135 := eq_true p135
                replace q135 := eq_true q135
                have hnb26 := NB134_133.out
                have hnc26 := NB133_134.out
                have hcz27_0 : wr.cell? ⟨gb134, 0, none⟩ = some (.string x135000_1) := (blk_cell BK134.out 0).trans rfl
                have hcz27_1 : wr.cell? ⟨gb134, 1, none⟩ = some (.string x135001_1) := (blk_cell BK134.out 1).trans rfl
                have hcz27_2 : wr.cell? ⟨gb134, 2, none⟩ = some (.bool true) := (blk_cell BK134.out 2).trans rfl
                have hfz27_0 := blk_frozen BK134.out 0
                have hfz27_1 := blk_frozen BK134.out 1
                have hfz27_2 := blk_frozen BK134.out 2
                have p141 : 0 ≤ (x4_1 : Int) := of_decide_eq_true (by first | (with_reducible assumption) | assumption)
                have q141 : x4_1 < (l0.length : Int) := of_decide_eq_true (by first | (with_reducible assumption) | assumption)
                obtain ⟨ad141, e141, hx141_0, hx141_1, hx141_2⟩ := at_T25 HR0.out x4_1 p141 q141
                (try rw [← Nbq21.out] at hx141_2)
                obtain rfl : ad135 = ad141 := (by injection e141)
                replace hx141_0 := (HB.out.cell (World.block_lt_of_cell? w _ hx141_0)).trans hx141_0
                replace hx141_1 := (HB.out.cell (World.block_lt_of_cell? w _ hx141_1)).trans hx141_1
                replace hx141_2 := (HB.out.cell (World.block_lt_of_cell? w _ hx141_2)).trans hx141_2
                replace p141 := eq_true p141
                replace q141 := eq_true q141
                have p142 : 0 ≤ (x4_1 : Int) := of_decide_eq_true (by first | (with_reducible assumption) | assumption)
                have q142 : x4_1 < (l0.length : Int) := of_decide_eq_true (by first | (with_reducible assumption) | assumption)
                obtain ⟨ad142, e142, hx142_0, hx142_1, hx142_2⟩ := at_T25 HR0.out x4_1 p142 q142
                (try rw [← Nbq21.out] at hx142_2)
                obtain rfl : ad135 = ad142 := (by injection e142)
                replace hx142_0 := (HB.out.cell (World.block_lt_of_cell? w _ hx142_0)).trans hx142_0
                replace hx142_1 := (HB.out.cell (World.block_lt_of_cell? w _ hx142_1)).trans hx142_1
                replace hx142_2 := (HB.out.cell (World.block_lt_of_cell? w _ hx142_2)).trans hx142_2
                replace p142 := eq_true p142
                replace q142 := eq_true q142
                go_wp2
                repeat (go_quiet (fail); try go_wp2)
                go_roundg k1
                case measure => have := HK1.out; omega
                case rel => exact ⟨(wrap64 (x4_1 + 1)), (x135000_1), ((rd_T25 l0 x4_1).f1), (false), (by first | rfl | (simp; done) | (simp [*]; done)), H', ⟨by have := HK1.out; omega⟩, ⟨by (with_reducible repeat (first | refine blk_drewN ?_ _ | refine blk_drew ?_ | refine blk_alloc ?_ _)); refine blk_far ?_ NB133_134.out _; (with_reducible repeat (first | refine blk_drewN ?_ _ | refine blk_drew ?_ | refine blk_alloc ?_ _)); refine blk_far ?_ NB133_134.out _; (with_reducible repeat (first | refine blk_drewN ?_ _ | refine blk_drew ?_ | refine blk_alloc ?_ _)); exact BK133.out⟩, ⟨by (with_reducible repeat (first | refine blk_drewN ?_ _ | refine blk_drew ?_ | refine blk_alloc ?_ _)); refine blk_put (cs := #[.string x135000_1, .string ((rd_T25 l0 x4_1).f1), .bool true]) ?_ 2 _ rfl; (with_reducible repeat (first | refine blk_drewN ?_ _ | refine blk_drew ?_ | refine blk_alloc ?_ _)); refine blk_put (cs := #[.string x135000_1, .string x135001_1, .bool true]) ?_ 1 _ rfl; (with_reducible repeat (first | refine blk_drewN ?_ _ | refine blk_drew ?_ | refine blk_alloc ?_ _)); exact BK134.out⟩, ⟨by repeat (first | (with_reducible first | exact HB.out | apply below_alloc | apply pw_below_drewN | apply below_drew1 | refine below_set ?_ GE133.out | refine below_set ?_ GE134.out) | exact HB.out)⟩⟩
              · replace c25 := Bool.eq_false_iff.mpr c25
                subst c25
                have H1 : (if (Op.bytesLess (((rd_T25 l0 x4_1).f1).toList) x135001_1.toList) = true then (weirkeeperref03_Meet.l0 k1 l0 (wrap64 (x4_1 + 1)) x135000_1 ((rd_T25 l0 x4_1).f1) false) else (weirkeeperref03_Meet.l0 k1 l0 (wrap64 (x4_1 + 1)) x135000_1 x135001_1 false)) = some (r1, r2, r3) := by rw [if_neg (show ¬ (false = true) by decide)] at H; exact H
                clear H
                have H := H1
                clear H1
                by_cases c28 : (Op.bytesLess (((rd_T25 l0 x4_1).f1).toList) x135001_1.toList) = true
                · rw [if_pos c28] at H
                  have c28b0 : (Op.bytesLess (((rd_T25 l0 x4_1).f1).toList) x135001_1.toList) = true := c28
                  clear c28
                  have H' := Aside0.mk H
                  clear H
                  have p135 : 0 ≤ (x4_1 : Int) := of_decide_eq_true (by first | (with_reducible assumption) | assumption)
                  have q135 : x4_1 < (l0.length : Int) := of_decide_eq_true (by first | (with_reducible assumption) | assumption)
                  obtain ⟨ad135, e135, hx135_0, hx135_1, hx135_2⟩ := at_T25 HR0.out x4_1 p135 q135
                  (try rw [← Nbq21.out] at hx135_2)
                  cases e135
                  replace hx135_0 := (HB.out.cell (World.block_lt_of_cell? w _ hx135_0)).trans hx135_0
                  replace hx135_1 := (HB.out.cell (World.block_lt_of_cell? w _ hx135_1)).trans hx135_1
                  replace hx135_2 := (HB.out.cell (World.block_lt_of_cell? w _ hx135_2)).trans hx135_2
                  replace p135 := eq_true p135
                  replace q135 := eq_true q135
                  have hnb29 := NB134_133.out
                  have hnc29 := NB133_134.out
                  have hcz30_0 : wr.cell? ⟨gb134, 0, none⟩ = some (.string x135000_1) := (blk_cell BK134.out 0).trans rfl
                  have hcz30_1 : wr.cell? ⟨gb134, 1, none⟩ = some (.string x135001_1) := (blk_cell BK134.out 1).trans rfl
                  have hcz30_2 : wr.cell? ⟨gb134, 2, none⟩ = some (.bool false) := (blk_cell BK134.out 2).trans rfl
                  have hfz30_0 := blk_frozen BK134.out 0
                  have hfz30_1 := blk_frozen BK134.out 1
                  have hfz30_2 := blk_frozen BK134.out 2
                  have p141 : 0 ≤ (x4_1 : Int) := of_decide_eq_true (by first | (with_reducible assumption) | assumption)
                  have q141 : x4_1 < (l0.length : Int) := of_decide_eq_true (by first | (with_reducible assumption) | assumption)
                  obtain ⟨ad141, e141, hx141_0, hx141_1, hx141_2⟩ := at_T25 HR0.out x4_1 p141 q141
                  (try rw [← Nbq21.out] at hx141_2)
                  obtain rfl : ad135 = ad141 := (by injection e141)
                  replace hx141_0 := (HB.out.cell (World.block_lt_of_cell? w _ hx141_0)).trans hx141_0
                  replace hx141_1 := (HB.out.cell (World.block_lt_of_cell? w _ hx141_1)).trans hx141_1
                  replace hx141_2 := (HB.out.cell (World.block_lt_of_cell? w _ hx141_2)).trans hx141_2
                  replace p141 := eq_true p141
                  replace q141 := eq_true q141
                  have p143 : 0 ≤ (x4_1 : Int) := of_decide_eq_true (by first | (with_reducible assumption) | assumption)
                  have q143 : x4_1 < (l0.length : Int) := of_decide_eq_true (by first | (with_reducible assumption) | assumption)
                  obtain ⟨ad143, e143, hx143_0, hx143_1, hx143_2⟩ := at_T25 HR0.out x4_1 p143 q143
                  (try rw [← Nbq21.out] at hx143_2)
                  obtain rfl : ad135 = ad143 := (by injection e143)
                  replace hx143_0 := (HB.out.cell (World.block_lt_of_cell? w _ hx143_0)).trans hx143_0
                  replace hx143_1 := (HB.out.cell (World.block_lt_of_cell? w _ hx143_1)).trans hx143_1
                  replace hx143_2 := (HB.out.cell (World.block_lt_of_cell? w _ hx143_2)).trans hx143_2
                  replace p143 := eq_true p143
                  replace q143 := eq_true q143
                  have p144 : 0 ≤ (x4_1 : Int) := of_decide_eq_true (by first | (with_reducible assumption) | assumption)
                  have q144 : x4_1 < (l0.length : Int) := of_decide_eq_true (by first | (with_reducible assumption) | assumption)
                  obtain ⟨ad144, e144, hx144_0, hx144_1, hx144_2⟩ := at_T25 HR0.out x4_1 p144 q144
                  (try rw [← Nbq21.out] at hx144_2)
                  obtain rfl : ad135 = ad144 := (by injection e144)
                  replace hx144_0 := (HB.out.cell (World.block_lt_of_cell? w _ hx144_0)).trans hx144_0
                  replace hx144_1 := (HB.out.cell (World.block_lt_of_cell? w _ hx144_1)).trans hx144_1
                  replace hx144_2 := (HB.out.cell (World.block_lt_of_cell? w _ hx144_2)).trans hx144_2
                  replace p144 := eq_true p144
                  replace q144 := eq_true q144
                  go_wp2
                  repeat (go_quiet (fail); try go_wp2)
                  go_roundg k1
                  case measure => have := HK1.out; omega
                  case rel => exact ⟨(wrap64 (x4_1 + 1)), (x135000_1), ((rd_T25 l0 x4_1).f1), (false), (by first | rfl | (simp; done) | (simp [*]; done)), H', ⟨by have := HK1.out; omega⟩, ⟨by (with_reducible repeat (first | refine blk_drewN ?_ _ | refine blk_drew ?_ | refine blk_alloc ?_ _)); refine blk_far ?_ NB133_134.out _; (with_reducible repeat (first | refine blk_drewN ?_ _ | refine blk_drew ?_ | refine blk_alloc ?_ _)); refine blk_far ?_ NB133_134.out _; (with_reducible repeat (first | refine blk_drewN ?_ _ | refine blk_drew ?_ | refine blk_alloc ?_ _)); exact BK133.out⟩, ⟨by (with_reducible repeat (first | refine blk_drewN ?_ _ | refine blk_drew ?_ | refine blk_alloc ?_ _)); refine blk_put (cs := #[.string x135000_1, .string ((rd_T25 l0 x4_1).f1), .bool false]) ?_ 2 _ rfl; (with_reducible repeat (first | refine blk_drewN ?_ _ | refine blk_drew ?_ | refine blk_alloc ?_ _)); refine blk_put (cs := #[.string x135000_1, .string x135001_1, .bool false]) ?_ 1 _ rfl; (with_reducible repeat (first | refine blk_drewN ?_ _ | refine blk_drew ?_ | refine blk_alloc ?_ _)); exact BK134.out⟩, ⟨by repeat (first | (with_reducible first | exact HB.out | apply below_alloc | apply pw_below_drewN | apply below_drew1 | refine below_set ?_ GE133.out | refine below_set ?_ GE134.out) | exact HB.out)⟩⟩
                · rw [if_neg c28] at H
                  have c28b0 : (Op.bytesLess (((rd_T25 l0 x4_1).f1).toList) x135001_1.toList) = false := by simpa using c28
                  clear c28
                  have H' := Aside0.mk H
                  clear H
                  have p135 : 0 ≤ (x4_1 : Int) := of_decide_eq_true (by first | (with_reducible assumption) | assumption)
                  have q135 : x4_1 < (l0.length : Int) := of_decide_eq_true (by first | (with_reducible assumption) | assumption)
                  obtain ⟨ad135, e135, hx135_0, hx135_1, hx135_2⟩ := at_T25 HR0.out x4_1 p135 q135
                  (try rw [← Nbq21.out] at hx135_2)
                  cases e135
                  replace hx135_0 := (HB.out.cell (World.block_lt_of_cell? w _ hx135_0)).trans hx135_0
                  replace hx135_1 := (HB.out.cell (World.block_lt_of_cell? w _ hx135_1)).trans hx135_1
                  replace hx135_2 := (HB.out.cell (World.block_lt_of_cell? w _ hx135_2)).trans hx135_2
                  replace p135 := eq_true p135
                  replace q135 := eq_true q135
                  have hnb31 := NB134_133.out
                  have hnc31 := NB133_134.out
                  have hcz32_0 : wr.cell? ⟨gb134, 0, none⟩ = some (.string x135000_1) := (blk_cell BK134.out 0).trans rfl
                  have hcz32_1 : wr.cell? ⟨gb134, 1, none⟩ = some (.string x135001_1) := (blk_cell BK134.out 1).trans rfl
                  have hcz32_2 : wr.cell? ⟨gb134, 2, none⟩ = some (.bool false) := (blk_cell BK134.out 2).trans rfl
                  have hfz32_0 := blk_frozen BK134.out 0
                  have hfz32_1 := blk_frozen BK134.out 1
                  have hfz32_2 := blk_frozen BK134.out 2
                  have p141 : 0 ≤ (x4_1 : Int) := of_decide_eq_true (by first | (with_reducible assumption) | assumption)
                  have q141 : x4_1 < (l0.length : Int) := of_decide_eq_true (by first | (with_reducible assumption) | assumption)
                  obtain ⟨ad141, e141, hx141_0, hx141_1, hx141_2⟩ := at_T25 HR0.out x4_1 p141 q141
                  (try rw [← Nbq21.out] at hx141_2)
                  obtain rfl : ad135 = ad141 := (by injection e141)
                  replace hx141_0 := (HB.out.cell (World.block_lt_of_cell? w _ hx141_0)).trans hx141_0
                  replace hx141_1 := (HB.out.cell (World.block_lt_of_cell? w _ hx141_1)).trans hx141_1
                  replace hx141_2 := (HB.out.cell (World.block_lt_of_cell? w _ hx141_2)).trans hx141_2
                  replace p141 := eq_true p141
                  replace q141 := eq_true q141
                  have p143 : 0 ≤ (x4_1 : Int) := of_decide_eq_true (by first | (with_reducible assumption) | assumption)
                  have q143 : x4_1 < (l0.length : Int) := of_decide_eq_true (by first | (with_reducible assumption) | assumption)
                  obtain ⟨ad143, e143, hx143_0, hx143_1, hx143_2⟩ := at_T25 HR0.out x4_1 p143 q143
                  (try rw [← Nbq21.out] at hx143_2)
                  obtain rfl : ad135 = ad143 := (by injection e143)
                  replace hx143_0 := (HB.out.cell (World.block_lt_of_cell? w _ hx143_0)).trans hx143_0
                  replace hx143_1 := (HB.out.cell (World.block_lt_of_cell? w _ hx143_1)).trans hx143_1
                  replace hx143_2 := (HB.out.cell (World.block_lt_of_cell? w _ hx143_2)).trans hx143_2
                  replace p143 := eq_true p143
                  replace q143 := eq_true q143
                  go_wp2
                  repeat (go_quiet (fail); try go_wp2)
                  go_roundg k1
                  case measure => have := HK1.out; omega
                  case rel => exact ⟨(wrap64 (x4_1 + 1)), (x135000_1), (x135001_1), (false), (by first | rfl | (simp; done) | (simp [*]; done)), H', ⟨by have := HK1.out; omega⟩, ⟨by (with_reducible repeat (first | refine blk_drewN ?_ _ | refine blk_drew ?_ | refine blk_alloc ?_ _)); exact BK133.out⟩, ⟨by (with_reducible repeat (first | refine blk_drewN ?_ _ | refine blk_drew ?_ | refine blk_alloc ?_ _)); exact BK134.out⟩, ⟨by repeat (first | (with_reducible first | exact HB.out | apply below_alloc | apply pw_below_drewN | apply below_drew1 | refine below_set ?_ GE133.out | refine below_set ?_ GE134.out) | exact HB.out)⟩⟩
        · rw [if_neg c7] at H
          exact absurd H (by simp)
      · rw [if_neg c6] at H
        have c6b0 : decide (x4_1 < (l0.length : Int)) = false := decide_eq_false c6
        clear c6
        simp only [Option.some.injEq, Prod.mk.injEq] at H
        obtain ⟨rfl, rfl, rfl⟩ := H
        have hnb33 := NB134_133.out
        have hnc33 := NB133_134.out
        have hcz34_0 : wr.cell? ⟨gb134, 0, none⟩ = some (.string x135000_1) := (blk_cell BK134.out 0).trans rfl
        have hcz34_1 : wr.cell? ⟨gb134, 1, none⟩ = some (.string x135001_1) := (blk_cell BK134.out 1).trans rfl
        have hcz34_2 : wr.cell? ⟨gb134, 2, none⟩ = some (.bool x135002_1) := (blk_cell BK134.out 2).trans rfl
        have hfz34_0 := blk_frozen BK134.out 0
        have hfz34_1 := blk_frozen BK134.out 1
        have hfz34_2 := blk_frozen BK134.out 2
        have hcz35_0 : wr.cell? ⟨gb133, 0, none⟩ = some (.string (⟨#[]⟩ : ByteArray)) := (blk_cell BK133.out 0).trans rfl
        have hcz35_1 : wr.cell? ⟨gb133, 1, none⟩ = some (.string (⟨#[]⟩ : ByteArray)) := (blk_cell BK133.out 1).trans rfl
        have hcz35_2 : wr.cell? ⟨gb133, 2, none⟩ = some (.bool false) := (blk_cell BK133.out 2).trans rfl
        have hfz35_0 := blk_frozen BK133.out 0
        have hfz35_1 := blk_frozen BK133.out 1
        have hfz35_2 := blk_frozen BK133.out 2
        go_wp2
        repeat (go_quiet (fail); try go_wp2)
        refine bodyPost_ret (results_cell_row rfl _ _ gb133 25 #[.string x135000_1, .string x135001_1, .bool x135002_1] (0, 0) _ rfl (by (with_reducible repeat (first | refine blk_drewN ?_ _ | refine blk_drew ?_ | refine blk_alloc ?_ _)); refine blk_put (cs := #[.string x135000_1, .string x135001_1, .bool false]) ?_ 2 _ rfl; (with_reducible repeat (first | refine blk_drewN ?_ _ | refine blk_drew ?_ | refine blk_alloc ?_ _)); refine blk_put (cs := #[.string x135000_1, .string (⟨#[]⟩ : ByteArray), .bool false]) ?_ 1 _ rfl; (with_reducible repeat (first | refine blk_drewN ?_ _ | refine blk_drew ?_ | refine blk_alloc ?_ _)); refine blk_put (cs := #[.string (⟨#[]⟩ : ByteArray), .string (⟨#[]⟩ : ByteArray), .bool false]) ?_ 0 _ rfl; (with_reducible repeat (first | refine blk_drewN ?_ _ | refine blk_drew ?_ | refine blk_alloc ?_ _)); exact BK133.out) Try.underlying25 rfl (by kernel_rfl)) rfl ?_
        exact ⟨by first | rfl | (simp [errW_none, errW_some] <;> rfl) | (simp [*, errW_none, errW_some] <;> rfl), by repeat (first | (with_reducible first | exact HB.out | apply below_alloc | apply pw_below_drewN | apply below_drew1 | refine below_set ?_ GE133.out | refine below_set ?_ GE134.out) | exact HB.out)⟩

end Go.Proofs.Ytbfhojfeolejlaa.X
