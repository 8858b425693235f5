-- Written by a program of this session (wip/tools/xprint.py) out of the translation. Not trusted: Lean checks it.
import Derived.Test.YtbfhojfeolejlaaXx0
import Derived.Test.YtbfhojfeolejlaaXx3
namespace Go.Proofs.Ytbfhojfeolejlaa.X
open Go.RowKit Go.Proofs.YtbfhojfeolejlaaW.PrintWords Go.Proofs.YtbfhojfeolejlaaW.PrintLast Go.Proofs.YtbfhojfeolejlaaW.PrintMore
attribute [local go_sem] max2_int min2_int max_two min_two max_three min_three max_four min_four max2_str min2_str   -- for this text's walks alone
set_option linter.unusedVariables false
set_option linter.unusedSimpArgs false

/-! ### weirkeeperlaw03_StretchWithin_v2: function 4 -/
mutual
def weirkeeperlaw03_StretchWithin_v2.j0 : Nat → ByteArray → ByteArray → Bool → ByteArray → ByteArray → Bool → ByteArray → ByteArray → Bool → ByteArray → ByteArray → Bool → Option (Bool)
  | 0, _, _, _, _, _, _, _, _, _, _, _, _ => none
  | k + 1, x3, x4, x35, x245000, x245001, x245002, x246000, x246001, x246002, x247000, x247001, x247002 => if x35 = true then (none) else ((stretch_Within.f x245000 x245001 x245002 x246000 x246001 x246002).bind fun t251 => (if t251 = true then ((stretch_Within.f x246000 x246001 x246002 x247000 x247001 x247002).bind fun t252 => (if t252 = true then ((stretch_Within.f x245000 x245001 x245002 x247000 x247001 x247002).bind fun t253 => (if t253 = true then ((stretch_Within.f x245000 x245001 x245002 x246000 x246001 x246002).bind fun t254 => (if t254 = true then ((stretch_In.f x245000 x245001 x245002 x3).bind fun t255 => (if t255 = true then ((stretch_In.f x246000 x246001 x246002 x3).bind fun t256 => (weirkeeperlaw03_StretchWithin_v2.j1 k x3 x4 (!t256) x245000 x245001 x245002 x246000 x246001 x246002)) else (weirkeeperlaw03_StretchWithin_v2.j1 k x3 x4 false x245000 x245001 x245002 x246000 x246001 x246002))) else (none))) else (none))) else ((stretch_Within.f x245000 x245001 x245002 x246000 x246001 x246002).bind fun t257 => (if t257 = true then ((stretch_In.f x245000 x245001 x245002 x3).bind fun t258 => (if t258 = true then ((stretch_In.f x246000 x246001 x246002 x3).bind fun t259 => (weirkeeperlaw03_StretchWithin_v2.j1 k x3 x4 (!t259) x245000 x245001 x245002 x246000 x246001 x246002)) else (weirkeeperlaw03_StretchWithin_v2.j1 k x3 x4 false x245000 x245001 x245002 x246000 x246001 x246002))) else (none))))) else ((stretch_Within.f x245000 x245001 x245002 x246000 x246001 x246002).bind fun t260 => (if t260 = true then (none) else (weirkeeperlaw03_StretchWithin_v2.j1 k x3 x4 false x245000 x245001 x245002 x246000 x246001 x246002)))))
def weirkeeperlaw03_StretchWithin_v2.j1 : Nat → ByteArray → ByteArray → Bool → ByteArray → ByteArray → Bool → ByteArray → ByteArray → Bool → Option (Bool)
  | 0, _, _, _, _, _, _, _, _, _ => none
  | k + 1, x3, x4, x66, x245000, x245001, x245002, x246000, x246001, x246002 => if x66 = true then (none) else ((stretch_Meet.f k (([(⟨x245000, x245001, x245002⟩ : S25), (⟨x246000, x246001, x246002⟩ : S25)] : List (S25)))).bind fun bt266 => ((stretch_Behind.f x245000 x245001 x245002 x3).bind fun bt270 => ((stretch_Within.f bt266.1 bt266.2.1 bt266.2.2 x245000 x245001 x245002).bind fun t274 => (if t274 = true then ((stretch_Within.f bt266.1 bt266.2.1 bt266.2.2 x246000 x246001 x246002).bind fun t275 => (if t275 = true then ((stretch_In.f bt270.1 bt270.2.1 bt270.2.2 x4).bind fun t276 => ((stretch_In.f x245000 x245001 x245002 x4).bind fun t277 => (if t277 = true then (none) else (if (t276 == false) = true then ((stretch_Empty.f x245000 x245001 x245002).bind fun t282 => (if t282 = true then ((stretch_In.f x245000 x245001 x245002 x3).bind fun t283 => (if t283 = true then (none) else ((weirkeeperlaw03_awake.f k).bind fun t284 => (some t284)))) else ((weirkeeperlaw03_awake.f k).bind fun t285 => (some t285)))) else (none))))) else (none))) else (none)))))
end
def weirkeeperlaw03_StretchWithin_v2.f (k : Nat) (a0_0 : ByteArray) (a0_1 : ByteArray) (a0_2 : Bool) (a1_0 : ByteArray) (a1_1 : ByteArray) (a1_2 : Bool) (a2_0 : ByteArray) (a2_1 : ByteArray) (a2_2 : Bool) (a3 : ByteArray) (a4 : ByteArray) : Option (Bool) := (weirkeeperlaw03_small.f a0_0 a0_1 a0_2).bind fun t247 => (if t247 = true then ((weirkeeperlaw03_small.f a1_0 a1_1 a1_2).bind fun t248 => (if t248 = true then ((weirkeeperlaw03_small.f a2_0 a2_1 a2_2).bind fun t249 => (if t249 = true then (if (a3.size : Int) > 300 then (none) else (weirkeeperlaw03_StretchWithin_v2.j0 k a3 a4 (decide ((a4.size : Int) > 300)) a0_0 a0_1 a0_2 a1_0 a1_1 a1_2 a2_0 a2_1 a2_2)) else (none))) else (none))) else (none))
theorem weirkeeperlaw03_StretchWithin_v2.mono_l : ∀ k, (∀ y0 y1 y2 y3 y4 y5 y6 y7 y8 y9 y10 y11, LeO (weirkeeperlaw03_StretchWithin_v2.j0 k y0 y1 y2 y3 y4 y5 y6 y7 y8 y9 y10 y11) (weirkeeperlaw03_StretchWithin_v2.j0 (k + 1) y0 y1 y2 y3 y4 y5 y6 y7 y8 y9 y10 y11)) ∧ (∀ y0 y1 y2 y3 y4 y5 y6 y7 y8, LeO (weirkeeperlaw03_StretchWithin_v2.j1 k y0 y1 y2 y3 y4 y5 y6 y7 y8) (weirkeeperlaw03_StretchWithin_v2.j1 (k + 1) y0 y1 y2 y3 y4 y5 y6 y7 y8))
  | 0 => ⟨fun _ _ _ _ _ _ _ _ _ _ _ _ r h => by simp [weirkeeperlaw03_StretchWithin_v2.j0] at h, fun _ _ _ _ _ _ _ _ _ r h => by simp [weirkeeperlaw03_StretchWithin_v2.j1] at h⟩
  | k + 1 => by
    obtain ⟨ih0, ih1⟩ := weirkeeperlaw03_StretchWithin_v2.mono_l k
    refine ⟨?_, ?_⟩
    · intro y0 y1 y2 y3 y4 y5 y6 y7 y8 y9 y10 y11
      unfold weirkeeperlaw03_StretchWithin_v2.j0
      repeat' first
      | (with_reducible exact ih0 _ _ _ _ _ _ _ _ _ _ _ _)
      | (with_reducible exact ih1 _ _ _ _ _ _ _ _ _)
      | (with_reducible exact stretch_Meet.mono _ _)
      | (with_reducible exact weirkeeperlaw03_awake.mono _)
      | (with_reducible exact LeO.refl _)
      | (with_reducible exact LeO.none _)
      | (with_reducible refine LeO.ite ?_ ?_)
      | (with_reducible refine LeO.bind ?_ (fun _ => ?_))
      | exact ih0 _ _ _ _ _ _ _ _ _ _ _ _
      | exact ih1 _ _ _ _ _ _ _ _ _
      | exact stretch_Meet.mono _ _
      | exact weirkeeperlaw03_awake.mono _
      | exact LeO.none _
      | refine LeO.ite ?_ ?_
      | refine LeO.bind ?_ (fun _ => ?_)
    · intro y0 y1 y2 y3 y4 y5 y6 y7 y8
      unfold weirkeeperlaw03_StretchWithin_v2.j1
      repeat' first
      | (with_reducible exact ih0 _ _ _ _ _ _ _ _ _ _ _ _)
      | (with_reducible exact ih1 _ _ _ _ _ _ _ _ _)
      | (with_reducible exact stretch_Meet.mono _ _)
      | (with_reducible exact weirkeeperlaw03_awake.mono _)
      | (with_reducible exact LeO.refl _)
      | (with_reducible exact LeO.none _)
      | (with_reducible refine LeO.ite ?_ ?_)
      | (with_reducible refine LeO.bind ?_ (fun _ => ?_))
      | exact ih0 _ _ _ _ _ _ _ _ _ _ _ _
      | exact ih1 _ _ _ _ _ _ _ _ _
      | exact stretch_Meet.mono _ _
      | exact weirkeeperlaw03_awake.mono _
      | exact LeO.none _
      | refine LeO.ite ?_ ?_
      | refine LeO.bind ?_ (fun _ => ?_)
theorem weirkeeperlaw03_StretchWithin_v2.mono : ∀ a0 a1 a2 a3 a4 a5 a6 a7 a8 a9 a10 k, LeO (weirkeeperlaw03_StretchWithin_v2.f k a0 a1 a2 a3 a4 a5 a6 a7 a8 a9 a10) (weirkeeperlaw03_StretchWithin_v2.f (k + 1) a0 a1 a2 a3 a4 a5 a6 a7 a8 a9 a10) := by
  intro a0 a1 a2 a3 a4 a5 a6 a7 a8 a9 a10 k
  obtain ⟨ih0, ih1⟩ := weirkeeperlaw03_StretchWithin_v2.mono_l k
  unfold weirkeeperlaw03_StretchWithin_v2.f
  repeat' first
      | (with_reducible exact ih0 _ _ _ _ _ _ _ _ _ _ _ _)
      | (with_reducible exact ih1 _ _ _ _ _ _ _ _ _)
      | (with_reducible exact stretch_Meet.mono _ _)
      | (with_reducible exact weirkeeperlaw03_awake.mono _)
      | (with_reducible exact LeO.refl _)
      | (with_reducible exact LeO.none _)
      | (with_reducible refine LeO.ite ?_ ?_)
      | (with_reducible refine LeO.bind ?_ (fun _ => ?_))
      | exact ih0 _ _ _ _ _ _ _ _ _ _ _ _
      | exact ih1 _ _ _ _ _ _ _ _ _
      | exact stretch_Meet.mono _ _
      | exact weirkeeperlaw03_awake.mono _
      | exact LeO.none _
      | refine LeO.ite ?_ ?_
      | refine LeO.bind ?_ (fun _ => ?_)
def weirkeeperlaw03_StretchWithin_v2.T7 : Bool × List (List Nat × List Nat) := (true, [([], []), ([], []), ([0, 1], [0, 1]), ([2, 2], [2]), ([3], [3]), ([3], [3]), ([4, 5, 3, 3], [3, 4, 5]), ([3, 6], [3, 6]), ([7, 6], [7]), ([8], [8]), ([8], [8]), ([9, 10, 8, 8], [8, 9, 10]), ([8], [8]), ([8], [8]), ([12, 13, 11, 8], [8, 12, 13]), ([14, 14, 8], [8, 14]), ([15], [15]), ([15], [15]), ([16, 17, 15], [15, 16, 17]), ([15, 18, 8], [8, 15, 18]), ([11, 19, 8], [8, 11, 19]), ([8, 20], [8, 20]), ([21, 15], [21]), ([22], [22]), ([23, 22, 22], [22, 23]), ([24, 22], [22, 24]), ([25, 24, 22], [22, 25]), ([26], [26]), ([26], [26]), ([27, 28, 26, 26], [26, 27, 28]), ([29, 26], [26, 29]), ([26, 30, 22], [22, 26, 30]), ([22, 31], [22, 31]), ([32, 29], [32]), ([33, 33], [33]), ([33, 34], [33, 34]), ([35, 34, 0, 1, 2, 3, 4, 5, 6, 7, 8, 9, 10, 11, 12, 13, 14, 15, 16, 17, 18, 19, 20, 21, 22, 23, 24, 25, 26, 27, 28, 29, 30, 31, 32, 33, 34, 35], [35])])
def weirkeeperlaw03_StretchWithin_v2.B7 : List Nat := [0, 0, 3, 7, 15, 15, 63, 127, 255, 511, 511, 2047, 511, 511, 16383, 32767, 65535, 65535, 262143, 524287, 1048575, 2097151, 4194303, 8388607, 16777215, 33554431, 67108863, 134217727, 134217727, 536870911, 1073741823, 2147483647, 4294967295, 8589934591, 17179869183, 34359738367, 68719476735]
theorem weirkeeperlaw03_StretchWithin_v2.tab7 : rtab .any (opsOf Try.f4 7) = weirkeeperlaw03_StretchWithin_v2.T7 := by kernel_rfl
theorem weirkeeperlaw03_StretchWithin_v2.bits7 : waitsOk weirkeeperlaw03_StretchWithin_v2.T7.2 weirkeeperlaw03_StretchWithin_v2.B7 = true := by kernel_rfl
set_option maxHeartbeats 8000000 in
set_option maxRecDepth 100000 in
theorem weirkeeperlaw03_StretchWithin_v2.calls (k : Nat) (a0_0 : ByteArray) (a0_1 : ByteArray) (a0_2 : Bool) (a1_0 : ByteArray) (a1_1 : ByteArray) (a1_2 : Bool) (a2_0 : ByteArray) (a2_1 : ByteArray) (a2_2 : Bool) (a3 : ByteArray) (a4 : ByteArray) (r : Bool) (w : World) (h : weirkeeperlaw03_StretchWithin_v2.f k a0_0 a0_1 a0_2 a1_0 a1_1 a1_2 a2_0 a2_1 a2_2 a3 a4 = some r) :
    Calls Try.prog 4 #[.agg #[.string a0_0, .string a0_1, .bool a0_2], .agg #[.string a1_0, .string a1_1, .bool a1_2], .agg #[.string a2_0, .string a2_1, .bool a2_2], .string a3, .string a4] w fun e w' => e = .returned (.bool r) ∧ Below w.heap.size w w' := by
  have hu25 := Try.underlying25
  have HB := Aside0.mk (Below.refl w.heap.size w)
  have H : ((weirkeeperlaw03_small.f a0_0 a0_1 a0_2).bind fun t247 => (if t247 = true then ((weirkeeperlaw03_small.f a1_0 a1_1 a1_2).bind fun t248 => (if t248 = true then ((weirkeeperlaw03_small.f a2_0 a2_1 a2_2).bind fun t249 => (if t249 = true then (if (a3.size : Int) > 300 then (none) else (weirkeeperlaw03_StretchWithin_v2.j0 k a3 a4 (decide ((a4.size : Int) > 300)) a0_0 a0_1 a0_2 a1_0 a1_1 a1_2 a2_0 a2_1 a2_2)) else (none))) else (none))) else (none))) = some r := h
  clear h
  have HC6 := Aside0.mk H
  clear H
  go_enter Try.func4, Try.ntmps4
  go_upto_region 1 with (first | ((with_reducible refine gate_dst (N := 5) rfl ?_); (try (refine gate_guard (by rfl) ?_; dsimp only)); refine box_event ?hg (N := 5) ?hd (cs := #[.string a0_0, .string a0_1, .bool a0_2]) (t := 25) ?hr ?_; (case hd => rfl); (case hg => rfl); (case hr => first | (go_simp; done) | (go_simp; rfl)); intro gb244 hg w7 hbox hb; have n0_ := Aside0.mk (below_step (by repeat (first | (with_reducible first | exact HB.out | apply below_alloc | apply pw_below_drewN | apply below_drew1) | exact HB.out)) hb); have n1_ := Aside0.mk (hbox); have n2_ := Aside0.mk ((by rw [hg]; exact (below_size (by repeat (first | (with_reducible first | exact HB.out | apply below_alloc | apply pw_below_drewN | apply below_drew1) | exact HB.out))) : w.heap.size ≤ gb244)); have n3_ := Aside0.mk ((by rw [hg]; exact (below_size (by repeat (first | (with_reducible first | exact HB.out | apply below_alloc | apply pw_below_drewN | apply below_drew1) | exact HB.out))) : w.heap.size ≤ gb244)); clear HB; have HB := n0_; have BK244 := n1_; have GW244 := n2_; have GE244 := n3_; clear n0_ n1_ n2_ n3_; clear hb hbox hg) | ((with_reducible refine gate_dst (N := 6) rfl ?_); (try (refine gate_guard (by rfl) ?_; dsimp only)); refine box_event ?hg (N := 6) ?hd (cs := #[.string a1_0, .string a1_1, .bool a1_2]) (t := 25) ?hr ?_; (case hd => rfl); (case hg => rfl); (case hr => first | (go_simp; done) | (go_simp; rfl)); intro gb245 hg w8 hbox hb; have n0_ := Aside0.mk (blk_below (g := gb244) (o := .cells #[.string a0_0, .string a0_1, .bool a0_2] 25 (0, 0)) (by (with_reducible repeat (first | refine blk_drewN ?_ _ | refine blk_drew ?_ | refine blk_alloc ?_ _)); exact BK244.out) hb); have n1_ := Aside0.mk (below_step (by repeat (first | (with_reducible first | exact HB.out | apply below_alloc | apply pw_below_drewN | apply below_drew1 | refine below_set ?_ GE244.out) | exact HB.out)) hb); have n2_ := Aside0.mk (hbox); have n3_ := Aside0.mk ((by rw [hg]; exact (below_size (by repeat (first | (with_reducible first | exact HB.out | apply below_alloc | apply pw_below_drewN | apply below_drew1 | refine below_set ?_ GE244.out) | exact HB.out))) : w.heap.size ≤ gb245)); have n4_ := Aside0.mk ((by rw [hg]; exact (below_size (by repeat (first | (with_reducible first | exact HB.out | apply below_alloc | apply pw_below_drewN | apply below_drew1 | refine below_set ?_ GE244.out) | exact HB.out))) : w.heap.size ≤ gb245)); have n5_ := Aside0.mk ((by rw [hg]; exact Nat.ne_of_lt (blk_lt (g := gb244) (o := .cells #[.string a0_0, .string a0_1, .bool a0_2] 25 (0, 0)) (by (with_reducible repeat (first | refine blk_drewN ?_ _ | refine blk_drew ?_ | refine blk_alloc ?_ _)); exact BK244.out)) : gb244 ≠ gb245)); have n6_ := Aside0.mk ((by rw [hg]; exact Nat.ne_of_gt (blk_lt (g := gb244) (o := .cells #[.string a0_0, .string a0_1, .bool a0_2] 25 (0, 0)) (by (with_reducible repeat (first | refine blk_drewN ?_ _ | refine blk_drew ?_ | refine blk_alloc ?_ _)); exact BK244.out)) : gb245 ≠ gb244)); clear BK244; clear HB; have BK244 := n0_; have HB := n1_; have BK245 := n2_; have GW245 := n3_; have GE245 := n4_; have NB244_245 := n5_; have NB245_244 := n6_; clear n0_ n1_ n2_ n3_ n4_ n5_ n6_; clear hb hbox hg) | ((with_reducible refine gate_dst (N := 7) rfl ?_); (try (refine gate_guard (by rfl) ?_; dsimp only)); refine box_event ?hg (N := 7) ?hd (cs := #[.string a2_0, .string a2_1, .bool a2_2]) (t := 25) ?hr ?_; (case hd => rfl); (case hg => rfl); (case hr => first | (go_simp; done) | (go_simp; rfl)); intro gb246 hg w9 hbox hb; have n0_ := Aside0.mk (blk_below (g := gb244) (o := .cells #[.string a0_0, .string a0_1, .bool a0_2] 25 (0, 0)) (by (with_reducible repeat (first | refine blk_drewN ?_ _ | refine blk_drew ?_ | refine blk_alloc ?_ _)); exact BK244.out) hb); have n1_ := Aside0.mk (blk_below (g := gb245) (o := .cells #[.string a1_0, .string a1_1, .bool a1_2] 25 (0, 0)) (by (with_reducible repeat (first | refine blk_drewN ?_ _ | refine blk_drew ?_ | refine blk_alloc ?_ _)); exact BK245.out) hb); have n2_ := Aside0.mk (below_step (by repeat (first | (with_reducible first | exact HB.out | apply below_alloc | apply pw_below_drewN | apply below_drew1 | refine below_set ?_ GE244.out | refine below_set ?_ GE245.out) | exact HB.out)) hb); have n3_ := Aside0.mk (hbox); have n4_ := Aside0.mk ((by rw [hg]; exact (below_size (by repeat (first | (with_reducible first | exact HB.out | apply below_alloc | apply pw_below_drewN | apply below_drew1 | refine below_set ?_ GE244.out | refine below_set ?_ GE245.out) | exact HB.out))) : w.heap.size ≤ gb246)); have n5_ := Aside0.mk ((by rw [hg]; exact (below_size (by repeat (first | (with_reducible first | exact HB.out | apply below_alloc | apply pw_below_drewN | apply below_drew1 | refine below_set ?_ GE244.out | refine below_set ?_ GE245.out) | exact HB.out))) : w.heap.size ≤ gb246)); have n6_ := Aside0.mk ((by rw [hg]; exact Nat.ne_of_lt (blk_lt (g := gb244) (o := .cells #[.string a0_0, .string a0_1, .bool a0_2] 25 (0, 0)) (by (with_reducible repeat (first | refine blk_drewN ?_ _ | refine blk_drew ?_ | refine blk_alloc ?_ _)); exact BK244.out)) : gb244 ≠ gb246)); have n7_ := Aside0.mk ((by rw [hg]; exact Nat.ne_of_gt (blk_lt (g := gb244) (o := .cells #[.string a0_0, .string a0_1, .bool a0_2] 25 (0, 0)) (by (with_reducible repeat (first | refine blk_drewN ?_ _ | refine blk_drew ?_ | refine blk_alloc ?_ _)); exact BK244.out)) : gb246 ≠ gb244)); have n8_ := Aside0.mk ((by rw [hg]; exact Nat.ne_of_lt (blk_lt (g := gb245) (o := .cells #[.string a1_0, .string a1_1, .bool a1_2] 25 (0, 0)) (by (with_reducible repeat (first | refine blk_drewN ?_ _ | refine blk_drew ?_ | refine blk_alloc ?_ _)); exact BK245.out)) : gb245 ≠ gb246)); have n9_ := Aside0.mk ((by rw [hg]; exact Nat.ne_of_gt (blk_lt (g := gb245) (o := .cells #[.string a1_0, .string a1_1, .bool a1_2] 25 (0, 0)) (by (with_reducible repeat (first | refine blk_drewN ?_ _ | refine blk_drew ?_ | refine blk_alloc ?_ _)); exact BK245.out)) : gb246 ≠ gb245)); clear BK244; clear BK245; clear HB; have BK244 := n0_; have BK245 := n1_; have HB := n2_; have BK246 := n3_; have GW246 := n4_; have GE246 := n5_; have NB244_246 := n6_; have NB246_244 := n7_; have NB245_246 := n8_; have NB246_245 := n9_; clear n0_ n1_ n2_ n3_ n4_ n5_ n6_ n7_ n8_ n9_; clear hb hbox hg))
  (try simp only [Act.put, List.setIfInBounds_toArray, List.set_cons_zero, List.set_cons_succ])
  go_cut [35] (fun v35 wc => ∃ (kq : Nat) (x35_5 : Bool), v35 = .bool x35_5 ∧ Aside0 (weirkeeperlaw03_StretchWithin_v2.j0 kq a3 a4 x35_5 a0_0 a0_1 a0_2 a1_0 a1_1 a1_2 a2_0 a2_1 a2_2 = some r) ∧ Aside0 (kq ≤ k) ∧ Aside0 (wc.heap[gb244]? = some (.cells #[.string a0_0, .string a0_1, .bool a0_2] 25 (0, 0))) ∧ Aside0 (wc.heap[gb245]? = some (.cells #[.string a1_0, .string a1_1, .bool a1_2] 25 (0, 0))) ∧ Aside0 (wc.heap[gb246]? = some (.cells #[.string a2_0, .string a2_1, .bool a2_2] 25 (0, 0))) ∧ Aside0 (Below w.heap.size w wc))
  case first =>
    have H := HC6.out
    clear HC6
    replace H := Option.bind_eq_some_iff.mp H
    obtain ⟨t247, A100, H⟩ := H
    replace H : (if t247 = true then ((weirkeeperlaw03_small.f a1_0 a1_1 a1_2).bind fun t248 => (if t248 = true then ((weirkeeperlaw03_small.f a2_0 a2_1 a2_2).bind fun t249 => (if t249 = true then (if (a3.size : Int) > 300 then (none) else (weirkeeperlaw03_StretchWithin_v2.j0 k a3 a4 (decide ((a4.size : Int) > 300)) a0_0 a0_1 a0_2 a1_0 a1_1 a1_2 a2_0 a2_1 a2_2)) else (none))) else (none))) else (none)) = some r := H
    have A10 := Aside0.mk A100
    clear A100
    by_cases c11 : t247 = true
    · subst c11
      have H1 : ((weirkeeperlaw03_small.f a1_0 a1_1 a1_2).bind fun t248 => (if t248 = true then ((weirkeeperlaw03_small.f a2_0 a2_1 a2_2).bind fun t249 => (if t249 = true then (if (a3.size : Int) > 300 then (none) else (weirkeeperlaw03_StretchWithin_v2.j0 k a3 a4 (decide ((a4.size : Int) > 300)) a0_0 a0_1 a0_2 a1_0 a1_1 a1_2 a2_0 a2_1 a2_2)) else (none))) else (none))) = some r := by rw [if_pos rfl] at H; exact H
      clear H
      have H := H1
      clear H1
      replace H := Option.bind_eq_some_iff.mp H
      obtain ⟨t248, A120, H⟩ := H
      replace H : (if t248 = true then ((weirkeeperlaw03_small.f a2_0 a2_1 a2_2).bind fun t249 => (if t249 = true then (if (a3.size : Int) > 300 then (none) else (weirkeeperlaw03_StretchWithin_v2.j0 k a3 a4 (decide ((a4.size : Int) > 300)) a0_0 a0_1 a0_2 a1_0 a1_1 a1_2 a2_0 a2_1 a2_2)) else (none))) else (none)) = some r := H
      have A12 := Aside0.mk A120
      clear A120
      by_cases c13 : t248 = true
      · subst c13
        have H1 : ((weirkeeperlaw03_small.f a2_0 a2_1 a2_2).bind fun t249 => (if t249 = true then (if (a3.size : Int) > 300 then (none) else (weirkeeperlaw03_StretchWithin_v2.j0 k a3 a4 (decide ((a4.size : Int) > 300)) a0_0 a0_1 a0_2 a1_0 a1_1 a1_2 a2_0 a2_1 a2_2)) else (none))) = some r := by rw [if_pos rfl] at H; exact H
        clear H
        have H := H1
        clear H1
        replace H := Option.bind_eq_some_iff.mp H
        obtain ⟨t249, A140, H⟩ := H
        replace H : (if t249 = true then (if (a3.size : Int) > 300 then (none) else (weirkeeperlaw03_StretchWithin_v2.j0 k a3 a4 (decide ((a4.size : Int) > 300)) a0_0 a0_1 a0_2 a1_0 a1_1 a1_2 a2_0 a2_1 a2_2)) else (none)) = some r := H
        have A14 := Aside0.mk A140
        clear A140
        by_cases c15 : t249 = true
        · subst c15
          have H1 : (if (a3.size : Int) > 300 then (none) else (weirkeeperlaw03_StretchWithin_v2.j0 k a3 a4 (decide ((a4.size : Int) > 300)) a0_0 a0_1 a0_2 a1_0 a1_1 a1_2 a2_0 a2_1 a2_2)) = some r := by rw [if_pos rfl] at H; exact H
          clear H
          have H := H1
          clear H1
          by_cases c16 : (a3.size : Int) > 300
          · rw [if_pos c16] at H
            exact absurd H (by simp)
          · rw [if_neg c16] at H
            have c16b0 : decide (300 < (a3.size : Int)) = false := decide_eq_false c16
            have c16b1 : decide (300 < a3.size) = false := decide_eq_false (by omega)
            clear c16
            (first | rw [c16b0] | (simp only [i64_w, i32_w]; rw [c16b0]) | skip)
            have H' := Aside0.mk H
            clear H
            have hnb17 := NB244_245.out
            have hnc17 := NB245_244.out
            have hnb18 := NB244_246.out
            have hnc18 := NB246_244.out
            have hcz19_0 : w9.cell? ⟨gb244, 0, none⟩ = some (.string a0_0) := (blk_cell BK244.out 0).trans rfl
            have hcz19_1 : w9.cell? ⟨gb244, 1, none⟩ = some (.string a0_1) := (blk_cell BK244.out 1).trans rfl
            have hcz19_2 : w9.cell? ⟨gb244, 2, none⟩ = some (.bool a0_2) := (blk_cell BK244.out 2).trans rfl
            have hfz19_0 := blk_frozen BK244.out 0
            have hfz19_1 := blk_frozen BK244.out 1
            have hfz19_2 := blk_frozen BK244.out 2
            go_wp2_with (first | ((with_reducible refine gate_callee (f := 9) rfl ?_); refine goesL_ (some 14) rfl rfl Try.func9 (by kernel_rfl) rfl #[.agg #[.string a0_0, .string a0_1, .bool a0_2]] rfl (by (try simp only [List.map_toArray, List.map_cons, List.map_nil]); first | done | rfl | (simp only [List.length_drop, List.length_take]; rfl)) ?_; (with_reducible refine (weirkeeperlaw03_small.calls a0_0 a0_1 a0_2 true _ A10.out).mono ?_); rintro e w20 ⟨rfl, hb⟩; refine ⟨_, rfl, ?_⟩; have n0_ := Aside0.mk (blk_below (g := gb244) (o := .cells #[.string a0_0, .string a0_1, .bool a0_2] 25 (0, 0)) (by (with_reducible repeat (first | refine blk_drewN ?_ _ | refine blk_drew ?_ | refine blk_alloc ?_ _)); exact BK244.out) hb); have n1_ := Aside0.mk (blk_below (g := gb245) (o := .cells #[.string a1_0, .string a1_1, .bool a1_2] 25 (0, 0)) (by (with_reducible repeat (first | refine blk_drewN ?_ _ | refine blk_drew ?_ | refine blk_alloc ?_ _)); exact BK245.out) hb); have n2_ := Aside0.mk (blk_below (g := gb246) (o := .cells #[.string a2_0, .string a2_1, .bool a2_2] 25 (0, 0)) (by (with_reducible repeat (first | refine blk_drewN ?_ _ | refine blk_drew ?_ | refine blk_alloc ?_ _)); exact BK246.out) hb); have n3_ := Aside0.mk (below_step (by repeat (first | (with_reducible first | exact HB.out | apply below_alloc | apply pw_below_drewN | apply below_drew1 | refine below_set ?_ GE244.out | refine below_set ?_ GE245.out | refine below_set ?_ GE246.out) | exact HB.out)) hb); clear BK244; clear BK245; clear BK246; clear HB; have BK244 := n0_; have BK245 := n1_; have BK246 := n2_; have HB := n3_; clear n0_ n1_ n2_ n3_; (try clear hb); (try clear hb2); (try clear hk); (try clear hi); have hnb21 := NB245_246.out; have hnc21 := NB246_245.out; have hcz22_0 : w20.cell? ⟨gb245, 0, none⟩ = some (.string a1_0) := (blk_cell BK245.out 0).trans rfl; have hcz22_1 : w20.cell? ⟨gb245, 1, none⟩ = some (.string a1_1) := (blk_cell BK245.out 1).trans rfl; have hcz22_2 : w20.cell? ⟨gb245, 2, none⟩ = some (.bool a1_2) := (blk_cell BK245.out 2).trans rfl; have hfz22_0 := blk_frozen BK245.out 0; have hfz22_1 := blk_frozen BK245.out 1; have hfz22_2 := blk_frozen BK245.out 2) | (go_at_call 9; (with_reducible refine (weirkeeperlaw03_small.calls a1_0 a1_1 a1_2 true _ A12.out).mono ?_); rintro e w23 ⟨rfl, hb⟩; have n0_ := Aside0.mk (blk_below (g := gb244) (o := .cells #[.string a0_0, .string a0_1, .bool a0_2] 25 (0, 0)) (by (with_reducible repeat (first | refine blk_drewN ?_ _ | refine blk_drew ?_ | refine blk_alloc ?_ _)); exact BK244.out) hb); have n1_ := Aside0.mk (blk_below (g := gb245) (o := .cells #[.string a1_0, .string a1_1, .bool a1_2] 25 (0, 0)) (by (with_reducible repeat (first | refine blk_drewN ?_ _ | refine blk_drew ?_ | refine blk_alloc ?_ _)); exact BK245.out) hb); have n2_ := Aside0.mk (blk_below (g := gb246) (o := .cells #[.string a2_0, .string a2_1, .bool a2_2] 25 (0, 0)) (by (with_reducible repeat (first | refine blk_drewN ?_ _ | refine blk_drew ?_ | refine blk_alloc ?_ _)); exact BK246.out) hb); have n3_ := Aside0.mk (below_step (by repeat (first | (with_reducible first | exact HB.out | apply below_alloc | apply pw_below_drewN | apply below_drew1 | refine below_set ?_ GE244.out | refine below_set ?_ GE245.out | refine below_set ?_ GE246.out) | exact HB.out)) hb); clear BK244; clear BK245; clear BK246; clear HB; have BK244 := n0_; have BK245 := n1_; have BK246 := n2_; have HB := n3_; clear n0_ n1_ n2_ n3_; (try clear hb); (try clear hb2); (try clear hk); (try clear hi); have hcz24_0 : w23.cell? ⟨gb246, 0, none⟩ = some (.string a2_0) := (blk_cell BK246.out 0).trans rfl; have hcz24_1 : w23.cell? ⟨gb246, 1, none⟩ = some (.string a2_1) := (blk_cell BK246.out 1).trans rfl; have hcz24_2 : w23.cell? ⟨gb246, 2, none⟩ = some (.bool a2_2) := (blk_cell BK246.out 2).trans rfl; have hfz24_0 := blk_frozen BK246.out 0; have hfz24_1 := blk_frozen BK246.out 1; have hfz24_2 := blk_frozen BK246.out 2) | (go_at_call 9; (with_reducible refine (weirkeeperlaw03_small.calls a2_0 a2_1 a2_2 true _ A14.out).mono ?_); rintro e w25 ⟨rfl, hb⟩; have n0_ := Aside0.mk (blk_below (g := gb244) (o := .cells #[.string a0_0, .string a0_1, .bool a0_2] 25 (0, 0)) (by (with_reducible repeat (first | refine blk_drewN ?_ _ | refine blk_drew ?_ | refine blk_alloc ?_ _)); exact BK244.out) hb); have n1_ := Aside0.mk (blk_below (g := gb245) (o := .cells #[.string a1_0, .string a1_1, .bool a1_2] 25 (0, 0)) (by (with_reducible repeat (first | refine blk_drewN ?_ _ | refine blk_drew ?_ | refine blk_alloc ?_ _)); exact BK245.out) hb); have n2_ := Aside0.mk (blk_below (g := gb246) (o := .cells #[.string a2_0, .string a2_1, .bool a2_2] 25 (0, 0)) (by (with_reducible repeat (first | refine blk_drewN ?_ _ | refine blk_drew ?_ | refine blk_alloc ?_ _)); exact BK246.out) hb); have n3_ := Aside0.mk (below_step (by repeat (first | (with_reducible first | exact HB.out | apply below_alloc | apply pw_below_drewN | apply below_drew1 | refine below_set ?_ GE244.out | refine below_set ?_ GE245.out | refine below_set ?_ GE246.out) | exact HB.out)) hb); clear BK244; clear BK245; clear BK246; clear HB; have BK244 := n0_; have BK245 := n1_; have BK246 := n2_; have HB := n3_; clear n0_ n1_ n2_ n3_; (try clear hb); (try clear hb2); (try clear hk); (try clear hi)))
            go_meet
            case rel => exact ⟨_, (decide ((a4.size : Int) > 300)), (by first | rfl | (simp; done) | (simp [*]; done)), H', ⟨by first | omega | exact Nat.le_refl _⟩, ⟨by (with_reducible repeat (first | refine blk_drewN ?_ _ | refine blk_drew ?_ | refine blk_alloc ?_ _)); exact BK244.out⟩, ⟨by (with_reducible repeat (first | refine blk_drewN ?_ _ | refine blk_drew ?_ | refine blk_alloc ?_ _)); exact BK245.out⟩, ⟨by (with_reducible repeat (first | refine blk_drewN ?_ _ | refine blk_drew ?_ | refine blk_alloc ?_ _)); exact BK246.out⟩, ⟨by repeat (first | (with_reducible first | exact HB.out | apply below_alloc | apply pw_below_drewN | apply below_drew1 | refine below_set ?_ GE244.out | refine below_set ?_ GE245.out | refine below_set ?_ GE246.out) | exact HB.out)⟩⟩
        · replace c15 := Bool.eq_false_iff.mpr c15
          subst c15
          have H1 : (none) = some r := by rw [if_neg (show ¬ (false = true) by decide)] at H; exact H
          clear H
          have H := H1
          clear H1
          exact absurd H (by simp)
      · replace c13 := Bool.eq_false_iff.mpr c13
        subst c13
        have H1 : (none) = some r := by rw [if_neg (show ¬ (false = true) by decide)] at H; exact H
        clear H
        have H := H1
        clear H1
        exact absurd H (by simp)
    · replace c11 := Bool.eq_false_iff.mpr c11
      subst c11
      have H1 : (none) = some r := by rw [if_neg (show ¬ (false = true) by decide)] at H; exact H
      clear H
      have H := H1
      clear H1
      exact absurd H (by simp)
  case rest =>
    clear HC6
    try clear c1
    try clear c2
    try clear p2
    try clear c4
    try clear c9
    try clear c11
    try clear c13
    try clear c15
    try clear c16
    try clear c16b0
    try clear c16b1
    try clear c17
    try clear c18
    try clear c21
    try clear hcz19_0
    try clear hcz19_1
    try clear hcz19_2
    try clear hcz22_0
    try clear hcz22_1
    try clear hcz22_2
    try clear hcz24_0
    try clear hcz24_1
    try clear hcz24_2
    try clear hfz19_0
    try clear hfz19_1
    try clear hfz19_2
    try clear hfz22_0
    try clear hfz22_1
    try clear hfz22_2
    try clear hfz24_0
    try clear hfz24_1
    try clear hfz24_2
    obtain ⟨kq, x35_5, rfl, HA, HJ5, BK244, BK245, BK246, HB⟩ := hcut
    cases kq with
    | zero => exact absurd HA.out (by simp [weirkeeperlaw03_StretchWithin_v2.j0])
    | succ kj5 =>
      have H := HA.out
      clear HA
      simp only [weirkeeperlaw03_StretchWithin_v2.j0] at H
      by_cases c26 : x35_5 = true
      · subst c26
        have H1 : (none) = some r := by rw [if_pos rfl] at H; exact H
        clear H
        have H := H1
        clear H1
        exact absurd H (by simp)
      · replace c26 := Bool.eq_false_iff.mpr c26
        subst c26
        have H1 : ((stretch_Within.f a0_0 a0_1 a0_2 a1_0 a1_1 a1_2).bind fun t251 => (if t251 = true then ((stretch_Within.f a1_0 a1_1 a1_2 a2_0 a2_1 a2_2).bind fun t252 => (if t252 = true then ((stretch_Within.f a0_0 a0_1 a0_2 a2_0 a2_1 a2_2).bind fun t253 => (if t253 = true then ((stretch_Within.f a0_0 a0_1 a0_2 a1_0 a1_1 a1_2).bind fun t254 => (if t254 = true then ((stretch_In.f a0_0 a0_1 a0_2 a3).bind fun t255 => (if t255 = true then ((stretch_In.f a1_0 a1_1 a1_2 a3).bind fun t256 => (weirkeeperlaw03_StretchWithin_v2.j1 kj5 a3 a4 (!t256) a0_0 a0_1 a0_2 a1_0 a1_1 a1_2)) else (weirkeeperlaw03_StretchWithin_v2.j1 kj5 a3 a4 false a0_0 a0_1 a0_2 a1_0 a1_1 a1_2))) else (none))) else (none))) else ((stretch_Within.f a0_0 a0_1 a0_2 a1_0 a1_1 a1_2).bind fun t257 => (if t257 = true then ((stretch_In.f a0_0 a0_1 a0_2 a3).bind fun t258 => (if t258 = true then ((stretch_In.f a1_0 a1_1 a1_2 a3).bind fun t259 => (weirkeeperlaw03_StretchWithin_v2.j1 kj5 a3 a4 (!t259) a0_0 a0_1 a0_2 a1_0 a1_1 a1_2)) else (weirkeeperlaw03_StretchWithin_v2.j1 kj5 a3 a4 false a0_0 a0_1 a0_2 a1_0 a1_1 a1_2))) else (none))))) else ((stretch_Within.f a0_0 a0_1 a0_2 a1_0 a1_1 a1_2).bind fun t260 => (if t260 = true then (none) else (weirkeeperlaw03_StretchWithin_v2.j1 kj5 a3 a4 false a0_0 a0_1 a0_2 a1_0 a1_1 a1_2))))) = some r := by rw [if_neg (show ¬ (false = true) by decide)] at H; exact H
        clear H
        have H := H1
        clear H1
        have HC27 := Aside0.mk H
        clear H
        go_upto_region 3 with (fail)
        go_cut [66] (fun v66 wc => ∃ (kq : Nat) (x66_26 : Bool), v66 = .bool x66_26 ∧ Aside0 (weirkeeperlaw03_StretchWithin_v2.j1 kq a3 a4 x66_26 a0_0 a0_1 a0_2 a1_0 a1_1 a1_2 = some r) ∧ Aside0 (kq ≤ kj5) ∧ Aside0 (wc.heap[gb244]? = some (.cells #[.string a0_0, .string a0_1, .bool a0_2] 25 (0, 0))) ∧ Aside0 (wc.heap[gb245]? = some (.cells #[.string a1_0, .string a1_1, .bool a1_2] 25 (0, 0))) ∧ Aside0 (wc.heap[gb246]? = some (.cells #[.string a2_0, .string a2_1, .bool a2_2] 25 (0, 0))) ∧ Aside0 (Below w.heap.size w wc))
        case first =>
          have H := HC27.out
          clear HC27
          replace H := Option.bind_eq_some_iff.mp H
          obtain ⟨t251, A280, H⟩ := H
          replace H : (if t251 = true then ((stretch_Within.f a1_0 a1_1 a1_2 a2_0 a2_1 a2_2).bind fun t252 => (if t252 = true then ((stretch_Within.f a0_0 a0_1 a0_2 a2_0 a2_1 a2_2).bind fun t253 => (if t253 = true then ((stretch_Within.f a0_0 a0_1 a0_2 a1_0 a1_1 a1_2).bind fun t254 => (if t254 = true then ((stretch_In.f a0_0 a0_1 a0_2 a3).bind fun t255 => (if t255 = true then ((stretch_In.f a1_0 a1_1 a1_2 a3).bind fun t256 => (weirkeeperlaw03_StretchWithin_v2.j1 kj5 a3 a4 (!t256) a0_0 a0_1 a0_2 a1_0 a1_1 a1_2)) else (weirkeeperlaw03_StretchWithin_v2.j1 kj5 a3 a4 false a0_0 a0_1 a0_2 a1_0 a1_1 a1_2))) else (none))) else (none))) else ((stretch_Within.f a0_0 a0_1 a0_2 a1_0 a1_1 a1_2).bind fun t257 => (if t257 = true then ((stretch_In.f a0_0 a0_1 a0_2 a3).bind fun t258 => (if t258 = true then ((stretch_In.f a1_0 a1_1 a1_2 a3).bind fun t259 => (weirkeeperlaw03_StretchWithin_v2.j1 kj5 a3 a4 (!t259) a0_0 a0_1 a0_2 a1_0 a1_1 a1_2)) else (weirkeeperlaw03_StretchWithin_v2.j1 kj5 a3 a4 false a0_0 a0_1 a0_2 a1_0 a1_1 a1_2))) else (none))))) else ((stretch_Within.f a0_0 a0_1 a0_2 a1_0 a1_1 a1_2).bind fun t260 => (if t260 = true then (none) else (weirkeeperlaw03_StretchWithin_v2.j1 kj5 a3 a4 false a0_0 a0_1 a0_2 a1_0 a1_1 a1_2)))) = some r := H
          have A28 := Aside0.mk A280
          clear A280
          by_cases c29 : t251 = true
          · subst c29
            have H1 : ((stretch_Within.f a1_0 a1_1 a1_2 a2_0 a2_1 a2_2).bind fun t252 => (if t252 = true then ((stretch_Within.f a0_0 a0_1 a0_2 a2_0 a2_1 a2_2).bind fun t253 => (if t253 = true then ((stretch_Within.f a0_0 a0_1 a0_2 a1_0 a1_1 a1_2).bind fun t254 => (if t254 = true then ((stretch_In.f a0_0 a0_1 a0_2 a3).bind fun t255 => (if t255 = true then ((stretch_In.f a1_0 a1_1 a1_2 a3).bind fun t256 => (weirkeeperlaw03_StretchWithin_v2.j1 kj5 a3 a4 (!t256) a0_0 a0_1 a0_2 a1_0 a1_1 a1_2)) else (weirkeeperlaw03_StretchWithin_v2.j1 kj5 a3 a4 false a0_0 a0_1 a0_2 a1_0 a1_1 a1_2))) else (none))) else (none))) else ((stretch_Within.f a0_0 a0_1 a0_2 a1_0 a1_1 a1_2).bind fun t257 => (if t257 = true then ((stretch_In.f a0_0 a0_1 a0_2 a3).bind fun t258 => (if t258 = true then ((stretch_In.f a1_0 a1_1 a1_2 a3).bind fun t259 => (weirkeeperlaw03_StretchWithin_v2.j1 kj5 a3 a4 (!t259) a0_0 a0_1 a0_2 a1_0 a1_1 a1_2)) else (weirkeeperlaw03_StretchWithin_v2.j1 kj5 a3 a4 false a0_0 a0_1 a0_2 a1_0 a1_1 a1_2))) else (none))))) = some r := by rw [if_pos rfl] at H; exact H
            clear H
            have H := H1
            clear H1
            replace H := Option.bind_eq_some_iff.mp H
            obtain ⟨t252, A300, H⟩ := H
            replace H : (if t252 = true then ((stretch_Within.f a0_0 a0_1 a0_2 a2_0 a2_1 a2_2).bind fun t253 => (if t253 = true then ((stretch_Within.f a0_0 a0_1 a0_2 a1_0 a1_1 a1_2).bind fun t254 => (if t254 = true then ((stretch_In.f a0_0 a0_1 a0_2 a3).bind fun t255 => (if t255 = true then ((stretch_In.f a1_0 a1_1 a1_2 a3).bind fun t256 => (weirkeeperlaw03_StretchWithin_v2.j1 kj5 a3 a4 (!t256) a0_0 a0_1 a0_2 a1_0 a1_1 a1_2)) else (weirkeeperlaw03_StretchWithin_v2.j1 kj5 a3 a4 false a0_0 a0_1 a0_2 a1_0 a1_1 a1_2))) else (none))) else (none))) else ((stretch_Within.f a0_0 a0_1 a0_2 a1_0 a1_1 a1_2).bind fun t257 => (if t257 = true then ((stretch_In.f a0_0 a0_1 a0_2 a3).bind fun t258 => (if t258 = true then ((stretch_In.f a1_0 a1_1 a1_2 a3).bind fun t259 => (weirkeeperlaw03_StretchWithin_v2.j1 kj5 a3 a4 (!t259) a0_0 a0_1 a0_2 a1_0 a1_1 a1_2)) else (weirkeeperlaw03_StretchWithin_v2.j1 kj5 a3 a4 false a0_0 a0_1 a0_2 a1_0 a1_1 a1_2))) else (none)))) = some r := H
            have A30 := Aside0.mk A300
            clear A300
            by_cases c31 : t252 = true
            · subst c31
              have H1 : ((stretch_Within.f a0_0 a0_1 a0_2 a2_0 a2_1 a2_2).bind fun t253 => (if t253 = true then ((stretch_Within.f a0_0 a0_1 a0_2 a1_0 a1_1 a1_2).bind fun t254 => (if t254 = true then ((stretch_In.f a0_0 a0_1 a0_2 a3).bind fun t255 => (if t255 = true then ((stretch_In.f a1_0 a1_1 a1_2 a3).bind fun t256 => (weirkeeperlaw03_StretchWithin_v2.j1 kj5 a3 a4 (!t256) a0_0 a0_1 a0_2 a1_0 a1_1 a1_2)) else (weirkeeperlaw03_StretchWithin_v2.j1 kj5 a3 a4 false a0_0 a0_1 a0_2 a1_0 a1_1 a1_2))) else (none))) else (none))) = some r := by rw [if_pos rfl] at H; exact H
              clear H
              have H := H1
              clear H1
              replace H := Option.bind_eq_some_iff.mp H
              obtain ⟨t253, A320, H⟩ := H
              replace H : (if t253 = true then ((stretch_Within.f a0_0 a0_1 a0_2 a1_0 a1_1 a1_2).bind fun t254 => (if t254 = true then ((stretch_In.f a0_0 a0_1 a0_2 a3).bind fun t255 => (if t255 = true then ((stretch_In.f a1_0 a1_1 a1_2 a3).bind fun t256 => (weirkeeperlaw03_StretchWithin_v2.j1 kj5 a3 a4 (!t256) a0_0 a0_1 a0_2 a1_0 a1_1 a1_2)) else (weirkeeperlaw03_StretchWithin_v2.j1 kj5 a3 a4 false a0_0 a0_1 a0_2 a1_0 a1_1 a1_2))) else (none))) else (none)) = some r := H
              have A32 := Aside0.mk A320
              clear A320
              by_cases c33 : t253 = true
              · subst c33
                have H1 : ((stretch_Within.f a0_0 a0_1 a0_2 a1_0 a1_1 a1_2).bind fun t254 => (if t254 = true then ((stretch_In.f a0_0 a0_1 a0_2 a3).bind fun t255 => (if t255 = true then ((stretch_In.f a1_0 a1_1 a1_2 a3).bind fun t256 => (weirkeeperlaw03_StretchWithin_v2.j1 kj5 a3 a4 (!t256) a0_0 a0_1 a0_2 a1_0 a1_1 a1_2)) else (weirkeeperlaw03_StretchWithin_v2.j1 kj5 a3 a4 false a0_0 a0_1 a0_2 a1_0 a1_1 a1_2))) else (none))) = some r := by rw [if_pos rfl] at H; exact H
                clear H
                have H := H1
                clear H1
                replace H := Option.bind_eq_some_iff.mp H
                obtain ⟨t254, A340, H⟩ := H
                replace H : (if t254 = true then ((stretch_In.f a0_0 a0_1 a0_2 a3).bind fun t255 => (if t255 = true then ((stretch_In.f a1_0 a1_1 a1_2 a3).bind fun t256 => (weirkeeperlaw03_StretchWithin_v2.j1 kj5 a3 a4 (!t256) a0_0 a0_1 a0_2 a1_0 a1_1 a1_2)) else (weirkeeperlaw03_StretchWithin_v2.j1 kj5 a3 a4 false a0_0 a0_1 a0_2 a1_0 a1_1 a1_2))) else (none)) = some r := H
                have A34 := Aside0.mk A340
                clear A340
                by_cases c35 : t254 = true
                · subst c35
                  have H1 : ((stretch_In.f a0_0 a0_1 a0_2 a3).bind fun t255 => (if t255 = true then ((stretch_In.f a1_0 a1_1 a1_2 a3).bind fun t256 => (weirkeeperlaw03_StretchWithin_v2.j1 kj5 a3 a4 (!t256) a0_0 a0_1 a0_2 a1_0 a1_1 a1_2)) else (weirkeeperlaw03_StretchWithin_v2.j1 kj5 a3 a4 false a0_0 a0_1 a0_2 a1_0 a1_1 a1_2))) = some r := by rw [if_pos rfl] at H; exact H
                  clear H
                  have H := H1
                  clear H1
                  replace H := Option.bind_eq_some_iff.mp H
                  obtain ⟨t255, A360, H⟩ := H
                  replace H : (if t255 = true then ((stretch_In.f a1_0 a1_1 a1_2 a3).bind fun t256 => (weirkeeperlaw03_StretchWithin_v2.j1 kj5 a3 a4 (!t256) a0_0 a0_1 a0_2 a1_0 a1_1 a1_2)) else (weirkeeperlaw03_StretchWithin_v2.j1 kj5 a3 a4 false a0_0 a0_1 a0_2 a1_0 a1_1 a1_2)) = some r := H
                  have A36 := Aside0.mk A360
                  clear A360
                  by_cases c37 : t255 = true
                  · subst c37
                    have H1 : ((stretch_In.f a1_0 a1_1 a1_2 a3).bind fun t256 => (weirkeeperlaw03_StretchWithin_v2.j1 kj5 a3 a4 (!t256) a0_0 a0_1 a0_2 a1_0 a1_1 a1_2)) = some r := by rw [if_pos rfl] at H; exact H
                    clear H
                    have H := H1
                    clear H1
                    replace H := Option.bind_eq_some_iff.mp H
                    obtain ⟨t256, A380, H⟩ := H
                    replace H : (weirkeeperlaw03_StretchWithin_v2.j1 kj5 a3 a4 (!t256) a0_0 a0_1 a0_2 a1_0 a1_1 a1_2) = some r := H
                    have A38 := Aside0.mk A380
                    clear A380
                    have H' := Aside0.mk H
                    clear H
                    have hnb39 := NB244_245.out
                    have hnc39 := NB245_244.out
                    have hnb40 := NB244_246.out
                    have hnc40 := NB246_244.out
                    have hcz41_0 : wc.cell? ⟨gb244, 0, none⟩ = some (.string a0_0) := (blk_cell BK244.out 0).trans rfl
                    have hcz41_1 : wc.cell? ⟨gb244, 1, none⟩ = some (.string a0_1) := (blk_cell BK244.out 1).trans rfl
                    have hcz41_2 : wc.cell? ⟨gb244, 2, none⟩ = some (.bool a0_2) := (blk_cell BK244.out 2).trans rfl
                    have hfz41_0 := blk_frozen BK244.out 0
                    have hfz41_1 := blk_frozen BK244.out 1
                    have hfz41_2 := blk_frozen BK244.out 2
                    have hnb42 := NB245_246.out
                    have hnc42 := NB246_245.out
                    have hcz43_0 : wc.cell? ⟨gb245, 0, none⟩ = some (.string a1_0) := (blk_cell BK245.out 0).trans rfl
                    have hcz43_1 : wc.cell? ⟨gb245, 1, none⟩ = some (.string a1_1) := (blk_cell BK245.out 1).trans rfl
                    have hcz43_2 : wc.cell? ⟨gb245, 2, none⟩ = some (.bool a1_2) := (blk_cell BK245.out 2).trans rfl
                    have hfz43_0 := blk_frozen BK245.out 0
                    have hfz43_1 := blk_frozen BK245.out 1
                    have hfz43_2 := blk_frozen BK245.out 2
                    go_wp2_with (first | ((with_reducible refine gate_callee (f := 14) rfl ?_); refine goesL_ (some 39) rfl rfl Try.func14 (by kernel_rfl) rfl #[.agg #[.string a0_0, .string a0_1, .bool a0_2], .agg #[.string a1_0, .string a1_1, .bool a1_2]] rfl (by (try simp only [List.map_toArray, List.map_cons, List.map_nil]); first | done | rfl | (simp only [List.length_drop, List.length_take]; rfl)) ?_; (with_reducible refine (stretch_Within.calls a0_0 a0_1 a0_2 a1_0 a1_1 a1_2 true _ A28.out).mono ?_); rintro e w44 ⟨rfl, hb⟩; refine ⟨_, rfl, ?_⟩; have n0_ := Aside0.mk (blk_below (g := gb244) (o := .cells #[.string a0_0, .string a0_1, .bool a0_2] 25 (0, 0)) (by (with_reducible repeat (first | refine blk_drewN ?_ _ | refine blk_drew ?_ | refine blk_alloc ?_ _)); exact BK244.out) hb); have n1_ := Aside0.mk (blk_below (g := gb245) (o := .cells #[.string a1_0, .string a1_1, .bool a1_2] 25 (0, 0)) (by (with_reducible repeat (first | refine blk_drewN ?_ _ | refine blk_drew ?_ | refine blk_alloc ?_ _)); exact BK245.out) hb); have n2_ := Aside0.mk (blk_below (g := gb246) (o := .cells #[.string a2_0, .string a2_1, .bool a2_2] 25 (0, 0)) (by (with_reducible repeat (first | refine blk_drewN ?_ _ | refine blk_drew ?_ | refine blk_alloc ?_ _)); exact BK246.out) hb); have n3_ := Aside0.mk (below_step (by repeat (first | (with_reducible first | exact HB.out | apply below_alloc | apply pw_below_drewN | apply below_drew1 | refine below_set ?_ GE244.out | refine below_set ?_ GE245.out | refine below_set ?_ GE246.out) | exact HB.out)) hb); clear BK244; clear BK245; clear BK246; clear HB; have BK244 := n0_; have BK245 := n1_; have BK246 := n2_; have HB := n3_; clear n0_ n1_ n2_ n3_; (try clear hb); (try clear hb2); (try clear hk); (try clear hi); have hcz45_0 : w44.cell? ⟨gb245, 0, none⟩ = some (.string a1_0) := (blk_cell BK245.out 0).trans rfl; have hcz45_1 : w44.cell? ⟨gb245, 1, none⟩ = some (.string a1_1) := (blk_cell BK245.out 1).trans rfl; have hcz45_2 : w44.cell? ⟨gb245, 2, none⟩ = some (.bool a1_2) := (blk_cell BK245.out 2).trans rfl; have hfz45_0 := blk_frozen BK245.out 0; have hfz45_1 := blk_frozen BK245.out 1; have hfz45_2 := blk_frozen BK245.out 2; have hcz46_0 : w44.cell? ⟨gb246, 0, none⟩ = some (.string a2_0) := (blk_cell BK246.out 0).trans rfl; have hcz46_1 : w44.cell? ⟨gb246, 1, none⟩ = some (.string a2_1) := (blk_cell BK246.out 1).trans rfl; have hcz46_2 : w44.cell? ⟨gb246, 2, none⟩ = some (.bool a2_2) := (blk_cell BK246.out 2).trans rfl; have hfz46_0 := blk_frozen BK246.out 0; have hfz46_1 := blk_frozen BK246.out 1; have hfz46_2 := blk_frozen BK246.out 2) | (go_at_call 14; (with_reducible refine (stretch_Within.calls a1_0 a1_1 a1_2 a2_0 a2_1 a2_2 true _ A30.out).mono ?_); rintro e w47 ⟨rfl, hb⟩; have n0_ := Aside0.mk (blk_below (g := gb244) (o := .cells #[.string a0_0, .string a0_1, .bool a0_2] 25 (0, 0)) (by (with_reducible repeat (first | refine blk_drewN ?_ _ | refine blk_drew ?_ | refine blk_alloc ?_ _)); exact BK244.out) hb); have n1_ := Aside0.mk (blk_below (g := gb245) (o := .cells #[.string a1_0, .string a1_1, .bool a1_2] 25 (0, 0)) (by (with_reducible repeat (first | refine blk_drewN ?_ _ | refine blk_drew ?_ | refine blk_alloc ?_ _)); exact BK245.out) hb); have n2_ := Aside0.mk (blk_below (g := gb246) (o := .cells #[.string a2_0, .string a2_1, .bool a2_2] 25 (0, 0)) (by (with_reducible repeat (first | refine blk_drewN ?_ _ | refine blk_drew ?_ | refine blk_alloc ?_ _)); exact BK246.out) hb); have n3_ := Aside0.mk (below_step (by repeat (first | (with_reducible first | exact HB.out | apply below_alloc | apply pw_below_drewN | apply below_drew1 | refine below_set ?_ GE244.out | refine below_set ?_ GE245.out | refine below_set ?_ GE246.out) | exact HB.out)) hb); clear BK244; clear BK245; clear BK246; clear HB; have BK244 := n0_; have BK245 := n1_; have BK246 := n2_; have HB := n3_; clear n0_ n1_ n2_ n3_; (try clear hb); (try clear hb2); (try clear hk); (try clear hi); have hcz48_0 : w47.cell? ⟨gb244, 0, none⟩ = some (.string a0_0) := (blk_cell BK244.out 0).trans rfl; have hcz48_1 : w47.cell? ⟨gb244, 1, none⟩ = some (.string a0_1) := (blk_cell BK244.out 1).trans rfl; have hcz48_2 : w47.cell? ⟨gb244, 2, none⟩ = some (.bool a0_2) := (blk_cell BK244.out 2).trans rfl; have hfz48_0 := blk_frozen BK244.out 0; have hfz48_1 := blk_frozen BK244.out 1; have hfz48_2 := blk_frozen BK244.out 2; have hcz49_0 : w47.cell? ⟨gb246, 0, none⟩ = some (.string a2_0) := (blk_cell BK246.out 0).trans rfl; have hcz49_1 : w47.cell? ⟨gb246, 1, none⟩ = some (.string a2_1) := (blk_cell BK246.out 1).trans rfl; have hcz49_2 : w47.cell? ⟨gb246, 2, none⟩ = some (.bool a2_2) := (blk_cell BK246.out 2).trans rfl; have hfz49_0 := blk_frozen BK246.out 0; have hfz49_1 := blk_frozen BK246.out 1; have hfz49_2 := blk_frozen BK246.out 2) | (go_at_call 14; (with_reducible refine (stretch_Within.calls a0_0 a0_1 a0_2 a2_0 a2_1 a2_2 true _ A32.out).mono ?_); rintro e w50 ⟨rfl, hb⟩; have n0_ := Aside0.mk (blk_below (g := gb244) (o := .cells #[.string a0_0, .string a0_1, .bool a0_2] 25 (0, 0)) (by (with_reducible repeat (first | refine blk_drewN ?_ _ | refine blk_drew ?_ | refine blk_alloc ?_ _)); exact BK244.out) hb); have n1_ := Aside0.mk (blk_below (g := gb245) (o := .cells #[.string a1_0, .string a1_1, .bool a1_2] 25 (0, 0)) (by (with_reducible repeat (first | refine blk_drewN ?_ _ | refine blk_drew ?_ | refine blk_alloc ?_ _)); exact BK245.out) hb); have n2_ := Aside0.mk (blk_below (g := gb246) (o := .cells #[.string a2_0, .string a2_1, .bool a2_2] 25 (0, 0)) (by (with_reducible repeat (first | refine blk_drewN ?_ _ | refine blk_drew ?_ | refine blk_alloc ?_ _)); exact BK246.out) hb); have n3_ := Aside0.mk (below_step (by repeat (first | (with_reducible first | exact HB.out | apply below_alloc | apply pw_below_drewN | apply below_drew1 | refine below_set ?_ GE244.out | refine below_set ?_ GE245.out | refine below_set ?_ GE246.out) | exact HB.out)) hb); clear BK244; clear BK245; clear BK246; clear HB; have BK244 := n0_; have BK245 := n1_; have BK246 := n2_; have HB := n3_; clear n0_ n1_ n2_ n3_; (try clear hb); (try clear hb2); (try clear hk); (try clear hi); have hcz51_0 : w50.cell? ⟨gb244, 0, none⟩ = some (.string a0_0) := (blk_cell BK244.out 0).trans rfl; have hcz51_1 : w50.cell? ⟨gb244, 1, none⟩ = some (.string a0_1) := (blk_cell BK244.out 1).trans rfl; have hcz51_2 : w50.cell? ⟨gb244, 2, none⟩ = some (.bool a0_2) := (blk_cell BK244.out 2).trans rfl; have hfz51_0 := blk_frozen BK244.out 0; have hfz51_1 := blk_frozen BK244.out 1; have hfz51_2 := blk_frozen BK244.out 2; have hcz52_0 : w50.cell? ⟨gb245, 0, none⟩ = some (.string a1_0) := (blk_cell BK245.out 0).trans rfl; have hcz52_1 : w50.cell? ⟨gb245, 1, none⟩ = some (.string a1_1) := (blk_cell BK245.out 1).trans rfl; have hcz52_2 : w50.cell? ⟨gb245, 2, none⟩ = some (.bool a1_2) := (blk_cell BK245.out 2).trans rfl; have hfz52_0 := blk_frozen BK245.out 0; have hfz52_1 := blk_frozen BK245.out 1; have hfz52_2 := blk_frozen BK245.out 2) | (go_at_call 14; (with_reducible refine (stretch_Within.calls a0_0 a0_1 a0_2 a1_0 a1_1 a1_2 true _ A34.out).mono ?_); rintro e w53 ⟨rfl, hb⟩; have n0_ := Aside0.mk (blk_below (g := gb244) (o := .cells #[.string a0_0, .string a0_1, .bool a0_2] 25 (0, 0)) (by (with_reducible repeat (first | refine blk_drewN ?_ _ | refine blk_drew ?_ | refine blk_alloc ?_ _)); exact BK244.out) hb); have n1_ := Aside0.mk (blk_below (g := gb245) (o := .cells #[.string a1_0, .string a1_1, .bool a1_2] 25 (0, 0)) (by (with_reducible repeat (first | refine blk_drewN ?_ _ | refine blk_drew ?_ | refine blk_alloc ?_ _)); exact BK245.out) hb); have n2_ := Aside0.mk (blk_below (g := gb246) (o := .cells #[.string a2_0, .string a2_1, .bool a2_2] 25 (0, 0)) (by (with_reducible repeat (first | refine blk_drewN ?_ _ | refine blk_drew ?_ | refine blk_alloc ?_ _)); exact BK246.out) hb); have n3_ := Aside0.mk (below_step (by repeat (first | (with_reducible first | exact HB.out | apply below_alloc | apply pw_below_drewN | apply below_drew1 | refine below_set ?_ GE244.out | refine below_set ?_ GE245.out | refine below_set ?_ GE246.out) | exact HB.out)) hb); clear BK244; clear BK245; clear BK246; clear HB; have BK244 := n0_; have BK245 := n1_; have BK246 := n2_; have HB := n3_; clear n0_ n1_ n2_ n3_; (try clear hb); (try clear hb2); (try clear hk); (try clear hi); have hcz54_0 : w53.cell? ⟨gb244, 0, none⟩ = some (.string a0_0) := (blk_cell BK244.out 0).trans rfl; have hcz54_1 : w53.cell? ⟨gb244, 1, none⟩ = some (.string a0_1) := (blk_cell BK244.out 1).trans rfl; have hcz54_2 : w53.cell? ⟨gb244, 2, none⟩ = some (.bool a0_2) := (blk_cell BK244.out 2).trans rfl; have hfz54_0 := blk_frozen BK244.out 0; have hfz54_1 := blk_frozen BK244.out 1; have hfz54_2 := blk_frozen BK244.out 2) | (go_at_call 13; (with_reducible refine (stretch_In.calls a0_0 a0_1 a0_2 a3 true _ A36.out).mono ?_); rintro e w55 ⟨rfl, hb⟩; have n0_ := Aside0.mk (blk_below (g := gb244) (o := .cells #[.string a0_0, .string a0_1, .bool a0_2] 25 (0, 0)) (by (with_reducible repeat (first | refine blk_drewN ?_ _ | refine blk_drew ?_ | refine blk_alloc ?_ _)); exact BK244.out) hb); have n1_ := Aside0.mk (blk_below (g := gb245) (o := .cells #[.string a1_0, .string a1_1, .bool a1_2] 25 (0, 0)) (by (with_reducible repeat (first | refine blk_drewN ?_ _ | refine blk_drew ?_ | refine blk_alloc ?_ _)); exact BK245.out) hb); have n2_ := Aside0.mk (blk_below (g := gb246) (o := .cells #[.string a2_0, .string a2_1, .bool a2_2] 25 (0, 0)) (by (with_reducible repeat (first | refine blk_drewN ?_ _ | refine blk_drew ?_ | refine blk_alloc ?_ _)); exact BK246.out) hb); have n3_ := Aside0.mk (below_step (by repeat (first | (with_reducible first | exact HB.out | apply below_alloc | apply pw_below_drewN | apply below_drew1 | refine below_set ?_ GE244.out | refine below_set ?_ GE245.out | refine below_set ?_ GE246.out) | exact HB.out)) hb); clear BK244; clear BK245; clear BK246; clear HB; have BK244 := n0_; have BK245 := n1_; have BK246 := n2_; have HB := n3_; clear n0_ n1_ n2_ n3_; (try clear hb); (try clear hb2); (try clear hk); (try clear hi); have hcz56_0 : w55.cell? ⟨gb245, 0, none⟩ = some (.string a1_0) := (blk_cell BK245.out 0).trans rfl; have hcz56_1 : w55.cell? ⟨gb245, 1, none⟩ = some (.string a1_1) := (blk_cell BK245.out 1).trans rfl; have hcz56_2 : w55.cell? ⟨gb245, 2, none⟩ = some (.bool a1_2) := (blk_cell BK245.out 2).trans rfl; have hfz56_0 := blk_frozen BK245.out 0; have hfz56_1 := blk_frozen BK245.out 1; have hfz56_2 := blk_frozen BK245.out 2) | (go_at_call 13; (with_reducible refine (stretch_In.calls a1_0 a1_1 a1_2 a3 t256 _ A38.out).mono ?_); rintro e w57 ⟨rfl, hb⟩; have n0_ := Aside0.mk (blk_below (g := gb244) (o := .cells #[.string a0_0, .string a0_1, .bool a0_2] 25 (0, 0)) (by (with_reducible repeat (first | refine blk_drewN ?_ _ | refine blk_drew ?_ | refine blk_alloc ?_ _)); exact BK244.out) hb); have n1_ := Aside0.mk (blk_below (g := gb245) (o := .cells #[.string a1_0, .string a1_1, .bool a1_2] 25 (0, 0)) (by (with_reducible repeat (first | refine blk_drewN ?_ _ | refine blk_drew ?_ | refine blk_alloc ?_ _)); exact BK245.out) hb); have n2_ := Aside0.mk (blk_below (g := gb246) (o := .cells #[.string a2_0, .string a2_1, .bool a2_2] 25 (0, 0)) (by (with_reducible repeat (first | refine blk_drewN ?_ _ | refine blk_drew ?_ | refine blk_alloc ?_ _)); exact BK246.out) hb); have n3_ := Aside0.mk (below_step (by repeat (first | (with_reducible first | exact HB.out | apply below_alloc | apply pw_below_drewN | apply below_drew1 | refine below_set ?_ GE244.out | refine below_set ?_ GE245.out | refine below_set ?_ GE246.out) | exact HB.out)) hb); clear BK244; clear BK245; clear BK246; clear HB; have BK244 := n0_; have BK245 := n1_; have BK246 := n2_; have HB := n3_; clear n0_ n1_ n2_ n3_; (try clear hb); (try clear hb2); (try clear hk); (try clear hi)))
                    go_meet
                    case rel => exact ⟨_, (!t256), (by first | rfl | (simp; done) | (simp [*]; done)), H', ⟨by have := HJ5.out; first | omega | exact Nat.le_refl _⟩, ⟨by (with_reducible repeat (first | refine blk_drewN ?_ _ | refine blk_drew ?_ | refine blk_alloc ?_ _)); exact BK244.out⟩, ⟨by (with_reducible repeat (first | refine blk_drewN ?_ _ | refine blk_drew ?_ | refine blk_alloc ?_ _)); exact BK245.out⟩, ⟨by (with_reducible repeat (first | refine blk_drewN ?_ _ | refine blk_drew ?_ | refine blk_alloc ?_ _)); exact BK246.out⟩, ⟨by repeat (first | (with_reducible first | exact HB.out | apply below_alloc | apply pw_below_drewN | apply below_drew1 | refine below_set ?_ GE244.out | refine below_set ?_ GE245.out | refine below_set ?_ GE246.out) | exact HB.out)⟩⟩
                  · replace c37 := Bool.eq_false_iff.mpr c37
                    subst c37
                    have H1 : (weirkeeperlaw03_StretchWithin_v2.j1 kj5 a3 a4 false a0_0 a0_1 a0_2 a1_0 a1_1 a1_2) = some r := by rw [if_neg (show ¬ (false = true) by decide)] at H; exact H
                    clear H
                    have H := H1
                    clear H1
                    have H' := Aside0.mk H
                    clear H
                    have hnb58 := NB244_245.out
                    have hnc58 := NB245_244.out
                    have hnb59 := NB244_246.out
                    have hnc59 := NB246_244.out
                    have hcz60_0 : wc.cell? ⟨gb244, 0, none⟩ = some (.string a0_0) := (blk_cell BK244.out 0).trans rfl
                    have hcz60_1 : wc.cell? ⟨gb244, 1, none⟩ = some (.string a0_1) := (blk_cell BK244.out 1).trans rfl
                    have hcz60_2 : wc.cell? ⟨gb244, 2, none⟩ = some (.bool a0_2) := (blk_cell BK244.out 2).trans rfl
                    have hfz60_0 := blk_frozen BK244.out 0
                    have hfz60_1 := blk_frozen BK244.out 1
                    have hfz60_2 := blk_frozen BK244.out 2
                    have hnb61 := NB245_246.out
                    have hnc61 := NB246_245.out
                    have hcz62_0 : wc.cell? ⟨gb245, 0, none⟩ = some (.string a1_0) := (blk_cell BK245.out 0).trans rfl
                    have hcz62_1 : wc.cell? ⟨gb245, 1, none⟩ = some (.string a1_1) := (blk_cell BK245.out 1).trans rfl
                    have hcz62_2 : wc.cell? ⟨gb245, 2, none⟩ = some (.bool a1_2) := (blk_cell BK245.out 2).trans rfl
                    have hfz62_0 := blk_frozen BK245.out 0
                    have hfz62_1 := blk_frozen BK245.out 1
                    have hfz62_2 := blk_frozen BK245.out 2
                    go_wp2_with (first | ((with_reducible refine gate_callee (f := 14) rfl ?_); refine goesL_ (some 39) rfl rfl Try.func14 (by kernel_rfl) rfl #[.agg #[.string a0_0, .string a0_1, .bool a0_2], .agg #[.string a1_0, .string a1_1, .bool a1_2]] rfl (by (try simp only [List.map_toArray, List.map_cons, List.map_nil]); first | done | rfl | (simp only [List.length_drop, List.length_take]; rfl)) ?_; (with_reducible refine (stretch_Within.calls a0_0 a0_1 a0_2 a1_0 a1_1 a1_2 true _ A28.out).mono ?_); rintro e w63 ⟨rfl, hb⟩; refine ⟨_, rfl, ?_⟩; have n0_ := Aside0.mk (blk_below (g := gb244) (o := .cells #[.string a0_0, .string a0_1, .bool a0_2] 25 (0, 0)) (by (with_reducible repeat (first | refine blk_drewN ?_ _ | refine blk_drew ?_ | refine blk_alloc ?_ _)); exact BK244.out) hb); have n1_ := Aside0.mk (blk_below (g := gb245) (o := .cells #[.string a1_0, .string a1_1, .bool a1_2] 25 (0, 0)) (by (with_reducible repeat (first | refine blk_drewN ?_ _ | refine blk_drew ?_ | refine blk_alloc ?_ _)); exact BK245.out) hb); have n2_ := Aside0.mk (blk_below (g := gb246) (o := .cells #[.string a2_0, .string a2_1, .bool a2_2] 25 (0, 0)) (by (with_reducible repeat (first | refine blk_drewN ?_ _ | refine blk_drew ?_ | refine blk_alloc ?_ _)); exact BK246.out) hb); have n3_ := Aside0.mk (below_step (by repeat (first | (with_reducible first | exact HB.out | apply below_alloc | apply pw_below_drewN | apply below_drew1 | refine below_set ?_ GE244.out | refine below_set ?_ GE245.out | refine below_set ?_ GE246.out) | exact HB.out)) hb); clear BK244; clear BK245; clear BK246; clear HB; have BK244 := n0_; have BK245 := n1_; have BK246 := n2_; have HB := n3_; clear n0_ n1_ n2_ n3_; (try clear hb); (try clear hb2); (try clear hk); (try clear hi); have hcz64_0 : w63.cell? ⟨gb245, 0, none⟩ = some (.string a1_0) := (blk_cell BK245.out 0).trans rfl; have hcz64_1 : w63.cell? ⟨gb245, 1, none⟩ = some (.string a1_1) := (blk_cell BK245.out 1).trans rfl; have hcz64_2 : w63.cell? ⟨gb245, 2, none⟩ = some (.bool a1_2) := (blk_cell BK245.out 2).trans rfl; have hfz64_0 := blk_frozen BK245.out 0; have hfz64_1 := blk_frozen BK245.out 1; have hfz64_2 := blk_frozen BK245.out 2; have hcz65_0 : w63.cell? ⟨gb246, 0, none⟩ = some (.string a2_0) := (blk_cell BK246.out 0).trans rfl; have hcz65_1 : w63.cell? ⟨gb246, 1, none⟩ = some (.string a2_1) := (blk_cell BK246.out 1).trans rfl; have hcz65_2 : w63.cell? ⟨gb246, 2, none⟩ = some (.bool a2_2) := (blk_cell BK246.out 2).trans rfl; have hfz65_0 := blk_frozen BK246.out 0; have hfz65_1 := blk_frozen BK246.out 1; have hfz65_2 := blk_frozen BK246.out 2) | (go_at_call 14; (with_reducible refine (stretch_Within.calls a1_0 a1_1 a1_2 a2_0 a2_1 a2_2 true _ A30.out).mono ?_); rintro e w66 ⟨rfl, hb⟩; have n0_ := Aside0.mk (blk_below (g := gb244) (o := .cells #[.string a0_0, .string a0_1, .bool a0_2] 25 (0, 0)) (by (with_reducible repeat (first | refine blk_drewN ?_ _ | refine blk_drew ?_ | refine blk_alloc ?_ _)); exact BK244.out) hb); have n1_ := Aside0.mk (blk_below (g := gb245) (o := .cells #[.string a1_0, .string a1_1, .bool a1_2] 25 (0, 0)) (by (with_reducible repeat (first | refine blk_drewN ?_ _ | refine blk_drew ?_ | refine blk_alloc ?_ _)); exact BK245.out) hb); have n2_ := Aside0.mk (blk_below (g := gb246) (o := .cells #[.string a2_0, .string a2_1, .bool a2_2] 25 (0, 0)) (by (with_reducible repeat (first | refine blk_drewN ?_ _ | refine blk_drew ?_ | refine blk_alloc ?_ _)); exact BK246.out) hb); have n3_ := Aside0.mk (below_step (by repeat (first | (with_reducible first | exact HB.out | apply below_alloc | apply pw_below_drewN | apply below_drew1 | refine below_set ?_ GE244.out | refine below_set ?_ GE245.out | refine below_set ?_ GE246.out) | exact HB.out)) hb); clear BK244; clear BK245; clear BK246; clear HB; have BK244 := n0_; have BK245 := n1_; have BK246 := n2_; have HB := n3_; clear n0_ n1_ n2_ n3_; (try clear hb); (try clear hb2); (try clear hk); (try clear hi); have hcz67_0 : w66.cell? ⟨gb244, 0, none⟩ = some (.string a0_0) := (blk_cell BK244.out 0).trans rfl; have hcz67_1 : w66.cell? ⟨gb244, 1, none⟩ = some (.string a0_1) := (blk_cell BK244.out 1).trans rfl; have hcz67_2 : w66.cell? ⟨gb244, 2, none⟩ = some (.bool a0_2) := (blk_cell BK244.out 2).trans rfl; have hfz67_0 := blk_frozen BK244.out 0; have hfz67_1 := blk_frozen BK244.out 1; have hfz67_2 := blk_frozen BK244.out 2; have hcz68_0 : w66.cell? ⟨gb246, 0, none⟩ = some (.string a2_0) := (blk_cell BK246.out 0).trans rfl; have hcz68_1 : w66.cell? ⟨gb246, 1, none⟩ = some (.string a2_1) := (blk_cell BK246.out 1).trans rfl; have hcz68_2 : w66.cell? ⟨gb246, 2, none⟩ = some (.bool a2_2) := (blk_cell BK246.out 2).trans rfl; have hfz68_0 := blk_frozen BK246.out 0; have hfz68_1 := blk_frozen BK246.out 1; have hfz68_2 := blk_frozen BK246.out 2) | (go_at_call 14; (with_reducible refine (stretch_Within.calls a0_0 a0_1 a0_2 a2_0 a2_1 a2_2 true _ A32.out).mono ?_); rintro e w69 ⟨rfl, hb⟩; have n0_ := Aside0.mk (blk_below (g := gb244) (o := .cells #[.string a0_0, .string a0_1, .bool a0_2] 25 (0, 0)) (by (with_reducible repeat (first | refine blk_drewN ?_ _ | refine blk_drew ?_ | refine blk_alloc ?_ _)); exact BK244.out) hb); have n1_ := Aside0.mk (blk_below (g := gb245) (o := .cells #[.string a1_0, .string a1_1, .bool a1_2] 25 (0, 0)) (by (with_reducible repeat (first | refine blk_drewN ?_ _ | refine blk_drew ?_ | refine blk_alloc ?_ _)); exact BK245.out) hb); have n2_ := Aside0.mk (blk_below (g := gb246) (o := .cells #[.string a2_0, .string a2_1, .bool a2_2] 25 (0, 0)) (by (with_reducible repeat (first | refine blk_drewN ?_ _ | refine blk_drew ?_ | refine blk_alloc ?_ _)); exact BK246.out) hb); have n3_ := Aside0.mk (below_step (by repeat (first | (with_reducible first | exact HB.out | apply below_alloc | apply pw_below_drewN | apply below_drew1 | refine below_set ?_ GE244.out | refine below_set ?_ GE245.out | refine below_set ?_ GE246.out) | exact HB.out)) hb); clear BK244; clear BK245; clear BK246; clear HB; have BK244 := n0_; have BK245 := n1_; have BK246 := n2_; have HB := n3_; clear n0_ n1_ n2_ n3_; (try clear hb); (try clear hb2); (try clear hk); (try clear hi); have hcz70_0 : w69.cell? ⟨gb244, 0, none⟩ = some (.string a0_0) := (blk_cell BK244.out 0).trans rfl; have hcz70_1 : w69.cell? ⟨gb244, 1, none⟩ = some (.string a0_1) := (blk_cell BK244.out 1).trans rfl; have hcz70_2 : w69.cell? ⟨gb244, 2, none⟩ = some (.bool a0_2) := (blk_cell BK244.out 2).trans rfl; have hfz70_0 := blk_frozen BK244.out 0; have hfz70_1 := blk_frozen BK244.out 1; have hfz70_2 := blk_frozen BK244.out 2; have hcz71_0 : w69.cell? ⟨gb245, 0, none⟩ = some (.string a1_0) := (blk_cell BK245.out 0).trans rfl; have hcz71_1 : w69.cell? ⟨gb245, 1, none⟩ = some (.string a1_1) := (blk_cell BK245.out 1).trans rfl; have hcz71_2 : w69.cell? ⟨gb245, 2, none⟩ = some (.bool a1_2) := (blk_cell BK245.out 2).trans rfl; have hfz71_0 := blk_frozen BK245.out 0; have hfz71_1 := blk_frozen BK245.out 1; have hfz71_2 := blk_frozen BK245.out 2) | (go_at_call 14; (with_reducible refine (stretch_Within.calls a0_0 a0_1 a0_2 a1_0 a1_1 a1_2 true _ A34.out).mono ?_); rintro e w72 ⟨rfl, hb⟩; have n0_ := Aside0.mk (blk_below (g := gb244) (o := .cells #[.string a0_0, .string a0_1, .bool a0_2] 25 (0, 0)) (by (with_reducible repeat (first | refine blk_drewN ?_ _ | refine blk_drew ?_ | refine blk_alloc ?_ _)); exact BK244.out) hb); have n1_ := Aside0.mk (blk_below (g := gb245) (o := .cells #[.string a1_0, .string a1_1, .bool a1_2] 25 (0, 0)) (by (with_reducible repeat (first | refine blk_drewN ?_ _ | refine blk_drew ?_ | refine blk_alloc ?_ _)); exact BK245.out) hb); have n2_ := Aside0.mk (blk_below (g := gb246) (o := .cells #[.string a2_0, .string a2_1, .bool a2_2] 25 (0, 0)) (by (with_reducible repeat (first | refine blk_drewN ?_ _ | refine blk_drew ?_ | refine blk_alloc ?_ _)); exact BK246.out) hb); have n3_ := Aside0.mk (below_step (by repeat (first | (with_reducible first | exact HB.out | apply below_alloc | apply pw_below_drewN | apply below_drew1 | refine below_set ?_ GE244.out | refine below_set ?_ GE245.out | refine below_set ?_ GE246.out) | exact HB.out)) hb); clear BK244; clear BK245; clear BK246; clear HB; have BK244 := n0_; have BK245 := n1_; have BK246 := n2_; have HB := n3_; clear n0_ n1_ n2_ n3_; (try clear hb); (try clear hb2); (try clear hk); (try clear hi); have hcz73_0 : w72.cell? ⟨gb244, 0, none⟩ = some (.string a0_0) := (blk_cell BK244.out 0).trans rfl; have hcz73_1 : w72.cell? ⟨gb244, 1, none⟩ = some (.string a0_1) := (blk_cell BK244.out 1).trans rfl; have hcz73_2 : w72.cell? ⟨gb244, 2, none⟩ = some (.bool a0_2) := (blk_cell BK244.out 2).trans rfl; have hfz73_0 := blk_frozen BK244.out 0; have hfz73_1 := blk_frozen BK244.out 1; have hfz73_2 := blk_frozen BK244.out 2) | (go_at_call 13; (with_reducible refine (stretch_In.calls a0_0 a0_1 a0_2 a3 false _ A36.out).mono ?_); rintro e w74 ⟨rfl, hb⟩; have n0_ := Aside0.mk (blk_below (g := gb244) (o := .cells #[.string a0_0, .string a0_1, .bool a0_2] 25 (0, 0)) (by (with_reducible repeat (first | refine blk_drewN ?_ _ | refine blk_drew ?_ | refine blk_alloc ?_ _)); exact BK244.out) hb); have n1_ := Aside0.mk (blk_below (g := gb245) (o := .cells #[.string a1_0, .string a1_1, .bool a1_2] 25 (0, 0)) (by (with_reducible repeat (first | refine blk_drewN ?_ _ | refine blk_drew ?_ | refine blk_alloc ?_ _)); exact BK245.out) hb); have n2_ := Aside0.mk (blk_below (g := gb246) (o := .cells #[.string a2_0, .string a2_1, .bool a2_2] 25 (0, 0)) (by (with_reducible repeat (first | refine blk_drewN ?_ _ | refine blk_drew ?_ | refine blk_alloc ?_ _)); exact BK246.out) hb); have n3_ := Aside0.mk (below_step (by repeat (first | (with_reducible first | exact HB.out | apply below_alloc | apply pw_below_drewN | apply below_drew1 | refine below_set ?_ GE244.out | refine below_set ?_ GE245.out | refine below_set ?_ GE246.out) | exact HB.out)) hb); clear BK244; clear BK245; clear BK246; clear HB; have BK244 := n0_; have BK245 := n1_; have BK246 := n2_; have HB := n3_; clear n0_ n1_ n2_ n3_; (try clear hb); (try clear hb2); (try clear hk); (try clear hi)))
                    go_meet
                    case rel => exact ⟨_, (false), (by first | rfl | (simp; done) | (simp [*]; done)), H', ⟨by have := HJ5.out; first | omega | exact Nat.le_refl _⟩, ⟨by (with_reducible repeat (first | refine blk_drewN ?_ _ | refine blk_drew ?_ | refine blk_alloc ?_ _)); exact BK244.out⟩, ⟨by (with_reducible repeat (first | refine blk_drewN ?_ _ | refine blk_drew ?_ | refine blk_alloc ?_ _)); exact BK245.out⟩, ⟨by (with_reducible repeat (first | refine blk_drewN ?_ _ | refine blk_drew ?_ | refine blk_alloc ?_ _)); exact BK246.out⟩, ⟨by repeat (first | (with_reducible first | exact HB.out | apply below_alloc | apply pw_below_drewN | apply below_drew1 | refine below_set ?_ GE244.out | refine below_set ?_ GE245.out | refine below_set ?_ GE246.out) | exact HB.out)⟩⟩
                · replace c35 := Bool.eq_false_iff.mpr c35
                  subst c35
                  have H1 : (none) = some r := by rw [if_neg (show ¬ (false = true) by decide)] at H; exact H
                  clear H
                  have H := H1
                  clear H1
                  exact absurd H (by simp)
              · replace c33 := Bool.eq_false_iff.mpr c33
                subst c33
                have H1 : (none) = some r := by rw [if_neg (show ¬ (false = true) by decide)] at H; exact H
                clear H
                have H := H1
                clear H1
                exact absurd H (by simp)
            · replace c31 := Bool.eq_false_iff.mpr c31
              subst c31
              have H1 : ((stretch_Within.f a0_0 a0_1 a0_2 a1_0 a1_1 a1_2).bind fun t257 => (if t257 = true then ((stretch_In.f a0_0 a0_1 a0_2 a3).bind fun t258 => (if t258 = true then ((stretch_In.f a1_0 a1_1 a1_2 a3).bind fun t259 => (weirkeeperlaw03_StretchWithin_v2.j1 kj5 a3 a4 (!t259) a0_0 a0_1 a0_2 a1_0 a1_1 a1_2)) else (weirkeeperlaw03_StretchWithin_v2.j1 kj5 a3 a4 false a0_0 a0_1 a0_2 a1_0 a1_1 a1_2))) else (none))) = some r := by rw [if_neg (show ¬ (false = true) by decide)] at H; exact H
              clear H
              have H := H1
              clear H1
              replace H := Option.bind_eq_some_iff.mp H
              obtain ⟨t257, A750, H⟩ := H
              replace H : (if t257 = true then ((stretch_In.f a0_0 a0_1 a0_2 a3).bind fun t258 => (if t258 = true then ((stretch_In.f a1_0 a1_1 a1_2 a3).bind fun t259 => (weirkeeperlaw03_StretchWithin_v2.j1 kj5 a3 a4 (!t259) a0_0 a0_1 a0_2 a1_0 a1_1 a1_2)) else (weirkeeperlaw03_StretchWithin_v2.j1 kj5 a3 a4 false a0_0 a0_1 a0_2 a1_0 a1_1 a1_2))) else (none)) = some r := H
              have A75 := Aside0.mk A750
              clear A750
              by_cases c76 : t257 = true
              · subst c76
                have H1 : ((stretch_In.f a0_0 a0_1 a0_2 a3).bind fun t258 => (if t258 = true then ((stretch_In.f a1_0 a1_1 a1_2 a3).bind fun t259 => (weirkeeperlaw03_StretchWithin_v2.j1 kj5 a3 a4 (!t259) a0_0 a0_1 a0_2 a1_0 a1_1 a1_2)) else (weirkeeperlaw03_StretchWithin_v2.j1 kj5 a3 a4 false a0_0 a0_1 a0_2 a1_0 a1_1 a1_2))) = some r := by rw [if_pos rfl] at H; exact H
                clear H
                have H := H1
                clear H1
                replace H := Option.bind_eq_some_iff.mp H
                obtain ⟨t258, A770, H⟩ := H
                replace H : (if t258 = true then ((stretch_In.f a1_0 a1_1 a1_2 a3).bind fun t259 => (weirkeeperlaw03_StretchWithin_v2.j1 kj5 a3 a4 (!t259) a0_0 a0_1 a0_2 a1_0 a1_1 a1_2)) else (weirkeeperlaw03_StretchWithin_v2.j1 kj5 a3 a4 false a0_0 a0_1 a0_2 a1_0 a1_1 a1_2)) = some r := H
                have A77 := Aside0.mk A770
                clear A770
                by_cases c78 : t258 = true
                · subst c78
                  have H1 : ((stretch_In.f a1_0 a1_1 a1_2 a3).bind fun t259 => (weirkeeperlaw03_StretchWithin_v2.j1 kj5 a3 a4 (!t259) a0_0 a0_1 a0_2 a1_0 a1_1 a1_2)) = some r := by rw [if_pos rfl] at H; exact H
                  clear H
                  have H := H1
                  clear H1
                  replace H := Option.bind_eq_some_iff.mp H
                  obtain ⟨t259, A790, H⟩ := H
                  replace H : (weirkeeperlaw03_StretchWithin_v2.j1 kj5 a3 a4 (!t259) a0_0 a0_1 a0_2 a1_0 a1_1 a1_2) = some r := H
                  have A79 := Aside0.mk A790
                  clear A790
                  have H' := Aside0.mk H
                  clear H
                  have hnb80 := NB244_245.out
                  have hnc80 := NB245_244.out
                  have hnb81 := NB244_246.out
                  have hnc81 := NB246_244.out
                  have hcz82_0 : wc.cell? ⟨gb244, 0, none⟩ = some (.string a0_0) := (blk_cell BK244.out 0).trans rfl
                  have hcz82_1 : wc.cell? ⟨gb244, 1, none⟩ = some (.string a0_1) := (blk_cell BK244.out 1).trans rfl
                  have hcz82_2 : wc.cell? ⟨gb244, 2, none⟩ = some (.bool a0_2) := (blk_cell BK244.out 2).trans rfl
                  have hfz82_0 := blk_frozen BK244.out 0
                  have hfz82_1 := blk_frozen BK244.out 1
                  have hfz82_2 := blk_frozen BK244.out 2
                  have hnb83 := NB245_246.out
                  have hnc83 := NB246_245.out
                  have hcz84_0 : wc.cell? ⟨gb245, 0, none⟩ = some (.string a1_0) := (blk_cell BK245.out 0).trans rfl
                  have hcz84_1 : wc.cell? ⟨gb245, 1, none⟩ = some (.string a1_1) := (blk_cell BK245.out 1).trans rfl
                  have hcz84_2 : wc.cell? ⟨gb245, 2, none⟩ = some (.bool a1_2) := (blk_cell BK245.out 2).trans rfl
                  have hfz84_0 := blk_frozen BK245.out 0
                  have hfz84_1 := blk_frozen BK245.out 1
                  have hfz84_2 := blk_frozen BK245.out 2
                  go_wp2_with (first | ((with_reducible refine gate_callee (f := 14) rfl ?_); refine goesL_ (some 39) rfl rfl Try.func14 (by kernel_rfl) rfl #[.agg #[.string a0_0, .string a0_1, .bool a0_2], .agg #[.string a1_0, .string a1_1, .bool a1_2]] rfl (by (try simp only [List.map_toArray, List.map_cons, List.map_nil]); first | done | rfl | (simp only [List.length_drop, List.length_take]; rfl)) ?_; (with_reducible refine (stretch_Within.calls a0_0 a0_1 a0_2 a1_0 a1_1 a1_2 true _ A28.out).mono ?_); rintro e w85 ⟨rfl, hb⟩; refine ⟨_, rfl, ?_⟩; have n0_ := Aside0.mk (blk_below (g := gb244) (o := .cells #[.string a0_0, .string a0_1, .bool a0_2] 25 (0, 0)) (by (with_reducible repeat (first | refine blk_drewN ?_ _ | refine blk_drew ?_ | refine blk_alloc ?_ _)); exact BK244.out) hb); have n1_ := Aside0.mk (blk_below (g := gb245) (o := .cells #[.string a1_0, .string a1_1, .bool a1_2] 25 (0, 0)) (by (with_reducible repeat (first | refine blk_drewN ?_ _ | refine blk_drew ?_ | refine blk_alloc ?_ _)); exact BK245.out) hb); have n2_ := Aside0.mk (blk_below (g := gb246) (o := .cells #[.string a2_0, .string a2_1, .bool a2_2] 25 (0, 0)) (by (with_reducible repeat (first | refine blk_drewN ?_ _ | refine blk_drew ?_ | refine blk_alloc ?_ _)); exact BK246.out) hb); have n3_ := Aside0.mk (below_step (by repeat (first | (with_reducible first | exact HB.out | apply below_alloc | apply pw_below_drewN | apply below_drew1 | refine below_set ?_ GE244.out | refine below_set ?_ GE245.out | refine below_set ?_ GE246.out) | exact HB.out)) hb); clear BK244; clear BK245; clear BK246; clear HB; have BK244 := n0_; have BK245 := n1_; have BK246 := n2_; have HB := n3_; clear n0_ n1_ n2_ n3_; (try clear hb); (try clear hb2); (try clear hk); (try clear hi); have hcz86_0 : w85.cell? ⟨gb245, 0, none⟩ = some (.string a1_0) := (blk_cell BK245.out 0).trans rfl; have hcz86_1 : w85.cell? ⟨gb245, 1, none⟩ = some (.string a1_1) := (blk_cell BK245.out 1).trans rfl; have hcz86_2 : w85.cell? ⟨gb245, 2, none⟩ = some (.bool a1_2) := (blk_cell BK245.out 2).trans rfl; have hfz86_0 := blk_frozen BK245.out 0; have hfz86_1 := blk_frozen BK245.out 1; have hfz86_2 := blk_frozen BK245.out 2; have hcz87_0 : w85.cell? ⟨gb246, 0, none⟩ = some (.string a2_0) := (blk_cell BK246.out 0).trans rfl; have hcz87_1 : w85.cell? ⟨gb246, 1, none⟩ = some (.string a2_1) := (blk_cell BK246.out 1).trans rfl; have hcz87_2 : w85.cell? ⟨gb246, 2, none⟩ = some (.bool a2_2) := (blk_cell BK246.out 2).trans rfl; have hfz87_0 := blk_frozen BK246.out 0; have hfz87_1 := blk_frozen BK246.out 1; have hfz87_2 := blk_frozen BK246.out 2) | (go_at_call 14; (with_reducible refine (stretch_Within.calls a1_0 a1_1 a1_2 a2_0 a2_1 a2_2 false _ A30.out).mono ?_); rintro e w88 ⟨rfl, hb⟩; have n0_ := Aside0.mk (blk_below (g := gb244) (o := .cells #[.string a0_0, .string a0_1, .bool a0_2] 25 (0, 0)) (by (with_reducible repeat (first | refine blk_drewN ?_ _ | refine blk_drew ?_ | refine blk_alloc ?_ _)); exact BK244.out) hb); have n1_ := Aside0.mk (blk_below (g := gb245) (o := .cells #[.string a1_0, .string a1_1, .bool a1_2] 25 (0, 0)) (by (with_reducible repeat (first | refine blk_drewN ?_ _ | refine blk_drew ?_ | refine blk_alloc ?_ _)); exact BK245.out) hb); have n2_ := Aside0.mk (blk_below (g := gb246) (o := .cells #[.string a2_0, .string a2_1, .bool a2_2] 25 (0, 0)) (by (with_reducible repeat (first | refine blk_drewN ?_ _ | refine blk_drew ?_ | refine blk_alloc ?_ _)); exact BK246.out) hb); have n3_ := Aside0.mk (below_step (by repeat (first | (with_reducible first | exact HB.out | apply below_alloc | apply pw_below_drewN | apply below_drew1 | refine below_set ?_ GE244.out | refine below_set ?_ GE245.out | refine below_set ?_ GE246.out) | exact HB.out)) hb); clear BK244; clear BK245; clear BK246; clear HB; have BK244 := n0_; have BK245 := n1_; have BK246 := n2_; have HB := n3_; clear n0_ n1_ n2_ n3_; (try clear hb); (try clear hb2); (try clear hk); (try clear hi); have hcz89_0 : w88.cell? ⟨gb244, 0, none⟩ = some (.string a0_0) := (blk_cell BK244.out 0).trans rfl; have hcz89_1 : w88.cell? ⟨gb244, 1, none⟩ = some (.string a0_1) := (blk_cell BK244.out 1).trans rfl; have hcz89_2 : w88.cell? ⟨gb244, 2, none⟩ = some (.bool a0_2) := (blk_cell BK244.out 2).trans rfl; have hfz89_0 := blk_frozen BK244.out 0; have hfz89_1 := blk_frozen BK244.out 1; have hfz89_2 := blk_frozen BK244.out 2; have hcz90_0 : w88.cell? ⟨gb245, 0, none⟩ = some (.string a1_0) := (blk_cell BK245.out 0).trans rfl; have hcz90_1 : w88.cell? ⟨gb245, 1, none⟩ = some (.string a1_1) := (blk_cell BK245.out 1).trans rfl; have hcz90_2 : w88.cell? ⟨gb245, 2, none⟩ = some (.bool a1_2) := (blk_cell BK245.out 2).trans rfl; have hfz90_0 := blk_frozen BK245.out 0; have hfz90_1 := blk_frozen BK245.out 1; have hfz90_2 := blk_frozen BK245.out 2) | (go_at_call 14; (with_reducible refine (stretch_Within.calls a0_0 a0_1 a0_2 a1_0 a1_1 a1_2 true _ A75.out).mono ?_); rintro e w91 ⟨rfl, hb⟩; have n0_ := Aside0.mk (blk_below (g := gb244) (o := .cells #[.string a0_0, .string a0_1, .bool a0_2] 25 (0, 0)) (by (with_reducible repeat (first | refine blk_drewN ?_ _ | refine blk_drew ?_ | refine blk_alloc ?_ _)); exact BK244.out) hb); have n1_ := Aside0.mk (blk_below (g := gb245) (o := .cells #[.string a1_0, .string a1_1, .bool a1_2] 25 (0, 0)) (by (with_reducible repeat (first | refine blk_drewN ?_ _ | refine blk_drew ?_ | refine blk_alloc ?_ _)); exact BK245.out) hb); have n2_ := Aside0.mk (blk_below (g := gb246) (o := .cells #[.string a2_0, .string a2_1, .bool a2_2] 25 (0, 0)) (by (with_reducible repeat (first | refine blk_drewN ?_ _ | refine blk_drew ?_ | refine blk_alloc ?_ _)); exact BK246.out) hb); have n3_ := Aside0.mk (below_step (by repeat (first | (with_reducible first | exact HB.out | apply below_alloc | apply pw_below_drewN | apply below_drew1 | refine below_set ?_ GE244.out | refine below_set ?_ GE245.out | refine below_set ?_ GE246.out) | exact HB.out)) hb); clear BK244; clear BK245; clear BK246; clear HB; have BK244 := n0_; have BK245 := n1_; have BK246 := n2_; have HB := n3_; clear n0_ n1_ n2_ n3_; (try clear hb); (try clear hb2); (try clear hk); (try clear hi); have hcz92_0 : w91.cell? ⟨gb244, 0, none⟩ = some (.string a0_0) := (blk_cell BK244.out 0).trans rfl; have hcz92_1 : w91.cell? ⟨gb244, 1, none⟩ = some (.string a0_1) := (blk_cell BK244.out 1).trans rfl; have hcz92_2 : w91.cell? ⟨gb244, 2, none⟩ = some (.bool a0_2) := (blk_cell BK244.out 2).trans rfl; have hfz92_0 := blk_frozen BK244.out 0; have hfz92_1 := blk_frozen BK244.out 1; have hfz92_2 := blk_frozen BK244.out 2) | (go_at_call 13; (with_reducible refine (stretch_In.calls a0_0 a0_1 a0_2 a3 true _ A77.out).mono ?_); rintro e w93 ⟨rfl, hb⟩; have n0_ := Aside0.mk (blk_below (g := gb244) (o := .cells #[.string a0_0, .string a0_1, .bool a0_2] 25 (0, 0)) (by (with_reducible repeat (first | refine blk_drewN ?_ _ | refine blk_drew ?_ | refine blk_alloc ?_ _)); exact BK244.out) hb); have n1_ := Aside0.mk (blk_below (g := gb245) (o := .cells #[.string a1_0, .string a1_1, .bool a1_2] 25 (0, 0)) (by (with_reducible repeat (first | refine blk_drewN ?_ _ | refine blk_drew ?_ | refine blk_alloc ?_ _)); exact BK245.out) hb); have n2_ := Aside0.mk (blk_below (g := gb246) (o := .cells #[.string a2_0, .string a2_1, .bool a2_2] 25 (0, 0)) (by (with_reducible repeat (first | refine blk_drewN ?_ _ | refine blk_drew ?_ | refine blk_alloc ?_ _)); exact BK246.out) hb); have n3_ := Aside0.mk (below_step (by repeat (first | (with_reducible first | exact HB.out | apply below_alloc | apply pw_below_drewN | apply below_drew1 | refine below_set ?_ GE244.out | refine below_set ?_ GE245.out | refine below_set ?_ GE246.out) | exact HB.out)) hb); clear BK244; clear BK245; clear BK246; clear HB; have BK244 := n0_; have BK245 := n1_; have BK246 := n2_; have HB := n3_; clear n0_ n1_ n2_ n3_; (try clear hb); (try clear hb2); (try clear hk); (try clear hi); have hcz94_0 : w93.cell? ⟨gb245, 0, none⟩ = some (.string a1_0) := (blk_cell BK245.out 0).trans rfl; have hcz94_1 : w93.cell? ⟨gb245, 1, none⟩ = some (.string a1_1) := (blk_cell BK245.out 1).trans rfl; have hcz94_2 : w93.cell? ⟨gb245, 2, none⟩ = some (.bool a1_2) := (blk_cell BK245.out 2).trans rfl; have hfz94_0 := blk_frozen BK245.out 0; have hfz94_1 := blk_frozen BK245.out 1; have hfz94_2 := blk_frozen BK245.out 2) | (go_at_call 13; (with_reducible refine (stretch_In.calls a1_0 a1_1 a1_2 a3 t259 _ A79.out).mono ?_); rintro e w95 ⟨rfl, hb⟩; have n0_ := Aside0.mk (blk_below (g := gb244) (o := .cells #[.string a0_0, .string a0_1, .bool a0_2] 25 (0, 0)) (by (with_reducible repeat (first | refine blk_drewN ?_ _ | refine blk_drew ?_ | refine blk_alloc ?_ _)); exact BK244.out) hb); have n1_ := Aside0.mk (blk_below (g := gb245) (o := .cells #[.string a1_0, .string a1_1, .bool a1_2] 25 (0, 0)) (by (with_reducible repeat (first | refine blk_drewN ?_ _ | refine blk_drew ?_ | refine blk_alloc ?_ _)); exact BK245.out) hb); have n2_ := Aside0.mk (blk_below (g := gb246) (o := .cells #[.string a2_0, .string a2_1, .bool a2_2] 25 (0, 0)) (by (with_reducible repeat (first | refine blk_drewN ?_ _ | refine blk_drew ?_ | refine blk_alloc ?_ _)); exact BK246.out) hb); have n3_ := Aside0.mk (below_step (by repeat (first | (with_reducible first | exact HB.out | apply below_alloc | apply pw_below_drewN | apply below_drew1 | refine below_set ?_ GE244.out | refine below_set ?_ GE245.out | refine below_set ?_ GE246.out) | exact HB.out)) hb); clear BK244; clear BK245; clear BK246; clear HB; have BK244 := n0_; have BK245 := n1_; have BK246 := n2_; have HB := n3_; clear n0_ n1_ n2_ n3_; (try clear hb); (try clear hb2); (try clear hk); (try clear hi)))
                  go_meet
                  case rel => exact ⟨_, (!t259), (by first | rfl | (simp; done) | (simp [*]; done)), H', ⟨by have := HJ5.out; first | omega | exact Nat.le_refl _⟩, ⟨by (with_reducible repeat (first | refine blk_drewN ?_ _ | refine blk_drew ?_ | refine blk_alloc ?_ _)); exact BK244.out⟩, ⟨by (with_reducible repeat (first | refine blk_drewN ?_ _ | refine blk_drew ?_ | refine blk_alloc ?_ _)); exact BK245.out⟩, ⟨by (with_reducible repeat (first | refine blk_drewN ?_ _ | refine blk_drew ?_ | refine blk_alloc ?_ _)); exact BK246.out⟩, ⟨by repeat (first | (with_reducible first | exact HB.out | apply below_alloc | apply pw_below_drewN | apply below_drew1 | refine below_set ?_ GE244.out | refine below_set ?_ GE245.out | refine below_set ?_ GE246.out) | exact HB.out)⟩⟩
                · replace c78 := Bool.eq_false_iff.mpr c78
                  subst c78
                  have H1 : (weirkeeperlaw03_StretchWithin_v2.j1 kj5 a3 a4 false a0_0 a0_1 a0_2 a1_0 a1_1 a1_2) = some r := by rw [if_neg (show ¬ (false = true) by decide)] at H; exact H
                  clear H
                  have H := H1
                  clear H1
                  have H' := Aside0.mk H
                  clear H
                  have hnb96 := NB244_245.out
                  have hnc96 := NB245_244.out
                  have hnb97 := NB244_246.out
                  have hnc97 := NB246_244.out
                  have hcz98_0 : wc.cell? ⟨gb244, 0, none⟩ = some (.string a0_0) := (blk_cell BK244.out 0).trans rfl
                  have hcz98_1 : wc.cell? ⟨gb244, 1, none⟩ = some (.string a0_1) := (blk_cell BK244.out 1).trans rfl
                  have hcz98_2 : wc.cell? ⟨gb244, 2, none⟩ = some (.bool a0_2) := (blk_cell BK244.out 2).trans rfl
                  have hfz98_0 := blk_frozen BK244.out 0
                  have hfz98_1 := blk_frozen BK244.out 1
                  have hfz98_2 := blk_frozen BK244.out 2
                  have hnb99 := NB245_246.out
                  have hnc99 := NB246_245.out
                  have hcz100_0 : wc.cell? ⟨gb245, 0, none⟩ = some (.string a1_0) := (blk_cell BK245.out 0).trans rfl
                  have hcz100_1 : wc.cell? ⟨gb245, 1, none⟩ = some (.string a1_1) := (blk_cell BK245.out 1).trans rfl
                  have hcz100_2 : wc.cell? ⟨gb245, 2, none⟩ = some (.bool a1_2) := (blk_cell BK245.out 2).trans rfl
                  have hfz100_0 := blk_frozen BK245.out 0
                  have hfz100_1 := blk_frozen BK245.out 1
                  have hfz100_2 := blk_frozen BK245.out 2
                  go_wp2_with (first | ((with_reducible refine gate_callee (f := 14) rfl ?_); refine goesL_ (some 39) rfl rfl Try.func14 (by kernel_rfl) rfl #[.agg #[.string a0_0, .string a0_1, .bool a0_2], .agg #[.string a1_0, .string a1_1, .bool a1_2]] rfl (by (try simp only [List.map_toArray, List.map_cons, List.map_nil]); first | done | rfl | (simp only [List.length_drop, List.length_take]; rfl)) ?_; (with_reducible refine (stretch_Within.calls a0_0 a0_1 a0_2 a1_0 a1_1 a1_2 true _ A28.out).mono ?_); rintro e w101 ⟨rfl, hb⟩; refine ⟨_, rfl, ?_⟩; have n0_ := Aside0.mk (blk_below (g := gb244) (o := .cells #[.string a0_0, .string a0_1, .bool a0_2] 25 (0, 0)) (by (with_reducible repeat (first | refine blk_drewN ?_ _ | refine blk_drew ?_ | refine blk_alloc ?_ _)); exact BK244.out) hb); have n1_ := Aside0.mk (blk_below (g := gb245) (o := .cells #[.string a1_0, .string a1_1, .bool a1_2] 25 (0, 0)) (by (with_reducible repeat (first | refine blk_drewN ?_ _ | refine blk_drew ?_ | refine blk_alloc ?_ _)); exact BK245.out) hb); have n2_ := Aside0.mk (blk_below (g := gb246) (o := .cells #[.string a2_0, .string a2_1, .bool a2_2] 25 (0, 0)) (by (with_reducible repeat (first | refine blk_drewN ?_ _ | refine blk_drew ?_ | refine blk_alloc ?_ _)); exact BK246.out) hb); have n3_ := Aside0.mk (below_step (by repeat (first | (with_reducible first | exact HB.out | apply below_alloc | apply pw_below_drewN | apply below_drew1 | refine below_set ?_ GE244.out | refine below_set ?_ GE245.out | refine below_set ?_ GE246.out) | exact HB.out)) hb); clear BK244; clear BK245; clear BK246; clear HB; have BK244 := n0_; have BK245 := n1_; have BK246 := n2_; have HB := n3_; clear n0_ n1_ n2_ n3_; (try clear hb); (try clear hb2); (try clear hk); (try clear hi); have hcz102_0 : w101.cell? ⟨gb245, 0, none⟩ = some (.string a1_0) := (blk_cell BK245.out 0).trans rfl; have hcz102_1 : w101.cell? ⟨gb245, 1, none⟩ = some (.string a1_1) := (blk_cell BK245.out 1).trans rfl; have hcz102_2 : w101.cell? ⟨gb245, 2, none⟩ = some (.bool a1_2) := (blk_cell BK245.out 2).trans rfl; have hfz102_0 := blk_frozen BK245.out 0; have hfz102_1 := blk_frozen BK245.out 1; have hfz102_2 := blk_frozen BK245.out 2; have hcz103_0 : w101.cell? ⟨gb246, 0, none⟩ = some (.string a2_0) := (blk_cell BK246.out 0).trans rfl; have hcz103_1 : w101.cell? ⟨gb246, 1, none⟩ = some (.string a2_1) := (blk_cell BK246.out 1).trans rfl; have hcz103_2 : w101.cell? ⟨gb246, 2, none⟩ = some (.bool a2_2) := (blk_cell BK246.out 2).trans rfl; have hfz103_0 := blk_frozen BK246.out 0; have hfz103_1 := blk_frozen BK246.out 1; have hfz103_2 := blk_frozen BK246.out 2) | (go_at_call 14; (with_reducible refine (stretch_Within.calls a1_0 a1_1 a1_2 a2_0 a2_1 a2_2 false _ A30.out).mono ?_); rintro e w104 ⟨rfl, hb⟩; have n0_ := Aside0.mk (blk_below (g := gb244) (o := .cells #[.string a0_0, .string a0_1, .bool a0_2] 25 (0, 0)) (by (with_reducible repeat (first | refine blk_drewN ?_ _ | refine blk_drew ?_ | refine blk_alloc ?_ _)); exact BK244.out) hb); have n1_ := Aside0.mk (blk_below (g := gb245) (o := .cells #[.string a1_0, .string a1_1, .bool a1_2] 25 (0, 0)) (by (with_reducible repeat (first | refine blk_drewN ?_ _ | refine blk_drew ?_ | refine blk_alloc ?_ _)); exact BK245.out) hb); have n2_ := Aside0.mk (blk_below (g := gb246) (o := .cells #[.string a2_0, .string a2_1, .bool a2_2] 25 (0, 0)) (by (with_reducible repeat (first | refine blk_drewN ?_ _ | refine blk_drew ?_ | refine blk_alloc ?_ _)); exact BK246.out) hb); have n3_ := Aside0.mk (below_step (by repeat (first | (with_reducible first | exact HB.out | apply below_alloc | apply pw_below_drewN | apply below_drew1 | refine below_set ?_ GE244.out | refine below_set ?_ GE245.out | refine below_set ?_ GE246.out) | exact HB.out)) hb); clear BK244; clear BK245; clear BK246; clear HB; have BK244 := n0_; have BK245 := n1_; have BK246 := n2_; have HB := n3_; clear n0_ n1_ n2_ n3_; (try clear hb); (try clear hb2); (try clear hk); (try clear hi); have hcz105_0 : w104.cell? ⟨gb244, 0, none⟩ = some (.string a0_0) := (blk_cell BK244.out 0).trans rfl; have hcz105_1 : w104.cell? ⟨gb244, 1, none⟩ = some (.string a0_1) := (blk_cell BK244.out 1).trans rfl; have hcz105_2 : w104.cell? ⟨gb244, 2, none⟩ = some (.bool a0_2) := (blk_cell BK244.out 2).trans rfl; have hfz105_0 := blk_frozen BK244.out 0; have hfz105_1 := blk_frozen BK244.out 1; have hfz105_2 := blk_frozen BK244.out 2; have hcz106_0 : w104.cell? ⟨gb245, 0, none⟩ = some (.string a1_0) := (blk_cell BK245.out 0).trans rfl; have hcz106_1 : w104.cell? ⟨gb245, 1, none⟩ = some (.string a1_1) := (blk_cell BK245.out 1).trans rfl; have hcz106_2 : w104.cell? ⟨gb245, 2, none⟩ = some (.bool a1_2) := (blk_cell BK245.out 2).trans rfl; have hfz106_0 := blk_frozen BK245.out 0; have hfz106_1 := blk_frozen BK245.out 1; have hfz106_2 := blk_frozen BK245.out 2) | (go_at_call 14; (with_reducible refine (stretch_Within.calls a0_0 a0_1 a0_2 a1_0 a1_1 a1_2 true _ A75.out).mono ?_); rintro e w107 ⟨rfl, hb⟩; have n0_ := Aside0.mk (blk_below (g := gb244) (o := .cells #[.string a0_0, .string a0_1, .bool a0_2] 25 (0, 0)) (by (with_reducible repeat (first | refine blk_drewN ?_ _ | refine blk_drew ?_ | refine blk_alloc ?_ _)); exact BK244.out) hb); have n1_ := Aside0.mk (blk_below (g := gb245) (o := .cells #[.string a1_0, .string a1_1, .bool a1_2] 25 (0, 0)) (by (with_reducible repeat (first | refine blk_drewN ?_ _ | refine blk_drew ?_ | refine blk_alloc ?_ _)); exact BK245.out) hb); have n2_ := Aside0.mk (blk_below (g := gb246) (o := .cells #[.string a2_0, .string a2_1, .bool a2_2] 25 (0, 0)) (by (with_reducible repeat (first | refine blk_drewN ?_ _ | refine blk_drew ?_ | refine blk_alloc ?_ _)); exact BK246.out) hb); have n3_ := Aside0.mk (below_step (by repeat (first | (with_reducible first | exact HB.out | apply below_alloc | apply pw_below_drewN | apply below_drew1 | refine below_set ?_ GE244.out | refine below_set ?_ GE245.out | refine below_set ?_ GE246.out) | exact HB.out)) hb); clear BK244; clear BK245; clear BK246; clear HB; have BK244 := n0_; have BK245 := n1_; have BK246 := n2_; have HB := n3_; clear n0_ n1_ n2_ n3_; (try clear hb); (try clear hb2); (try clear hk); (try clear hi); have hcz108_0 : w107.cell? ⟨gb244, 0, none⟩ = some (.string a0_0) := (blk_cell BK244.out 0).trans rfl; have hcz108_1 : w107.cell? ⟨gb244, 1, none⟩ = some (.string a0_1) := (blk_cell BK244.out 1).trans rfl; have hcz108_2 : w107.cell? ⟨gb244, 2, none⟩ = some (.bool a0_2) := (blk_cell BK244.out 2).trans rfl; have hfz108_0 := blk_frozen BK244.out 0; have hfz108_1 := blk_frozen BK244.out 1; have hfz108_2 := blk_frozen BK244.out 2) | (go_at_call 13; (with_reducible refine (stretch_In.calls a0_0 a0_1 a0_2 a3 false _ A77.out).mono ?_); rintro e w109 ⟨rfl, hb⟩; have n0_ := Aside0.mk (blk_below (g := gb244) (o := .cells #[.string a0_0, .string a0_1, .bool a0_2] 25 (0, 0)) (by (with_reducible repeat (first | refine blk_drewN ?_ _ | refine blk_drew ?_ | refine blk_alloc ?_ _)); exact BK244.out) hb); have n1_ := Aside0.mk (blk_below (g := gb245) (o := .cells #[.string a1_0, .string a1_1, .bool a1_2] 25 (0, 0)) (by (with_reducible repeat (first | refine blk_drewN ?_ _ | refine blk_drew ?_ | refine blk_alloc ?_ _)); exact BK245.out) hb); have n2_ := Aside0.mk (blk_below (g := gb246) (o := .cells #[.string a2_0, .string a2_1, .bool a2_2] 25 (0, 0)) (by (with_reducible repeat (first | refine blk_drewN ?_ _ | refine blk_drew ?_ | refine blk_alloc ?_ _)); exact BK246.out) hb); have n3_ := Aside0.mk (below_step (by repeat (first | (with_reducible first | exact HB.out | apply below_alloc | apply pw_below_drewN | apply below_drew1 | refine below_set ?_ GE244.out | refine below_set ?_ GE245.out | refine below_set ?_ GE246.out) | exact HB.out)) hb); clear BK244; clear BK245; clear BK246; clear HB; have BK244 := n0_; have BK245 := n1_; have BK246 := n2_; have HB := n3_; clear n0_ n1_ n2_ n3_; (try clear hb); (try clear hb2); (try clear hk); (try clear hi)))
                  go_meet
                  case rel => exact ⟨_, (false), (by first | rfl | (simp; done) | (simp [*]; done)), H', ⟨by have := HJ5.out; first | omega | exact Nat.le_refl _⟩, ⟨by (with_reducible repeat (first | refine blk_drewN ?_ _ | refine blk_drew ?_ | refine blk_alloc ?_ _)); exact BK244.out⟩, ⟨by (with_reducible repeat (first | refine blk_drewN ?_ _ | refine blk_drew ?_ | refine blk_alloc ?_ _)); exact BK245.out⟩, ⟨by (with_reducible repeat (first | refine blk_drewN ?_ _ | refine blk_drew ?_ | refine blk_alloc ?_ _)); exact BK246.out⟩, ⟨by repeat (first | (with_reducible first | exact HB.out | apply below_alloc | apply pw_below_drewN | apply below_drew1 | refine below_set ?_ GE244.out | refine below_set ?_ GE245.out | refine below_set ?_ GE246.out) | exact HB.out)⟩⟩
              · replace c76 := Bool.eq_false_iff.mpr c76
                subst c76
                have H1 : (none) = some r := by rw [if_neg (show ¬ (false = true) by decide)] at H; exact H
                clear H
                have H := H1
                clear H1
                exact absurd H (by simp)
          · replace c29 := Bool.eq_false_iff.mpr c29
            subst c29
            have H1 : ((stretch_Within.f a0_0 a0_1 a0_2 a1_0 a1_1 a1_2).bind fun t260 => (if t260 = true then (none) else (weirkeeperlaw03_StretchWithin_v2.j1 kj5 a3 a4 false a0_0 a0_1 a0_2 a1_0 a1_1 a1_2))) = some r := by rw [if_neg (show ¬ (false = true) by decide)] at H; exact H
            clear H
            have H := H1
            clear H1
            replace H := Option.bind_eq_some_iff.mp H
            obtain ⟨t260, A1100, H⟩ := H
            replace H : (if t260 = true then (none) else (weirkeeperlaw03_StretchWithin_v2.j1 kj5 a3 a4 false a0_0 a0_1 a0_2 a1_0 a1_1 a1_2)) = some r := H
            have A110 := Aside0.mk A1100
            clear A1100
            by_cases c111 : t260 = true
            · subst c111
              have H1 : (none) = some r := by rw [if_pos rfl] at H; exact H
              clear H
              have H := H1
              clear H1
              exact absurd H (by simp)
            · replace c111 := Bool.eq_false_iff.mpr c111
              subst c111
              have H1 : (weirkeeperlaw03_StretchWithin_v2.j1 kj5 a3 a4 false a0_0 a0_1 a0_2 a1_0 a1_1 a1_2) = some r := by rw [if_neg (show ¬ (false = true) by decide)] at H; exact H
              clear H
              have H := H1
              clear H1
              have H' := Aside0.mk H
              clear H
              have hnb112 := NB244_245.out
              have hnc112 := NB245_244.out
              have hnb113 := NB244_246.out
              have hnc113 := NB246_244.out
              have hcz114_0 : wc.cell? ⟨gb244, 0, none⟩ = some (.string a0_0) := (blk_cell BK244.out 0).trans rfl
              have hcz114_1 : wc.cell? ⟨gb244, 1, none⟩ = some (.string a0_1) := (blk_cell BK244.out 1).trans rfl
              have hcz114_2 : wc.cell? ⟨gb244, 2, none⟩ = some (.bool a0_2) := (blk_cell BK244.out 2).trans rfl
              have hfz114_0 := blk_frozen BK244.out 0
              have hfz114_1 := blk_frozen BK244.out 1
              have hfz114_2 := blk_frozen BK244.out 2
              have hnb115 := NB245_246.out
              have hnc115 := NB246_245.out
              have hcz116_0 : wc.cell? ⟨gb245, 0, none⟩ = some (.string a1_0) := (blk_cell BK245.out 0).trans rfl
              have hcz116_1 : wc.cell? ⟨gb245, 1, none⟩ = some (.string a1_1) := (blk_cell BK245.out 1).trans rfl
              have hcz116_2 : wc.cell? ⟨gb245, 2, none⟩ = some (.bool a1_2) := (blk_cell BK245.out 2).trans rfl
              have hfz116_0 := blk_frozen BK245.out 0
              have hfz116_1 := blk_frozen BK245.out 1
              have hfz116_2 := blk_frozen BK245.out 2
              go_wp2_with (first | ((with_reducible refine gate_callee (f := 14) rfl ?_); refine goesL_ (some 39) rfl rfl Try.func14 (by kernel_rfl) rfl #[.agg #[.string a0_0, .string a0_1, .bool a0_2], .agg #[.string a1_0, .string a1_1, .bool a1_2]] rfl (by (try simp only [List.map_toArray, List.map_cons, List.map_nil]); first | done | rfl | (simp only [List.length_drop, List.length_take]; rfl)) ?_; (with_reducible refine (stretch_Within.calls a0_0 a0_1 a0_2 a1_0 a1_1 a1_2 false _ A28.out).mono ?_); rintro e w117 ⟨rfl, hb⟩; refine ⟨_, rfl, ?_⟩; have n0_ := Aside0.mk (blk_below (g := gb244) (o := .cells #[.string a0_0, .string a0_1, .bool a0_2] 25 (0, 0)) (by (with_reducible repeat (first | refine blk_drewN ?_ _ | refine blk_drew ?_ | refine blk_alloc ?_ _)); exact BK244.out) hb); have n1_ := Aside0.mk (blk_below (g := gb245) (o := .cells #[.string a1_0, .string a1_1, .bool a1_2] 25 (0, 0)) (by (with_reducible repeat (first | refine blk_drewN ?_ _ | refine blk_drew ?_ | refine blk_alloc ?_ _)); exact BK245.out) hb); have n2_ := Aside0.mk (blk_below (g := gb246) (o := .cells #[.string a2_0, .string a2_1, .bool a2_2] 25 (0, 0)) (by (with_reducible repeat (first | refine blk_drewN ?_ _ | refine blk_drew ?_ | refine blk_alloc ?_ _)); exact BK246.out) hb); have n3_ := Aside0.mk (below_step (by repeat (first | (with_reducible first | exact HB.out | apply below_alloc | apply pw_below_drewN | apply below_drew1 | refine below_set ?_ GE244.out | refine below_set ?_ GE245.out | refine below_set ?_ GE246.out) | exact HB.out)) hb); clear BK244; clear BK245; clear BK246; clear HB; have BK244 := n0_; have BK245 := n1_; have BK246 := n2_; have HB := n3_; clear n0_ n1_ n2_ n3_; (try clear hb); (try clear hb2); (try clear hk); (try clear hi); have hcz118_0 : w117.cell? ⟨gb244, 0, none⟩ = some (.string a0_0) := (blk_cell BK244.out 0).trans rfl; have hcz118_1 : w117.cell? ⟨gb244, 1, none⟩ = some (.string a0_1) := (blk_cell BK244.out 1).trans rfl; have hcz118_2 : w117.cell? ⟨gb244, 2, none⟩ = some (.bool a0_2) := (blk_cell BK244.out 2).trans rfl; have hfz118_0 := blk_frozen BK244.out 0; have hfz118_1 := blk_frozen BK244.out 1; have hfz118_2 := blk_frozen BK244.out 2; have hcz119_0 : w117.cell? ⟨gb245, 0, none⟩ = some (.string a1_0) := (blk_cell BK245.out 0).trans rfl; have hcz119_1 : w117.cell? ⟨gb245, 1, none⟩ = some (.string a1_1) := (blk_cell BK245.out 1).trans rfl; have hcz119_2 : w117.cell? ⟨gb245, 2, none⟩ = some (.bool a1_2) := (blk_cell BK245.out 2).trans rfl; have hfz119_0 := blk_frozen BK245.out 0; have hfz119_1 := blk_frozen BK245.out 1; have hfz119_2 := blk_frozen BK245.out 2) | (go_at_call 14; (with_reducible refine (stretch_Within.calls a0_0 a0_1 a0_2 a1_0 a1_1 a1_2 false _ A110.out).mono ?_); rintro e w120 ⟨rfl, hb⟩; have n0_ := Aside0.mk (blk_below (g := gb244) (o := .cells #[.string a0_0, .string a0_1, .bool a0_2] 25 (0, 0)) (by (with_reducible repeat (first | refine blk_drewN ?_ _ | refine blk_drew ?_ | refine blk_alloc ?_ _)); exact BK244.out) hb); have n1_ := Aside0.mk (blk_below (g := gb245) (o := .cells #[.string a1_0, .string a1_1, .bool a1_2] 25 (0, 0)) (by (with_reducible repeat (first | refine blk_drewN ?_ _ | refine blk_drew ?_ | refine blk_alloc ?_ _)); exact BK245.out) hb); have n2_ := Aside0.mk (blk_below (g := gb246) (o := .cells #[.string a2_0, .string a2_1, .bool a2_2] 25 (0, 0)) (by (with_reducible repeat (first | refine blk_drewN ?_ _ | refine blk_drew ?_ | refine blk_alloc ?_ _)); exact BK246.out) hb); have n3_ := Aside0.mk (below_step (by repeat (first | (with_reducible first | exact HB.out | apply below_alloc | apply pw_below_drewN | apply below_drew1 | refine below_set ?_ GE244.out | refine below_set ?_ GE245.out | refine below_set ?_ GE246.out) | exact HB.out)) hb); clear BK244; clear BK245; clear BK246; clear HB; have BK244 := n0_; have BK245 := n1_; have BK246 := n2_; have HB := n3_; clear n0_ n1_ n2_ n3_; (try clear hb); (try clear hb2); (try clear hk); (try clear hi)))
              go_meet
              case rel => exact ⟨_, (false), (by first | rfl | (simp; done) | (simp [*]; done)), H', ⟨by have := HJ5.out; first | omega | exact Nat.le_refl _⟩, ⟨by (with_reducible repeat (first | refine blk_drewN ?_ _ | refine blk_drew ?_ | refine blk_alloc ?_ _)); exact BK244.out⟩, ⟨by (with_reducible repeat (first | refine blk_drewN ?_ _ | refine blk_drew ?_ | refine blk_alloc ?_ _)); exact BK245.out⟩, ⟨by (with_reducible repeat (first | refine blk_drewN ?_ _ | refine blk_drew ?_ | refine blk_alloc ?_ _)); exact BK246.out⟩, ⟨by repeat (first | (with_reducible first | exact HB.out | apply below_alloc | apply pw_below_drewN | apply below_drew1 | refine below_set ?_ GE244.out | refine below_set ?_ GE245.out | refine below_set ?_ GE246.out) | exact HB.out)⟩⟩
        case rest =>
          clear HC27
          try clear c1
          try clear c2
          try clear p2
          try clear c3
          try clear c4
          try clear c5
          try clear c6
          try clear c7
          try clear c8
          try clear c9
          try clear c11
          try clear c13
          try clear c14
          try clear c15
          try clear c16
          try clear c16b0
          try clear c16b1
          try clear c17
          try clear c18
          try clear c21
          try clear c26
          try clear c29
          try clear c31
          try clear c33
          try clear c35
          try clear c37
          try clear c39
          try clear c40
          try clear c42
          try clear c58
          try clear c59
          try clear c61
          try clear c76
          try clear c78
          try clear c80
          try clear c81
          try clear c83
          try clear c96
          try clear c97
          try clear c99
          try clear c111
          try clear c112
          try clear c113
          try clear c115
          try clear hcz100_0
          try clear hcz100_1
          try clear hcz100_2
          try clear hcz102_0
          try clear hcz102_1
          try clear hcz102_2
          try clear hcz103_0
          try clear hcz103_1
          try clear hcz103_2
          try clear hcz105_0
          try clear hcz105_1
          try clear hcz105_2
          try clear hcz106_0
          try clear hcz106_1
          try clear hcz106_2
          try clear hcz108_0
          try clear hcz108_1
          try clear hcz108_2
          try clear hcz114_0
          try clear hcz114_1
          try clear hcz114_2
          try clear hcz116_0
          try clear hcz116_1
          try clear hcz116_2
          try clear hcz118_0
          try clear hcz118_1
          try clear hcz118_2
          try clear hcz119_0
          try clear hcz119_1
          try clear hcz119_2
          try clear hcz19_0
          try clear hcz19_1
          try clear hcz19_2
          try clear hcz22_0
          try clear hcz22_1
          try clear hcz22_2
          try clear hcz24_0
          try clear hcz24_1
          try clear hcz24_2
          try clear hcz41_0
          try clear hcz41_1
          try clear hcz41_2
          try clear hcz43_0
          try clear hcz43_1
          try clear hcz43_2
          try clear hcz45_0
          try clear hcz45_1
          try clear hcz45_2
          try clear hcz46_0
          try clear hcz46_1
          try clear hcz46_2
          try clear hcz48_0
          try clear hcz48_1
          try clear hcz48_2
          try clear hcz49_0
          try clear hcz49_1
          try clear hcz49_2
          try clear hcz51_0
          try clear hcz51_1
          try clear hcz51_2
          try clear hcz52_0
          try clear hcz52_1
          try clear hcz52_2
          try clear hcz54_0
          try clear hcz54_1
          try clear hcz54_2
          try clear hcz56_0
          try clear hcz56_1
          try clear hcz56_2
          try clear hcz60_0
          try clear hcz60_1
          try clear hcz60_2
          try clear hcz62_0
          try clear hcz62_1
          try clear hcz62_2
          try clear hcz64_0
          try clear hcz64_1
          try clear hcz64_2
          try clear hcz65_0
          try clear hcz65_1
          try clear hcz65_2
          try clear hcz67_0
          try clear hcz67_1
          try clear hcz67_2
          try clear hcz68_0
          try clear hcz68_1
          try clear hcz68_2
          try clear hcz70_0
          try clear hcz70_1
          try clear hcz70_2
          try clear hcz71_0
          try clear hcz71_1
          try clear hcz71_2
          try clear hcz73_0
          try clear hcz73_1
          try clear hcz73_2
          try clear hcz82_0
          try clear hcz82_1
          try clear hcz82_2
          try clear hcz84_0
          try clear hcz84_1
          try clear hcz84_2
          try clear hcz86_0
          try clear hcz86_1
          try clear hcz86_2
          try clear hcz87_0
          try clear hcz87_1
          try clear hcz87_2
          try clear hcz89_0
          try clear hcz89_1
          try clear hcz89_2
          try clear hcz90_0
          try clear hcz90_1
          try clear hcz90_2
          try clear hcz92_0
          try clear hcz92_1
          try clear hcz92_2
          try clear hcz94_0
          try clear hcz94_1
          try clear hcz94_2
          try clear hcz98_0
          try clear hcz98_1
          try clear hcz98_2
          try clear hfz100_0
          try clear hfz100_1
          try clear hfz100_2
          try clear hfz102_0
          try clear hfz102_1
          try clear hfz102_2
          try clear hfz103_0
          try clear hfz103_1
          try clear hfz103_2
          try clear hfz105_0
          try clear hfz105_1
          try clear hfz105_2
          try clear hfz106_0
          try clear hfz106_1
          try clear hfz106_2
          try clear hfz108_0
          try clear hfz108_1
          try clear hfz108_2
          try clear hfz114_0
          try clear hfz114_1
          try clear hfz114_2
          try clear hfz116_0
          try clear hfz116_1
          try clear hfz116_2
          try clear hfz118_0
          try clear hfz118_1
          try clear hfz118_2
          try clear hfz119_0
          try clear hfz119_1
          try clear hfz119_2
          try clear hfz19_0
          try clear hfz19_1
          try clear hfz19_2
          try clear hfz22_0
          try clear hfz22_1
          try clear hfz22_2
          try clear hfz24_0
          try clear hfz24_1
          try clear hfz24_2
          try clear hfz41_0
          try clear hfz41_1
          try clear hfz41_2
          try clear hfz43_0
          try clear hfz43_1
          try clear hfz43_2
          try clear hfz45_0
          try clear hfz45_1
          try clear hfz45_2
          try clear hfz46_0
          try clear hfz46_1
          try clear hfz46_2
          try clear hfz48_0
          try clear hfz48_1
          try clear hfz48_2
          try clear hfz49_0
          try clear hfz49_1
          try clear hfz49_2
          try clear hfz51_0
          try clear hfz51_1
          try clear hfz51_2
          try clear hfz52_0
          try clear hfz52_1
          try clear hfz52_2
          try clear hfz54_0
          try clear hfz54_1
          try clear hfz54_2
          try clear hfz56_0
          try clear hfz56_1
          try clear hfz56_2
          try clear hfz60_0
          try clear hfz60_1
          try clear hfz60_2
          try clear hfz62_0
          try clear hfz62_1
          try clear hfz62_2
          try clear hfz64_0
          try clear hfz64_1
          try clear hfz64_2
          try clear hfz65_0
          try clear hfz65_1
          try clear hfz65_2
          try clear hfz67_0
          try clear hfz67_1
          try clear hfz67_2
          try clear hfz68_0
          try clear hfz68_1
          try clear hfz68_2
          try clear hfz70_0
          try clear hfz70_1
          try clear hfz70_2
          try clear hfz71_0
          try clear hfz71_1
          try clear hfz71_2
          try clear hfz73_0
          try clear hfz73_1
          try clear hfz73_2
          try clear hfz82_0
          try clear hfz82_1
          try clear hfz82_2
          try clear hfz84_0
          try clear hfz84_1
          try clear hfz84_2
          try clear hfz86_0
          try clear hfz86_1
          try clear hfz86_2
          try clear hfz87_0
          try clear hfz87_1
          try clear hfz87_2
          try clear hfz89_0
          try clear hfz89_1
          try clear hfz89_2
          try clear hfz90_0
          try clear hfz90_1
          try clear hfz90_2
          try clear hfz92_0
          try clear hfz92_1
          try clear hfz92_2
          try clear hfz94_0
          try clear hfz94_1
          try clear hfz94_2
          try clear hfz98_0
          try clear hfz98_1
          try clear hfz98_2
          try clear p2
          obtain ⟨kq, x66_26, rfl, HA, HJ26, BK244, BK245, BK246, HB⟩ := hcut
          cases kq with
          | zero => exact absurd HA.out (by simp [weirkeeperlaw03_StretchWithin_v2.j1])
          | succ kj26 =>
            have H := HA.out
            clear HA
            simp only [weirkeeperlaw03_StretchWithin_v2.j1] at H
            by_cases c121 : x66_26 = true
            · subst c121
              have H1 : (none) = some r := by rw [if_pos rfl] at H; exact H
              clear H
              have H := H1
              clear H1
              exact absurd H (by simp)
            · replace c121 := Bool.eq_false_iff.mpr c121
              subst c121
              have H1 : ((stretch_Meet.f kj26 (([(⟨a0_0, a0_1, a0_2⟩ : S25), (⟨a1_0, a1_1, a1_2⟩ : S25)] : List (S25)))).bind fun bt266 => ((stretch_Behind.f a0_0 a0_1 a0_2 a3).bind fun bt270 => ((stretch_Within.f bt266.1 bt266.2.1 bt266.2.2 a0_0 a0_1 a0_2).bind fun t274 => (if t274 = true then ((stretch_Within.f bt266.1 bt266.2.1 bt266.2.2 a1_0 a1_1 a1_2).bind fun t275 => (if t275 = true then ((stretch_In.f bt270.1 bt270.2.1 bt270.2.2 a4).bind fun t276 => ((stretch_In.f a0_0 a0_1 a0_2 a4).bind fun t277 => (if t277 = true then (none) else (if (t276 == false) = true then ((stretch_Empty.f a0_0 a0_1 a0_2).bind fun t282 => (if t282 = true then ((stretch_In.f a0_0 a0_1 a0_2 a3).bind fun t283 => (if t283 = true then (none) else ((weirkeeperlaw03_awake.f kj26).bind fun t284 => (some t284)))) else ((weirkeeperlaw03_awake.f kj26).bind fun t285 => (some t285)))) else (none))))) else (none))) else (none))))) = some r := by rw [if_neg (show ¬ (false = true) by decide)] at H; exact H
              clear H
              have H := H1
              clear H1
              obtain ⟨y263, hy263⟩ : ∃ y_ : List (S25), y_ = (([(⟨a0_0, a0_1, a0_2⟩ : S25), (⟨a1_0, a1_1, a1_2⟩ : S25)] : List (S25))) := ⟨_, rfl⟩
              replace H : ((stretch_Meet.f kj26 y263).bind fun bt266 => ((stretch_Behind.f a0_0 a0_1 a0_2 a3).bind fun bt270 => ((stretch_Within.f bt266.1 bt266.2.1 bt266.2.2 a0_0 a0_1 a0_2).bind fun t274 => (if t274 = true then ((stretch_Within.f bt266.1 bt266.2.1 bt266.2.2 a1_0 a1_1 a1_2).bind fun t275 => (if t275 = true then ((stretch_In.f bt270.1 bt270.2.1 bt270.2.2 a4).bind fun t276 => ((stretch_In.f a0_0 a0_1 a0_2 a4).bind fun t277 => (if t277 = true then (none) else (if (t276 == false) = true then ((stretch_Empty.f a0_0 a0_1 a0_2).bind fun t282 => (if t282 = true then ((stretch_In.f a0_0 a0_1 a0_2 a3).bind fun t283 => (if t283 = true then (none) else ((weirkeeperlaw03_awake.f kj26).bind fun t284 => (some t284)))) else ((weirkeeperlaw03_awake.f kj26).bind fun t285 => (some t285)))) else (none))))) else (none))) else (none))))) = some r := by first | (rw [hy263]; with_reducible exact H) | (have H2_ := (Option.bind_some _ _).symm.trans H; rw [hy263]; with_reducible exact H2_) | (have H2_ := (Option.bind_some _ _).symm.trans H; with_reducible exact H2_) | with_reducible exact H | (rw [hy263]; exact H) | exact H
              have Ny263 := Aside0.mk hy263
              clear hy263
              replace H := Option.bind_eq_some_iff.mp H
              obtain ⟨⟨t266, t267, t268⟩, A1220, H⟩ := H
              replace H : ((stretch_Behind.f a0_0 a0_1 a0_2 a3).bind fun bt270 => ((stretch_Within.f t266 t267 t268 a0_0 a0_1 a0_2).bind fun t274 => (if t274 = true then ((stretch_Within.f t266 t267 t268 a1_0 a1_1 a1_2).bind fun t275 => (if t275 = true then ((stretch_In.f bt270.1 bt270.2.1 bt270.2.2 a4).bind fun t276 => ((stretch_In.f a0_0 a0_1 a0_2 a4).bind fun t277 => (if t277 = true then (none) else (if (t276 == false) = true then ((stretch_Empty.f a0_0 a0_1 a0_2).bind fun t282 => (if t282 = true then ((stretch_In.f a0_0 a0_1 a0_2 a3).bind fun t283 => (if t283 = true then (none) else ((weirkeeperlaw03_awake.f kj26).bind fun t284 => (some t284)))) else ((weirkeeperlaw03_awake.f kj26).bind fun t285 => (some t285)))) else (none))))) else (none))) else (none)))) = some r := H
              have A122 := Aside0.mk A1220
              clear A1220
              replace H := Option.bind_eq_some_iff.mp H
              obtain ⟨⟨t270, t271, t272⟩, A1230, H⟩ := H
              replace H : ((stretch_Within.f t266 t267 t268 a0_0 a0_1 a0_2).bind fun t274 => (if t274 = true then ((stretch_Within.f t266 t267 t268 a1_0 a1_1 a1_2).bind fun t275 => (if t275 = true then ((stretch_In.f t270 t271 t272 a4).bind fun t276 => ((stretch_In.f a0_0 a0_1 a0_2 a4).bind fun t277 => (if t277 = true then (none) else (if (t276 == false) = true then ((stretch_Empty.f a0_0 a0_1 a0_2).bind fun t282 => (if t282 = true then ((stretch_In.f a0_0 a0_1 a0_2 a3).bind fun t283 => (if t283 = true then (none) else ((weirkeeperlaw03_awake.f kj26).bind fun t284 => (some t284)))) else ((weirkeeperlaw03_awake.f kj26).bind fun t285 => (some t285)))) else (none))))) else (none))) else (none))) = some r := H
              have A123 := Aside0.mk A1230
              clear A1230
              replace H := Option.bind_eq_some_iff.mp H
              obtain ⟨t274, A1240, H⟩ := H
              replace H : (if t274 = true then ((stretch_Within.f t266 t267 t268 a1_0 a1_1 a1_2).bind fun t275 => (if t275 = true then ((stretch_In.f t270 t271 t272 a4).bind fun t276 => ((stretch_In.f a0_0 a0_1 a0_2 a4).bind fun t277 => (if t277 = true then (none) else (if (t276 == false) = true then ((stretch_Empty.f a0_0 a0_1 a0_2).bind fun t282 => (if t282 = true then ((stretch_In.f a0_0 a0_1 a0_2 a3).bind fun t283 => (if t283 = true then (none) else ((weirkeeperlaw03_awake.f kj26).bind fun t284 => (some t284)))) else ((weirkeeperlaw03_awake.f kj26).bind fun t285 => (some t285)))) else (none))))) else (none))) else (none)) = some r := H
              have A124 := Aside0.mk A1240
              clear A1240
              by_cases c125 : t274 = true
              · subst c125
                have H1 : ((stretch_Within.f t266 t267 t268 a1_0 a1_1 a1_2).bind fun t275 => (if t275 = true then ((stretch_In.f t270 t271 t272 a4).bind fun t276 => ((stretch_In.f a0_0 a0_1 a0_2 a4).bind fun t277 => (if t277 = true then (none) else (if (t276 == false) = true then ((stretch_Empty.f a0_0 a0_1 a0_2).bind fun t282 => (if t282 = true then ((stretch_In.f a0_0 a0_1 a0_2 a3).bind fun t283 => (if t283 = true then (none) else ((weirkeeperlaw03_awake.f kj26).bind fun t284 => (some t284)))) else ((weirkeeperlaw03_awake.f kj26).bind fun t285 => (some t285)))) else (none))))) else (none))) = some r := by rw [if_pos rfl] at H; exact H
                clear H
                have H := H1
                clear H1
                replace H := Option.bind_eq_some_iff.mp H
                obtain ⟨t275, A1260, H⟩ := H
                replace H : (if t275 = true then ((stretch_In.f t270 t271 t272 a4).bind fun t276 => ((stretch_In.f a0_0 a0_1 a0_2 a4).bind fun t277 => (if t277 = true then (none) else (if (t276 == false) = true then ((stretch_Empty.f a0_0 a0_1 a0_2).bind fun t282 => (if t282 = true then ((stretch_In.f a0_0 a0_1 a0_2 a3).bind fun t283 => (if t283 = true then (none) else ((weirkeeperlaw03_awake.f kj26).bind fun t284 => (some t284)))) else ((weirkeeperlaw03_awake.f kj26).bind fun t285 => (some t285)))) else (none))))) else (none)) = some r := H
                have A126 := Aside0.mk A1260
                clear A1260
                by_cases c127 : t275 = true
                · subst c127
                  have H1 : ((stretch_In.f t270 t271 t272 a4).bind fun t276 => ((stretch_In.f a0_0 a0_1 a0_2 a4).bind fun t277 => (if t277 = true then (none) else (if (t276 == false) = true then ((stretch_Empty.f a0_0 a0_1 a0_2).bind fun t282 => (if t282 = true then ((stretch_In.f a0_0 a0_1 a0_2 a3).bind fun t283 => (if t283 = true then (none) else ((weirkeeperlaw03_awake.f kj26).bind fun t284 => (some t284)))) else ((weirkeeperlaw03_awake.f kj26).bind fun t285 => (some t285)))) else (none))))) = some r := by rw [if_pos rfl] at H; exact H
                  clear H
                  have H := H1
                  clear H1
                  replace H := Option.bind_eq_some_iff.mp H
                  obtain ⟨t276, A1280, H⟩ := H
                  replace H : ((stretch_In.f a0_0 a0_1 a0_2 a4).bind fun t277 => (if t277 = true then (none) else (if (t276 == false) = true then ((stretch_Empty.f a0_0 a0_1 a0_2).bind fun t282 => (if t282 = true then ((stretch_In.f a0_0 a0_1 a0_2 a3).bind fun t283 => (if t283 = true then (none) else ((weirkeeperlaw03_awake.f kj26).bind fun t284 => (some t284)))) else ((weirkeeperlaw03_awake.f kj26).bind fun t285 => (some t285)))) else (none)))) = some r := H
                  have A128 := Aside0.mk A1280
                  clear A1280
                  replace H := Option.bind_eq_some_iff.mp H
                  obtain ⟨t277, A1290, H⟩ := H
                  replace H : (if t277 = true then (none) else (if (t276 == false) = true then ((stretch_Empty.f a0_0 a0_1 a0_2).bind fun t282 => (if t282 = true then ((stretch_In.f a0_0 a0_1 a0_2 a3).bind fun t283 => (if t283 = true then (none) else ((weirkeeperlaw03_awake.f kj26).bind fun t284 => (some t284)))) else ((weirkeeperlaw03_awake.f kj26).bind fun t285 => (some t285)))) else (none))) = some r := H
                  have A129 := Aside0.mk A1290
                  clear A1290
                  by_cases c130 : t277 = true
                  · subst c130
                    have H1 : (none) = some r := by rw [if_pos rfl] at H; exact H
                    clear H
                    have H := H1
                    clear H1
                    exact absurd H (by simp)
                  · replace c130 := Bool.eq_false_iff.mpr c130
                    subst c130
                    have H1 : (if (t276 == false) = true then ((stretch_Empty.f a0_0 a0_1 a0_2).bind fun t282 => (if t282 = true then ((stretch_In.f a0_0 a0_1 a0_2 a3).bind fun t283 => (if t283 = true then (none) else ((weirkeeperlaw03_awake.f kj26).bind fun t284 => (some t284)))) else ((weirkeeperlaw03_awake.f kj26).bind fun t285 => (some t285)))) else (none)) = some r := by rw [if_neg (show ¬ (false = true) by decide)] at H; exact H
                    clear H
                    have H := H1
                    clear H1
                    by_cases c131 : (t276 == false) = true
                    · rw [if_pos c131] at H
                      have c131b0 : (t276 == false) = true := c131
                      (try (have c131b1 : decide (t276 = false) = true := by simpa using c131))
                      (try (have c131b2 : (t276 == false) = true := by simpa using c131))
                      clear c131
                      replace H := Option.bind_eq_some_iff.mp H
                      obtain ⟨t282, A1320, H⟩ := H
                      replace H : (if t282 = true then ((stretch_In.f a0_0 a0_1 a0_2 a3).bind fun t283 => (if t283 = true then (none) else ((weirkeeperlaw03_awake.f kj26).bind fun t284 => (some t284)))) else ((weirkeeperlaw03_awake.f kj26).bind fun t285 => (some t285))) = some r := H
                      have A132 := Aside0.mk A1320
                      clear A1320
                      by_cases c133 : t282 = true
                      · subst c133
                        have H1 : ((stretch_In.f a0_0 a0_1 a0_2 a3).bind fun t283 => (if t283 = true then (none) else ((weirkeeperlaw03_awake.f kj26).bind fun t284 => (some t284)))) = some r := by rw [if_pos rfl] at H; exact H
                        clear H
                        have H := H1
                        clear H1
                        replace H := Option.bind_eq_some_iff.mp H
                        obtain ⟨t283, A1340, H⟩ := H
                        replace H : (if t283 = true then (none) else ((weirkeeperlaw03_awake.f kj26).bind fun t284 => (some t284))) = some r := H
                        have A134 := Aside0.mk A1340
                        clear A1340
                        by_cases c135 : t283 = true
                        · subst c135
                          have H1 : (none) = some r := by rw [if_pos rfl] at H; exact H
                          clear H
                          have H := H1
                          clear H1
                          exact absurd H (by simp)
                        · replace c135 := Bool.eq_false_iff.mpr c135
                          subst c135
                          have H1 : ((weirkeeperlaw03_awake.f kj26).bind fun t284 => (some t284)) = some r := by rw [if_neg (show ¬ (false = true) by decide)] at H; exact H
                          clear H
                          have H := H1
                          clear H1
                          replace H := Option.bind_eq_some_iff.mp H
                          obtain ⟨t284, A1360, H⟩ := H
                          replace H : (some t284) = some r := H
                          have A136 := Aside0.mk A1360
                          clear A1360
                          obtain rfl := Option.some.inj H
                          have hnb137 := NB244_245.out
                          have hnc137 := NB245_244.out
                          have hnb138 := NB244_246.out
                          have hnc138 := NB246_244.out
                          have hcz139_0 : wc.cell? ⟨gb244, 0, none⟩ = some (.string a0_0) := (blk_cell BK244.out 0).trans rfl
                          have hcz139_1 : wc.cell? ⟨gb244, 1, none⟩ = some (.string a0_1) := (blk_cell BK244.out 1).trans rfl
                          have hcz139_2 : wc.cell? ⟨gb244, 2, none⟩ = some (.bool a0_2) := (blk_cell BK244.out 2).trans rfl
                          have hfz139_0 := blk_frozen BK244.out 0
                          have hfz139_1 := blk_frozen BK244.out 1
                          have hfz139_2 := blk_frozen BK244.out 2
                          have hnb140 := NB245_246.out
                          have hnc140 := NB246_245.out
                          have hcz141_0 : wc.cell? ⟨gb245, 0, none⟩ = some (.string a1_0) := (blk_cell BK245.out 0).trans rfl
                          have hcz141_1 : wc.cell? ⟨gb245, 1, none⟩ = some (.string a1_1) := (blk_cell BK245.out 1).trans rfl
                          have hcz141_2 : wc.cell? ⟨gb245, 2, none⟩ = some (.bool a1_2) := (blk_cell BK245.out 2).trans rfl
                          have hfz141_0 := blk_frozen BK245.out 0
                          have hfz141_1 := blk_frozen BK245.out 1
                          have hfz141_2 := blk_frozen BK245.out 2
                          try go_wp2_with (first | ((with_reducible refine gate_dst (N := 69) rfl ?_); (try (refine gate_guard (by rfl) ?_; dsimp only)); refine Kd.R_lit k25 _ 25 ?hg (N := 69) ?hd (xs := ([(⟨a0_0, a0_1, a0_2⟩ : S25), (⟨a1_0, a1_1, a1_2⟩ : S25)] : List (S25))) (inner := [.string a0_0, .string a0_1, .bool a0_2, .string a1_0, .string a1_1, .bool a1_2]) (ok := fun _ => True) (okp := fun _ => True) ?hr ?hp (fun _ hk => hk) trivial (Below.refl _ _) (Nat.le_refl _) (by simp) ?_; (case hd => rfl); (case hg => rfl); (case hr => first | (go_simp; done) | (go_simp; rfl)); (case hp => exact (Reps.c3 (show Kd.M k25 _ _ _ (⟨a0_0, a0_1, a0_2⟩ : S25) [.string a0_0, .string a0_1, .bool a0_2] from (k25_mkM _ _ _ (⟨a0_0, a0_1, a0_2⟩ : S25) )) (Reps.c3 (show Kd.M k25 _ _ _ (⟨a1_0, a1_1, a1_2⟩ : S25) [.string a1_0, .string a1_1, .bool a1_2] from (k25_mkM _ _ _ (⟨a1_0, a1_1, a1_2⟩ : S25) )) (Reps.none _ _)))); intro v264 w142 ho143 hb hg_ hnew_; clear hg_ hnew_; (first | rw [← Ny263.out] at ho143 | (simp only [Int.reduceToNat] at ho143; rw [← Ny263.out] at ho143)); have n0_ := Aside0.mk (Kd.R_lower (Kd.R_newB (Kd.R_newB (Kd.R_newB ho143 (g := gb244) (o := .cells #[.string a0_0, .string a0_1, .bool a0_2] 25 (0, 0)) (by (with_reducible repeat (first | refine blk_drewN ?_ _ | refine blk_drew ?_ | refine blk_alloc ?_ _)); exact BK244.out)) (g := gb245) (o := .cells #[.string a1_0, .string a1_1, .bool a1_2] 25 (0, 0)) (by (with_reducible repeat (first | refine blk_drewN ?_ _ | refine blk_drew ?_ | refine blk_alloc ?_ _)); exact BK245.out)) (g := gb246) (o := .cells #[.string a2_0, .string a2_1, .bool a2_2] 25 (0, 0)) (by (with_reducible repeat (first | refine blk_drewN ?_ _ | refine blk_drew ?_ | refine blk_alloc ?_ _)); exact BK246.out)) (below_size (by repeat (first | (with_reducible first | exact HB.out | apply below_alloc | apply pw_below_drewN | apply below_drew1 | refine below_set ?_ GE244.out | refine below_set ?_ GE245.out | refine below_set ?_ GE246.out) | exact HB.out)))); have n1_ := Aside0.mk (blk_below (g := gb244) (o := .cells #[.string a0_0, .string a0_1, .bool a0_2] 25 (0, 0)) (by (with_reducible repeat (first | refine blk_drewN ?_ _ | refine blk_drew ?_ | refine blk_alloc ?_ _)); exact BK244.out) hb); have n2_ := Aside0.mk (blk_below (g := gb245) (o := .cells #[.string a1_0, .string a1_1, .bool a1_2] 25 (0, 0)) (by (with_reducible repeat (first | refine blk_drewN ?_ _ | refine blk_drew ?_ | refine blk_alloc ?_ _)); exact BK245.out) hb); have n3_ := Aside0.mk (blk_below (g := gb246) (o := .cells #[.string a2_0, .string a2_1, .bool a2_2] 25 (0, 0)) (by (with_reducible repeat (first | refine blk_drewN ?_ _ | refine blk_drew ?_ | refine blk_alloc ?_ _)); exact BK246.out) hb); have n4_ := Aside0.mk (below_step (by repeat (first | (with_reducible first | exact HB.out | apply below_alloc | apply pw_below_drewN | apply below_drew1 | refine below_set ?_ GE244.out | refine below_set ?_ GE245.out | refine below_set ?_ GE246.out) | exact HB.out)) hb); clear BK244; clear BK245; clear BK246; clear HB; have HO265 := n0_; have BK244 := n1_; have BK245 := n2_; have BK246 := n3_; have HB := n4_; clear n0_ n1_ n2_ n3_ n4_; clear hb ho143; obtain ⟨Ao144, co144, eo144⟩ := Kd.R_slice HO265.out; subst eo144) | ((with_reducible refine gate_callee (f := 11) rfl ?_); refine goesL_ (some 70) rfl rfl Try.func11 (by kernel_rfl) rfl #[.slice Ao144 y263.length co144] rfl (by (try simp only [List.map_toArray, List.map_cons, List.map_nil]); first | done | rfl | (simp only [List.length_drop, List.length_take]; rfl)) ?_; (with_reducible refine (stretch_Meet.calls kj26 _ _ y263 t266 t267 t268 _ ?side1 ?side2 A122.out).mono ?_); (case side1 => repeat (first | exact (Kd.R_reads' HO265.out).2.2 | (with_reducible refine Kd.C_alloc ?_ _) | (with_reducible refine Kd.C_drewN ?_ _) | (with_reducible refine Kd.C_drew ?_))); (case side2 => exact (Kd.R_reads' HO265.out).2.1); rintro e w145 ⟨rfl, hb⟩; refine ⟨_, rfl, ?_⟩; have n0_ := Aside0.mk (Kd.R_below (by (with_reducible repeat (first | apply Kd.R_alloc | apply Kd.R_drewN | apply Kd.R_drew)); exact HO265.out) hb); have n1_ := Aside0.mk (blk_below (g := gb244) (o := .cells #[.string a0_0, .string a0_1, .bool a0_2] 25 (0, 0)) (by (with_reducible repeat (first | refine blk_drewN ?_ _ | refine blk_drew ?_ | refine blk_alloc ?_ _)); exact BK244.out) hb); have n2_ := Aside0.mk (blk_below (g := gb245) (o := .cells #[.string a1_0, .string a1_1, .bool a1_2] 25 (0, 0)) (by (with_reducible repeat (first | refine blk_drewN ?_ _ | refine blk_drew ?_ | refine blk_alloc ?_ _)); exact BK245.out) hb); have n3_ := Aside0.mk (blk_below (g := gb246) (o := .cells #[.string a2_0, .string a2_1, .bool a2_2] 25 (0, 0)) (by (with_reducible repeat (first | refine blk_drewN ?_ _ | refine blk_drew ?_ | refine blk_alloc ?_ _)); exact BK246.out) hb); have n4_ := Aside0.mk (below_step (by repeat (first | (with_reducible first | exact HB.out | apply below_alloc | apply pw_below_drewN | apply below_drew1 | refine below_set ?_ GE244.out | refine below_set ?_ GE245.out | refine below_set ?_ GE246.out) | exact HB.out)) hb); clear HO265; clear BK244; clear BK245; clear BK246; clear HB; have HO265 := n0_; have BK244 := n1_; have BK245 := n2_; have BK246 := n3_; have HB := n4_; clear n0_ n1_ n2_ n3_ n4_; (try clear hb); (try clear hb2); (try clear hk); (try clear hi)) | ((with_reducible refine gate_dst (N := 11) rfl ?_); (try (refine gate_guard (by rfl) ?_; dsimp only)); refine box_event ?hg (N := 11) ?hd (cs := #[.string (⟨#[]⟩ : ByteArray), .string (⟨#[]⟩ : ByteArray), .bool false]) (t := 25) ?hr ?_; (case hd => rfl); (case hg => rfl); (case hr => first | (go_simp; done) | (go_simp; rfl)); intro gb269 hg w146 hbox hb; have n0_ := Aside0.mk (Kd.R_below (Kd.R_elderB (by (with_reducible repeat (first | apply Kd.R_alloc | apply Kd.R_drewN | apply Kd.R_drew)); exact HO265.out) gb269 (Nat.le_of_eq hg.symm)) hb); have n1_ := Aside0.mk (blk_below (g := gb244) (o := .cells #[.string a0_0, .string a0_1, .bool a0_2] 25 (0, 0)) (by (with_reducible repeat (first | refine blk_drewN ?_ _ | refine blk_drew ?_ | refine blk_alloc ?_ _)); exact BK244.out) hb); have n2_ := Aside0.mk (blk_below (g := gb245) (o := .cells #[.string a1_0, .string a1_1, .bool a1_2] 25 (0, 0)) (by (with_reducible repeat (first | refine blk_drewN ?_ _ | refine blk_drew ?_ | refine blk_alloc ?_ _)); exact BK245.out) hb); have n3_ := Aside0.mk (blk_below (g := gb246) (o := .cells #[.string a2_0, .string a2_1, .bool a2_2] 25 (0, 0)) (by (with_reducible repeat (first | refine blk_drewN ?_ _ | refine blk_drew ?_ | refine blk_alloc ?_ _)); exact BK246.out) hb); have n4_ := Aside0.mk (below_step (by repeat (first | (with_reducible first | exact HB.out | apply below_alloc | apply pw_below_drewN | apply below_drew1 | refine below_set ?_ GE244.out | refine below_set ?_ GE245.out | refine below_set ?_ GE246.out) | exact HB.out)) hb); have n5_ := Aside0.mk (hbox); have n6_ := Aside0.mk ((by rw [hg]; exact (below_size (by repeat (first | (with_reducible first | exact HB.out | apply below_alloc | apply pw_below_drewN | apply below_drew1 | refine below_set ?_ GE244.out | refine below_set ?_ GE245.out | refine below_set ?_ GE246.out) | exact HB.out))) : w.heap.size ≤ gb269)); have n7_ := Aside0.mk ((by rw [hg]; exact (below_size (by repeat (first | (with_reducible first | exact HB.out | apply below_alloc | apply pw_below_drewN | apply below_drew1 | refine below_set ?_ GE244.out | refine below_set ?_ GE245.out | refine below_set ?_ GE246.out) | exact HB.out))) : w.heap.size ≤ gb269)); have n8_ := Aside0.mk ((by rw [hg]; exact Nat.ne_of_lt (blk_lt (g := gb244) (o := .cells #[.string a0_0, .string a0_1, .bool a0_2] 25 (0, 0)) (by (with_reducible repeat (first | refine blk_drewN ?_ _ | refine blk_drew ?_ | refine blk_alloc ?_ _)); exact BK244.out)) : gb244 ≠ gb269)); have n9_ := Aside0.mk ((by rw [hg]; exact Nat.ne_of_gt (blk_lt (g := gb244) (o := .cells #[.string a0_0, .string a0_1, .bool a0_2] 25 (0, 0)) (by (with_reducible repeat (first | refine blk_drewN ?_ _ | refine blk_drew ?_ | refine blk_alloc ?_ _)); exact BK244.out)) : gb269 ≠ gb244)); have n10_ := Aside0.mk ((by rw [hg]; exact Nat.ne_of_lt (blk_lt (g := gb245) (o := .cells #[.string a1_0, .string a1_1, .bool a1_2] 25 (0, 0)) (by (with_reducible repeat (first | refine blk_drewN ?_ _ | refine blk_drew ?_ | refine blk_alloc ?_ _)); exact BK245.out)) : gb245 ≠ gb269)); have n11_ := Aside0.mk ((by rw [hg]; exact Nat.ne_of_gt (blk_lt (g := gb245) (o := .cells #[.string a1_0, .string a1_1, .bool a1_2] 25 (0, 0)) (by (with_reducible repeat (first | refine blk_drewN ?_ _ | refine blk_drew ?_ | refine blk_alloc ?_ _)); exact BK245.out)) : gb269 ≠ gb245)); have n12_ := Aside0.mk ((by rw [hg]; exact Nat.ne_of_lt (blk_lt (g := gb246) (o := .cells #[.string a2_0, .string a2_1, .bool a2_2] 25 (0, 0)) (by (with_reducible repeat (first | refine blk_drewN ?_ _ | refine blk_drew ?_ | refine blk_alloc ?_ _)); exact BK246.out)) : gb246 ≠ gb269)); have n13_ := Aside0.mk ((by rw [hg]; exact Nat.ne_of_gt (blk_lt (g := gb246) (o := .cells #[.string a2_0, .string a2_1, .bool a2_2] 25 (0, 0)) (by (with_reducible repeat (first | refine blk_drewN ?_ _ | refine blk_drew ?_ | refine blk_alloc ?_ _)); exact BK246.out)) : gb269 ≠ gb246)); clear HO265; clear BK244; clear BK245; clear BK246; clear HB; have HO265 := n0_; have BK244 := n1_; have BK245 := n2_; have BK246 := n3_; have HB := n4_; have BK269 := n5_; have GW269 := n6_; have GE269 := n7_; have NB244_269 := n8_; have NB269_244 := n9_; have NB245_269 := n10_; have NB269_245 := n11_; have NB246_269 := n12_; have NB269_246 := n13_; clear n0_ n1_ n2_ n3_ n4_ n5_ n6_ n7_ n8_ n9_ n10_ n11_ n12_ n13_; clear hb hbox hg; have hnb147 := NB269_244.out; have hnc147 := NB244_269.out; have hnb148 := NB269_245.out; have hnc148 := NB245_269.out; have hnb149 := NB269_246.out; have hnc149 := NB246_269.out; have hcz150_0 : w146.cell? ⟨gb269, 0, none⟩ = some (.string (⟨#[]⟩ : ByteArray)) := (blk_cell BK269.out 0).trans rfl; have hcz150_1 : w146.cell? ⟨gb269, 1, none⟩ = some (.string (⟨#[]⟩ : ByteArray)) := (blk_cell BK269.out 1).trans rfl; have hcz150_2 : w146.cell? ⟨gb269, 2, none⟩ = some (.bool false) := (blk_cell BK269.out 2).trans rfl; have hfz150_0 := blk_frozen BK269.out 0; have hfz150_1 := blk_frozen BK269.out 1; have hfz150_2 := blk_frozen BK269.out 2; have hcz151_0 : w146.cell? ⟨gb244, 0, none⟩ = some (.string a0_0) := (blk_cell BK244.out 0).trans rfl; have hcz151_1 : w146.cell? ⟨gb244, 1, none⟩ = some (.string a0_1) := (blk_cell BK244.out 1).trans rfl; have hcz151_2 : w146.cell? ⟨gb244, 2, none⟩ = some (.bool a0_2) := (blk_cell BK244.out 2).trans rfl; have hfz151_0 := blk_frozen BK244.out 0; have hfz151_1 := blk_frozen BK244.out 1; have hfz151_2 := blk_frozen BK244.out 2) | ((with_reducible refine gate_callee (f := 15) rfl ?_); refine goesL_ (some 73) rfl rfl Try.func15 (by kernel_rfl) rfl #[.agg #[.string a0_0, .string a0_1, .bool a0_2], .string a3] rfl (by (try simp only [List.map_toArray, List.map_cons, List.map_nil]); first | done | rfl | (simp only [List.length_drop, List.length_take]; rfl)) ?_; (with_reducible refine (stretch_Behind.calls a0_0 a0_1 a0_2 a3 t270 t271 t272 _ A123.out).mono ?_); rintro e w152 ⟨rfl, hb⟩; refine ⟨_, rfl, ?_⟩; have n0_ := Aside0.mk (Kd.R_below (by (with_reducible repeat (first | apply Kd.R_alloc | apply Kd.R_drewN | apply Kd.R_drew)); exact (Kd.R_mono (Kd.R_far (p := ⟨gb269, 2, none⟩) (Kd.R_far (p := ⟨gb269, 1, none⟩) (Kd.R_far (p := ⟨gb269, 0, none⟩) (Kd.R_mono HO265.out (fun k_ hk => (⟨hk, hk.2⟩ : _ ∧ k_ ≠ gb269))) (fun _ hk => hk.2) (.string t266)) (fun _ hk => hk.2) (.string t267)) (fun _ hk => hk.2) (.bool t268)) (fun _ h_ => h_.1))) hb); have n1_ := Aside0.mk (blk_below (g := gb244) (o := .cells #[.string a0_0, .string a0_1, .bool a0_2] 25 (0, 0)) (by (with_reducible repeat (first | refine blk_drewN ?_ _ | refine blk_drew ?_ | refine blk_alloc ?_ _)); refine blk_far ?_ NB244_269.out _; (with_reducible repeat (first | refine blk_drewN ?_ _ | refine blk_drew ?_ | refine blk_alloc ?_ _)); refine blk_far ?_ NB244_269.out _; (with_reducible repeat (first | refine blk_drewN ?_ _ | refine blk_drew ?_ | refine blk_alloc ?_ _)); refine blk_far ?_ NB244_269.out _; (with_reducible repeat (first | refine blk_drewN ?_ _ | refine blk_drew ?_ | refine blk_alloc ?_ _)); exact BK244.out) hb); have n2_ := Aside0.mk (blk_below (g := gb245) (o := .cells #[.string a1_0, .string a1_1, .bool a1_2] 25 (0, 0)) (by (with_reducible repeat (first | refine blk_drewN ?_ _ | refine blk_drew ?_ | refine blk_alloc ?_ _)); refine blk_far ?_ NB245_269.out _; (with_reducible repeat (first | refine blk_drewN ?_ _ | refine blk_drew ?_ | refine blk_alloc ?_ _)); refine blk_far ?_ NB245_269.out _; (with_reducible repeat (first | refine blk_drewN ?_ _ | refine blk_drew ?_ | refine blk_alloc ?_ _)); refine blk_far ?_ NB245_269.out _; (with_reducible repeat (first | refine blk_drewN ?_ _ | refine blk_drew ?_ | refine blk_alloc ?_ _)); exact BK245.out) hb); have n3_ := Aside0.mk (blk_below (g := gb246) (o := .cells #[.string a2_0, .string a2_1, .bool a2_2] 25 (0, 0)) (by (with_reducible repeat (first | refine blk_drewN ?_ _ | refine blk_drew ?_ | refine blk_alloc ?_ _)); refine blk_far ?_ NB246_269.out _; (with_reducible repeat (first | refine blk_drewN ?_ _ | refine blk_drew ?_ | refine blk_alloc ?_ _)); refine blk_far ?_ NB246_269.out _; (with_reducible repeat (first | refine blk_drewN ?_ _ | refine blk_drew ?_ | refine blk_alloc ?_ _)); refine blk_far ?_ NB246_269.out _; (with_reducible repeat (first | refine blk_drewN ?_ _ | refine blk_drew ?_ | refine blk_alloc ?_ _)); exact BK246.out) hb); have n4_ := Aside0.mk (blk_below (g := gb269) (o := .cells #[.string t266, .string t267, .bool t268] 25 (0, 0)) (by (with_reducible repeat (first | refine blk_drewN ?_ _ | refine blk_drew ?_ | refine blk_alloc ?_ _)); refine blk_put (cs := #[.string t266, .string t267, .bool false]) ?_ 2 _ rfl; (with_reducible repeat (first | refine blk_drewN ?_ _ | refine blk_drew ?_ | refine blk_alloc ?_ _)); refine blk_put (cs := #[.string t266, .string (⟨#[]⟩ : ByteArray), .bool false]) ?_ 1 _ rfl; (with_reducible repeat (first | refine blk_drewN ?_ _ | refine blk_drew ?_ | refine blk_alloc ?_ _)); refine blk_put (cs := #[.string (⟨#[]⟩ : ByteArray), .string (⟨#[]⟩ : ByteArray), .bool false]) ?_ 0 _ rfl; (with_reducible repeat (first | refine blk_drewN ?_ _ | refine blk_drew ?_ | refine blk_alloc ?_ _)); exact BK269.out) hb); have n5_ := Aside0.mk (below_step (by repeat (first | (with_reducible first | exact HB.out | apply below_alloc | apply pw_below_drewN | apply below_drew1 | refine below_set ?_ GE244.out | refine below_set ?_ GE245.out | refine below_set ?_ GE246.out | refine below_set ?_ GE269.out) | exact HB.out)) hb); clear HO265; clear BK244; clear BK245; clear BK246; clear BK269; clear HB; have HO265 := n0_; have BK244 := n1_; have BK245 := n2_; have BK246 := n3_; have BK269 := n4_; have HB := n5_; clear n0_ n1_ n2_ n3_ n4_ n5_; (try clear hb); (try clear hb2); (try clear hk); (try clear hi)) | ((with_reducible refine gate_dst (N := 12) rfl ?_); (try (refine gate_guard (by rfl) ?_; dsimp only)); refine box_event ?hg (N := 12) ?hd (cs := #[.string (⟨#[]⟩ : ByteArray), .string (⟨#[]⟩ : ByteArray), .bool false]) (t := 25) ?hr ?_; (case hd => rfl); (case hg => rfl); (case hr => first | (go_simp; done) | (go_simp; rfl)); intro gb273 hg w153 hbox hb; have n0_ := Aside0.mk (Kd.R_below (Kd.R_elderB (by (with_reducible repeat (first | apply Kd.R_alloc | apply Kd.R_drewN | apply Kd.R_drew)); exact HO265.out) gb273 (Nat.le_of_eq hg.symm)) hb); have n1_ := Aside0.mk (blk_below (g := gb244) (o := .cells #[.string a0_0, .string a0_1, .bool a0_2] 25 (0, 0)) (by (with_reducible repeat (first | refine blk_drewN ?_ _ | refine blk_drew ?_ | refine blk_alloc ?_ _)); exact BK244.out) hb); have n2_ := Aside0.mk (blk_below (g := gb245) (o := .cells #[.string a1_0, .string a1_1, .bool a1_2] 25 (0, 0)) (by (with_reducible repeat (first | refine blk_drewN ?_ _ | refine blk_drew ?_ | refine blk_alloc ?_ _)); exact BK245.out) hb); have n3_ := Aside0.mk (blk_below (g := gb246) (o := .cells #[.string a2_0, .string a2_1, .bool a2_2] 25 (0, 0)) (by (with_reducible repeat (first | refine blk_drewN ?_ _ | refine blk_drew ?_ | refine blk_alloc ?_ _)); exact BK246.out) hb); have n4_ := Aside0.mk (blk_below (g := gb269) (o := .cells #[.string t266, .string t267, .bool t268] 25 (0, 0)) (by (with_reducible repeat (first | refine blk_drewN ?_ _ | refine blk_drew ?_ | refine blk_alloc ?_ _)); exact BK269.out) hb); have n5_ := Aside0.mk (below_step (by repeat (first | (with_reducible first | exact HB.out | apply below_alloc | apply pw_below_drewN | apply below_drew1 | refine below_set ?_ GE244.out | refine below_set ?_ GE245.out | refine below_set ?_ GE246.out | refine below_set ?_ GE269.out) | exact HB.out)) hb); have n6_ := Aside0.mk (hbox); have n7_ := Aside0.mk ((by rw [hg]; exact (below_size (by repeat (first | (with_reducible first | exact HB.out | apply below_alloc | apply pw_below_drewN | apply below_drew1 | refine below_set ?_ GE244.out | refine below_set ?_ GE245.out | refine below_set ?_ GE246.out | refine below_set ?_ GE269.out) | exact HB.out))) : w.heap.size ≤ gb273)); have n8_ := Aside0.mk ((by rw [hg]; exact (below_size (by repeat (first | (with_reducible first | exact HB.out | apply below_alloc | apply pw_below_drewN | apply below_drew1 | refine below_set ?_ GE244.out | refine below_set ?_ GE245.out | refine below_set ?_ GE246.out | refine below_set ?_ GE269.out) | exact HB.out))) : w.heap.size ≤ gb273)); have n9_ := Aside0.mk ((by rw [hg]; exact Nat.ne_of_lt (blk_lt (g := gb244) (o := .cells #[.string a0_0, .string a0_1, .bool a0_2] 25 (0, 0)) (by (with_reducible repeat (first | refine blk_drewN ?_ _ | refine blk_drew ?_ | refine blk_alloc ?_ _)); exact BK244.out)) : gb244 ≠ gb273)); have n10_ := Aside0.mk ((by rw [hg]; exact Nat.ne_of_gt (blk_lt (g := gb244) (o := .cells #[.string a0_0, .string a0_1, .bool a0_2] 25 (0, 0)) (by (with_reducible repeat (first | refine blk_drewN ?_ _ | refine blk_drew ?_ | refine blk_alloc ?_ _)); exact BK244.out)) : gb273 ≠ gb244)); have n11_ := Aside0.mk ((by rw [hg]; exact Nat.ne_of_lt (blk_lt (g := gb245) (o := .cells #[.string a1_0, .string a1_1, .bool a1_2] 25 (0, 0)) (by (with_reducible repeat (first | refine blk_drewN ?_ _ | refine blk_drew ?_ | refine blk_alloc ?_ _)); exact BK245.out)) : gb245 ≠ gb273)); have n12_ := Aside0.mk ((by rw [hg]; exact Nat.ne_of_gt (blk_lt (g := gb245) (o := .cells #[.string a1_0, .string a1_1, .bool a1_2] 25 (0, 0)) (by (with_reducible repeat (first | refine blk_drewN ?_ _ | refine blk_drew ?_ | refine blk_alloc ?_ _)); exact BK245.out)) : gb273 ≠ gb245)); have n13_ := Aside0.mk ((by rw [hg]; exact Nat.ne_of_lt (blk_lt (g := gb246) (o := .cells #[.string a2_0, .string a2_1, .bool a2_2] 25 (0, 0)) (by (with_reducible repeat (first | refine blk_drewN ?_ _ | refine blk_drew ?_ | refine blk_alloc ?_ _)); exact BK246.out)) : gb246 ≠ gb273)); have n14_ := Aside0.mk ((by rw [hg]; exact Nat.ne_of_gt (blk_lt (g := gb246) (o := .cells #[.string a2_0, .string a2_1, .bool a2_2] 25 (0, 0)) (by (with_reducible repeat (first | refine blk_drewN ?_ _ | refine blk_drew ?_ | refine blk_alloc ?_ _)); exact BK246.out)) : gb273 ≠ gb246)); have n15_ := Aside0.mk ((by rw [hg]; exact Nat.ne_of_lt (blk_lt (g := gb269) (o := .cells #[.string t266, .string t267, .bool t268] 25 (0, 0)) (by (with_reducible repeat (first | refine blk_drewN ?_ _ | refine blk_drew ?_ | refine blk_alloc ?_ _)); exact BK269.out)) : gb269 ≠ gb273)); have n16_ := Aside0.mk ((by rw [hg]; exact Nat.ne_of_gt (blk_lt (g := gb269) (o := .cells #[.string t266, .string t267, .bool t268] 25 (0, 0)) (by (with_reducible repeat (first | refine blk_drewN ?_ _ | refine blk_drew ?_ | refine blk_alloc ?_ _)); exact BK269.out)) : gb273 ≠ gb269)); clear HO265; clear BK244; clear BK245; clear BK246; clear BK269; clear HB; have HO265 := n0_; have BK244 := n1_; have BK245 := n2_; have BK246 := n3_; have BK269 := n4_; have HB := n5_; have BK273 := n6_; have GW273 := n7_; have GE273 := n8_; have NB244_273 := n9_; have NB273_244 := n10_; have NB245_273 := n11_; have NB273_245 := n12_; have NB246_273 := n13_; have NB273_246 := n14_; have NB269_273 := n15_; have NB273_269 := n16_; clear n0_ n1_ n2_ n3_ n4_ n5_ n6_ n7_ n8_ n9_ n10_ n11_ n12_ n13_ n14_ n15_ n16_; clear hb hbox hg; have hnb154 := NB273_244.out; have hnc154 := NB244_273.out; have hnb155 := NB273_245.out; have hnc155 := NB245_273.out; have hnb156 := NB273_246.out; have hnc156 := NB246_273.out; have hnb157 := NB273_269.out; have hnc157 := NB269_273.out; have hcz158_0 : w153.cell? ⟨gb273, 0, none⟩ = some (.string (⟨#[]⟩ : ByteArray)) := (blk_cell BK273.out 0).trans rfl; have hcz158_1 : w153.cell? ⟨gb273, 1, none⟩ = some (.string (⟨#[]⟩ : ByteArray)) := (blk_cell BK273.out 1).trans rfl; have hcz158_2 : w153.cell? ⟨gb273, 2, none⟩ = some (.bool false) := (blk_cell BK273.out 2).trans rfl; have hfz158_0 := blk_frozen BK273.out 0; have hfz158_1 := blk_frozen BK273.out 1; have hfz158_2 := blk_frozen BK273.out 2))
                          have n0_ : Aside0 (Kd.R k25 25 (((w153.setCell ⟨gb273, 0, none⟩ (.string t270)).setCell ⟨gb273, 1, none⟩ (.string t271)).setCell ⟨gb273, 2, none⟩ (.bool t272)) w.heap.size (fun k_ => k_ ≠ gb244 ∧ k_ ≠ gb245 ∧ k_ ≠ gb246 ∧ k_ ≠ gb269 ∧ k_ ≠ gb273) (.slice Ao144 y263.length co144) y263) := ⟨by (with_reducible repeat (first | apply Kd.R_alloc | apply Kd.R_drewN | apply Kd.R_drew)); exact Kd.R_mono (Kd.R_far (p := ⟨gb273, 2, none⟩) (Kd.R_far (p := ⟨gb273, 1, none⟩) (Kd.R_far (p := ⟨gb273, 0, none⟩) (Kd.R_mono HO265.out (fun k_ hk => (⟨hk, hk.2⟩ : _ ∧ k_ ≠ gb273))) (fun _ hk => hk.2) (.string t270)) (fun _ hk => hk.2) (.string t271)) (fun _ hk => hk.2) (.bool t272)) (fun _ hk => ⟨hk.1.1.1.1.1.2, ⟨hk.1.1.1.1.2, ⟨hk.1.1.1.2, ⟨hk.1.1.2, hk.1.2⟩⟩⟩⟩)⟩
                          have n1_ : Aside0 ((((w153.setCell ⟨gb273, 0, none⟩ (.string t270)).setCell ⟨gb273, 1, none⟩ (.string t271)).setCell ⟨gb273, 2, none⟩ (.bool t272)).heap[gb244]? = some (.cells #[.string a0_0, .string a0_1, .bool a0_2] 25 (0, 0))) := ⟨by (with_reducible repeat (first | refine blk_drewN ?_ _ | refine blk_drew ?_ | refine blk_alloc ?_ _)); refine blk_far ?_ NB244_273.out _; (with_reducible repeat (first | refine blk_drewN ?_ _ | refine blk_drew ?_ | refine blk_alloc ?_ _)); refine blk_far ?_ NB244_273.out _; (with_reducible repeat (first | refine blk_drewN ?_ _ | refine blk_drew ?_ | refine blk_alloc ?_ _)); refine blk_far ?_ NB244_273.out _; (with_reducible repeat (first | refine blk_drewN ?_ _ | refine blk_drew ?_ | refine blk_alloc ?_ _)); exact BK244.out⟩
                          have n2_ : Aside0 ((((w153.setCell ⟨gb273, 0, none⟩ (.string t270)).setCell ⟨gb273, 1, none⟩ (.string t271)).setCell ⟨gb273, 2, none⟩ (.bool t272)).heap[gb245]? = some (.cells #[.string a1_0, .string a1_1, .bool a1_2] 25 (0, 0))) := ⟨by (with_reducible repeat (first | refine blk_drewN ?_ _ | refine blk_drew ?_ | refine blk_alloc ?_ _)); refine blk_far ?_ NB245_273.out _; (with_reducible repeat (first | refine blk_drewN ?_ _ | refine blk_drew ?_ | refine blk_alloc ?_ _)); refine blk_far ?_ NB245_273.out _; (with_reducible repeat (first | refine blk_drewN ?_ _ | refine blk_drew ?_ | refine blk_alloc ?_ _)); refine blk_far ?_ NB245_273.out _; (with_reducible repeat (first | refine blk_drewN ?_ _ | refine blk_drew ?_ | refine blk_alloc ?_ _)); exact BK245.out⟩
                          have n3_ : Aside0 ((((w153.setCell ⟨gb273, 0, none⟩ (.string t270)).setCell ⟨gb273, 1, none⟩ (.string t271)).setCell ⟨gb273, 2, none⟩ (.bool t272)).heap[gb246]? = some (.cells #[.string a2_0, .string a2_1, .bool a2_2] 25 (0, 0))) := ⟨by (with_reducible repeat (first | refine blk_drewN ?_ _ | refine blk_drew ?_ | refine blk_alloc ?_ _)); refine blk_far ?_ NB246_273.out _; (with_reducible repeat (first | refine blk_drewN ?_ _ | refine blk_drew ?_ | refine blk_alloc ?_ _)); refine blk_far ?_ NB246_273.out _; (with_reducible repeat (first | refine blk_drewN ?_ _ | refine blk_drew ?_ | refine blk_alloc ?_ _)); refine blk_far ?_ NB246_273.out _; (with_reducible repeat (first | refine blk_drewN ?_ _ | refine blk_drew ?_ | refine blk_alloc ?_ _)); exact BK246.out⟩
                          have n4_ : Aside0 ((((w153.setCell ⟨gb273, 0, none⟩ (.string t270)).setCell ⟨gb273, 1, none⟩ (.string t271)).setCell ⟨gb273, 2, none⟩ (.bool t272)).heap[gb269]? = some (.cells #[.string t266, .string t267, .bool t268] 25 (0, 0))) := ⟨by (with_reducible repeat (first | refine blk_drewN ?_ _ | refine blk_drew ?_ | refine blk_alloc ?_ _)); refine blk_far ?_ NB269_273.out _; (with_reducible repeat (first | refine blk_drewN ?_ _ | refine blk_drew ?_ | refine blk_alloc ?_ _)); refine blk_far ?_ NB269_273.out _; (with_reducible repeat (first | refine blk_drewN ?_ _ | refine blk_drew ?_ | refine blk_alloc ?_ _)); refine blk_far ?_ NB269_273.out _; (with_reducible repeat (first | refine blk_drewN ?_ _ | refine blk_drew ?_ | refine blk_alloc ?_ _)); exact BK269.out⟩
                          have n5_ : Aside0 ((((w153.setCell ⟨gb273, 0, none⟩ (.string t270)).setCell ⟨gb273, 1, none⟩ (.string t271)).setCell ⟨gb273, 2, none⟩ (.bool t272)).heap[gb273]? = some (.cells #[.string t270, .string t271, .bool t272] 25 (0, 0))) := ⟨by (with_reducible repeat (first | refine blk_drewN ?_ _ | refine blk_drew ?_ | refine blk_alloc ?_ _)); refine blk_put (cs := #[.string t270, .string t271, .bool false]) ?_ 2 _ rfl; (with_reducible repeat (first | refine blk_drewN ?_ _ | refine blk_drew ?_ | refine blk_alloc ?_ _)); refine blk_put (cs := #[.string t270, .string (⟨#[]⟩ : ByteArray), .bool false]) ?_ 1 _ rfl; (with_reducible repeat (first | refine blk_drewN ?_ _ | refine blk_drew ?_ | refine blk_alloc ?_ _)); refine blk_put (cs := #[.string (⟨#[]⟩ : ByteArray), .string (⟨#[]⟩ : ByteArray), .bool false]) ?_ 0 _ rfl; (with_reducible repeat (first | refine blk_drewN ?_ _ | refine blk_drew ?_ | refine blk_alloc ?_ _)); exact BK273.out⟩
                          have n6_ : Aside0 (Below w.heap.size w (((w153.setCell ⟨gb273, 0, none⟩ (.string t270)).setCell ⟨gb273, 1, none⟩ (.string t271)).setCell ⟨gb273, 2, none⟩ (.bool t272))) := ⟨by repeat (first | (with_reducible first | exact HB.out | apply below_alloc | apply pw_below_drewN | apply below_drew1 | refine below_set ?_ GE244.out | refine below_set ?_ GE245.out | refine below_set ?_ GE246.out | refine below_set ?_ GE269.out | refine below_set ?_ GE273.out) | exact HB.out)⟩
                          (try clear HO265)
                          (try clear BK244)
                          (try clear BK245)
                          (try clear BK246)
                          (try clear BK269)
                          (try clear BK273)
                          (try clear HB)
                          generalize (((w153.setCell ⟨gb273, 0, none⟩ (.string t270)).setCell ⟨gb273, 1, none⟩ (.string t271)).setCell ⟨gb273, 2, none⟩ (.bool t272)) = w159 at n0_ n1_ n2_ n3_ n4_ n5_ n6_ ⊢
                          have HO265 := n0_
                          have BK244 := n1_
                          have BK245 := n2_
                          have BK246 := n3_
                          have BK269 := n4_
                          have BK273 := n5_
                          have HB := n6_
                          clear n0_ n1_ n2_ n3_ n4_ n5_ n6_
                          have n0_ := Aside0.mk (Kd.R_drew HO265.out)
                          have n1_ := Aside0.mk (blk_drew BK244.out)
                          have n2_ := Aside0.mk (blk_drew BK245.out)
                          have n3_ := Aside0.mk (blk_drew BK246.out)
                          have n4_ := Aside0.mk (blk_drew BK269.out)
                          have n5_ := Aside0.mk (blk_drew BK273.out)
                          have n6_ := Aside0.mk (below_drew1 HB.out)
                          clear HO265
                          clear BK244
                          clear BK245
                          clear BK246
                          clear BK269
                          clear BK273
                          clear HB
                          have HO265 := n0_
                          have BK244 := n1_
                          have BK245 := n2_
                          have BK246 := n3_
                          have BK269 := n4_
                          have BK273 := n5_
                          have HB := n6_
                          clear n0_ n1_ n2_ n3_ n4_ n5_ n6_
                          refine start_ (n := 37) (S := fun w' => w'.cell? ⟨gb269, 0, none⟩ = some (.string t266) ∧ w'.cell? ⟨gb269, 1, none⟩ = some (.string t267) ∧ w'.cell? ⟨gb269, 2, none⟩ = some (.bool t268) ∧ w'.cell? ⟨gb244, 0, none⟩ = some (.string a0_0) ∧ w'.cell? ⟨gb244, 1, none⟩ = some (.string a0_1) ∧ w'.cell? ⟨gb244, 2, none⟩ = some (.bool a0_2) ∧ w'.cell? ⟨gb245, 0, none⟩ = some (.string a1_0) ∧ w'.cell? ⟨gb245, 1, none⟩ = some (.string a1_1) ∧ w'.cell? ⟨gb245, 2, none⟩ = some (.bool a1_2) ∧ w'.cell? ⟨gb273, 0, none⟩ = some (.string t270) ∧ w'.cell? ⟨gb273, 1, none⟩ = some (.string t271) ∧ w'.cell? ⟨gb273, 2, none⟩ = some (.bool t272)) (ds := []) #[false, false, false, false, false, false, false, false, false, false, false, false, false, false, false, false, false, false, false, false, false, false, false, false, false, false, false, false, false, false, false, false, false, false, false, false, false] (by kernel_rfl) rfl rfl ⟨(blk_cell BK269.out 0).trans rfl, (blk_cell BK269.out 1).trans rfl, (blk_cell BK269.out 2).trans rfl, (blk_cell BK244.out 0).trans rfl, (blk_cell BK244.out 1).trans rfl, (blk_cell BK244.out 2).trans rfl, (blk_cell BK245.out 0).trans rfl, (blk_cell BK245.out 1).trans rfl, (blk_cell BK245.out 2).trans rfl, (blk_cell BK273.out 0).trans rfl, (blk_cell BK273.out 1).trans rfl, (blk_cell BK273.out 2).trans rfl⟩ (fun hHeld => ?_); refine with_tabW weirkeeperlaw03_StretchWithin_v2.tab7 weirkeeperlaw03_StretchWithin_v2.bits7 (fun HT_ HW_ => ?_)
                          generalize w159.drew = w160 at HO265 BK244 BK245 BK246 BK269 BK273 HB hHeld ⊢
                          refine take_ (i := 0) (N := some 74) (v := ?_) (a' := ?_) #[true, false, false, false, false, false, false, false, false, false, false, false, false, false, false, false, false, false, false, false, false, false, false, false, false, false, false, false, false, false, false, false, false, false, false, false, false] rfl rfl (take_ofW HT_.out HW_.out (by kernel_rfl)) (fun _ _ _ h => h) (Or.inl ⟨by rfl, ?_⟩) hHeld ?_ ?_
                          rotate_left
                          · rintro w' ⟨s0, s1, s2, s3, s4, s5, s6, s7, s8, s9, s10, s11⟩
                            go_simp
                            with_reducible rfl
                          rotate_left
                          · simp only [Act.put, List.setIfInBounds_toArray, List.set_cons_zero, List.set_cons_succ, i64_w, i32_w]
                            rfl
                          refine take_ (i := 1) (N := some 75) (v := ?_) (a' := ?_) #[true, true, false, false, false, false, false, false, false, false, false, false, false, false, false, false, false, false, false, false, false, false, false, false, false, false, false, false, false, false, false, false, false, false, false, false, false] rfl rfl (take_ofW HT_.out HW_.out (by kernel_rfl)) (fun _ _ _ h => h) (Or.inl ⟨by rfl, ?_⟩) hHeld ?_ ?_
                          rotate_left
                          · rintro w' ⟨s0, s1, s2, s3, s4, s5, s6, s7, s8, s9, s10, s11⟩
                            go_simp
                            with_reducible rfl
                          rotate_left
                          · simp only [Act.put, List.setIfInBounds_toArray, List.set_cons_zero, List.set_cons_succ, i64_w, i32_w]
                            rfl
                          refine one_ (i := 2) (N := some 76) #[true, true, true, false, false, false, false, false, false, false, false, false, false, false, false, false, false, false, false, false, false, false, false, false, false, false, false, false, false, false, false, false, false, false, false, false, false] rfl rfl (one_of HT_.out (by kernel_rfl)) (by decide) (fun K hK => ?_)
                          refine goes_ Try.func14 (by kernel_rfl) rfl #[.agg #[.string t266, .string t267, .bool t268], .agg #[.string a0_0, .string a0_1, .bool a0_2]] (by rfl) rfl rfl (by (try simp only [List.map_toArray, List.map_cons, List.map_nil]); first | done | rfl | (simp only [List.length_drop, List.length_take]; rfl)) ?_
                          with_reducible refine (stretch_Within.calls t266 t267 t268 a0_0 a0_1 a0_2 true _ A124.out).mono ?_
                          rintro e w161 ⟨rfl, hb⟩
                          refine ⟨_, rfl, ?_⟩
                          have n0_ := Aside0.mk (Kd.R_below (by (with_reducible repeat (first | apply Kd.R_alloc | apply Kd.R_drewN | apply Kd.R_drew)); exact HO265.out) hb)
                          have n1_ := Aside0.mk (blk_below (g := gb244) (o := .cells #[.string a0_0, .string a0_1, .bool a0_2] 25 (0, 0)) (by (with_reducible repeat (first | refine blk_drewN ?_ _ | refine blk_drew ?_ | refine blk_alloc ?_ _)); exact BK244.out) hb)
                          have n2_ := Aside0.mk (blk_below (g := gb245) (o := .cells #[.string a1_0, .string a1_1, .bool a1_2] 25 (0, 0)) (by (with_reducible repeat (first | refine blk_drewN ?_ _ | refine blk_drew ?_ | refine blk_alloc ?_ _)); exact BK245.out) hb)
                          have n3_ := Aside0.mk (blk_below (g := gb246) (o := .cells #[.string a2_0, .string a2_1, .bool a2_2] 25 (0, 0)) (by (with_reducible repeat (first | refine blk_drewN ?_ _ | refine blk_drew ?_ | refine blk_alloc ?_ _)); exact BK246.out) hb)
                          have n4_ := Aside0.mk (blk_below (g := gb269) (o := .cells #[.string t266, .string t267, .bool t268] 25 (0, 0)) (by (with_reducible repeat (first | refine blk_drewN ?_ _ | refine blk_drew ?_ | refine blk_alloc ?_ _)); exact BK269.out) hb)
                          have n5_ := Aside0.mk (blk_below (g := gb273) (o := .cells #[.string t270, .string t271, .bool t272] 25 (0, 0)) (by (with_reducible repeat (first | refine blk_drewN ?_ _ | refine blk_drew ?_ | refine blk_alloc ?_ _)); exact BK273.out) hb)
                          have n6_ := Aside0.mk (below_step (by repeat (first | (with_reducible first | exact HB.out | apply below_alloc | apply pw_below_drewN | apply below_drew1 | refine below_set ?_ GE244.out | refine below_set ?_ GE245.out | refine below_set ?_ GE246.out | refine below_set ?_ GE269.out | refine below_set ?_ GE273.out) | exact HB.out)) hb)
                          clear HO265
                          clear BK244
                          clear BK245
                          clear BK246
                          clear BK269
                          clear BK273
                          clear HB
                          have HO265 := n0_
                          have BK244 := n1_
                          have BK245 := n2_
                          have BK246 := n3_
                          have BK269 := n4_
                          have BK273 := n5_
                          have HB := n6_
                          clear n0_ n1_ n2_ n3_ n4_ n5_ n6_
                          (try clear hb)
                          (try clear hb2)
                          (try clear hk)
                          (try clear hi)
                          refine hK.out _ _ ⟨(blk_cell BK269.out 0).trans rfl, (blk_cell BK269.out 1).trans rfl, (blk_cell BK269.out 2).trans rfl, (blk_cell BK244.out 0).trans rfl, (blk_cell BK244.out 1).trans rfl, (blk_cell BK244.out 2).trans rfl, (blk_cell BK245.out 0).trans rfl, (blk_cell BK245.out 1).trans rfl, (blk_cell BK245.out 2).trans rfl, (blk_cell BK273.out 0).trans rfl, (blk_cell BK273.out 1).trans rfl, (blk_cell BK273.out 2).trans rfl⟩ (fun hHeld => ?_)
                          clear hK K
                          refine norm_ (a' := ?_) ?_ ?_
                          rotate_left
                          · show Act.put _ (some 76) _ = _
                            simp only [Act.put, List.setIfInBounds_toArray, List.set_cons_zero, List.set_cons_succ, i64_w, i32_w]
                            rfl
                          refine pure_ (i := 3) (N := some 77) (v := ?_) (a' := ?_) #[true, true, true, true, false, false, false, false, false, false, false, false, false, false, false, false, false, false, false, false, false, false, false, false, false, false, false, false, false, false, false, false, false, false, false, false, false] rfl rfl (any_of HT_.out (by kernel_rfl)) (fun _ _ _ h => h) (Or.inl ⟨by rfl, ?_⟩) ?_ ?_
                          rotate_left
                          · intro w'
                            go_simp
                            with_reducible rfl
                          rotate_left
                          · simp only [Act.put, List.setIfInBounds_toArray, List.set_cons_zero, List.set_cons_succ, i64_w, i32_w]
                            rfl
                          refine take_ (i := 4) (N := some 78) (v := ?_) (a' := ?_) #[true, true, true, true, true, false, false, false, false, false, false, false, false, false, false, false, false, false, false, false, false, false, false, false, false, false, false, false, false, false, false, false, false, false, false, false, false] rfl rfl (take_ofW HT_.out HW_.out (by kernel_rfl)) (fun _ _ _ h => h) (Or.inl ⟨by rfl, ?_⟩) hHeld ?_ ?_
                          rotate_left
                          · rintro w' ⟨s0, s1, s2, s3, s4, s5, s6, s7, s8, s9, s10, s11⟩
                            go_simp
                            with_reducible rfl
                          rotate_left
                          · simp only [Act.put, List.setIfInBounds_toArray, List.set_cons_zero, List.set_cons_succ, i64_w, i32_w]
                            rfl
                          refine take_ (i := 5) (N := some 79) (v := ?_) (a' := ?_) #[true, true, true, true, true, true, false, false, false, false, false, false, false, false, false, false, false, false, false, false, false, false, false, false, false, false, false, false, false, false, false, false, false, false, false, false, false] rfl rfl (take_ofW HT_.out HW_.out (by kernel_rfl)) (fun _ _ _ h => h) (Or.inl ⟨by rfl, ?_⟩) hHeld ?_ ?_
                          rotate_left
                          · rintro w' ⟨s0, s1, s2, s3, s4, s5, s6, s7, s8, s9, s10, s11⟩
                            go_simp
                            with_reducible rfl
                          rotate_left
                          · simp only [Act.put, List.setIfInBounds_toArray, List.set_cons_zero, List.set_cons_succ, i64_w, i32_w]
                            rfl
                          refine one_ (i := 6) (N := some 80) #[true, true, true, true, true, true, true, false, false, false, false, false, false, false, false, false, false, false, false, false, false, false, false, false, false, false, false, false, false, false, false, false, false, false, false, false, false] rfl rfl (one_of HT_.out (by kernel_rfl)) (by decide) (fun K hK => ?_)
                          refine goes_ Try.func14 (by kernel_rfl) rfl #[.agg #[.string t266, .string t267, .bool t268], .agg #[.string a1_0, .string a1_1, .bool a1_2]] (by rfl) rfl rfl (by (try simp only [List.map_toArray, List.map_cons, List.map_nil]); first | done | rfl | (simp only [List.length_drop, List.length_take]; rfl)) ?_
                          with_reducible refine (stretch_Within.calls t266 t267 t268 a1_0 a1_1 a1_2 true _ A126.out).mono ?_
                          rintro e w162 ⟨rfl, hb⟩
                          refine ⟨_, rfl, ?_⟩
                          have n0_ := Aside0.mk (Kd.R_below (by (with_reducible repeat (first | apply Kd.R_alloc | apply Kd.R_drewN | apply Kd.R_drew)); exact HO265.out) hb)
                          have n1_ := Aside0.mk (blk_below (g := gb244) (o := .cells #[.string a0_0, .string a0_1, .bool a0_2] 25 (0, 0)) (by (with_reducible repeat (first | refine blk_drewN ?_ _ | refine blk_drew ?_ | refine blk_alloc ?_ _)); exact BK244.out) hb)
                          have n2_ := Aside0.mk (blk_below (g := gb245) (o := .cells #[.string a1_0, .string a1_1, .bool a1_2] 25 (0, 0)) (by (with_reducible repeat (first | refine blk_drewN ?_ _ | refine blk_drew ?_ | refine blk_alloc ?_ _)); exact BK245.out) hb)
                          have n3_ := Aside0.mk (blk_below (g := gb246) (o := .cells #[.string a2_0, .string a2_1, .bool a2_2] 25 (0, 0)) (by (with_reducible repeat (first | refine blk_drewN ?_ _ | refine blk_drew ?_ | refine blk_alloc ?_ _)); exact BK246.out) hb)
                          have n4_ := Aside0.mk (blk_below (g := gb269) (o := .cells #[.string t266, .string t267, .bool t268] 25 (0, 0)) (by (with_reducible repeat (first | refine blk_drewN ?_ _ | refine blk_drew ?_ | refine blk_alloc ?_ _)); exact BK269.out) hb)
                          have n5_ := Aside0.mk (blk_below (g := gb273) (o := .cells #[.string t270, .string t271, .bool t272] 25 (0, 0)) (by (with_reducible repeat (first | refine blk_drewN ?_ _ | refine blk_drew ?_ | refine blk_alloc ?_ _)); exact BK273.out) hb)
                          have n6_ := Aside0.mk (below_step (by repeat (first | (with_reducible first | exact HB.out | apply below_alloc | apply pw_below_drewN | apply below_drew1 | refine below_set ?_ GE244.out | refine below_set ?_ GE245.out | refine below_set ?_ GE246.out | refine below_set ?_ GE269.out | refine below_set ?_ GE273.out) | exact HB.out)) hb)
                          clear HO265
                          clear BK244
                          clear BK245
                          clear BK246
                          clear BK269
                          clear BK273
                          clear HB
                          have HO265 := n0_
                          have BK244 := n1_
                          have BK245 := n2_
                          have BK246 := n3_
                          have BK269 := n4_
                          have BK273 := n5_
                          have HB := n6_
                          clear n0_ n1_ n2_ n3_ n4_ n5_ n6_
                          (try clear hb)
                          (try clear hb2)
                          (try clear hk)
                          (try clear hi)
                          refine hK.out _ _ ⟨(blk_cell BK269.out 0).trans rfl, (blk_cell BK269.out 1).trans rfl, (blk_cell BK269.out 2).trans rfl, (blk_cell BK244.out 0).trans rfl, (blk_cell BK244.out 1).trans rfl, (blk_cell BK244.out 2).trans rfl, (blk_cell BK245.out 0).trans rfl, (blk_cell BK245.out 1).trans rfl, (blk_cell BK245.out 2).trans rfl, (blk_cell BK273.out 0).trans rfl, (blk_cell BK273.out 1).trans rfl, (blk_cell BK273.out 2).trans rfl⟩ (fun hHeld => ?_)
                          clear hK K
                          refine norm_ (a' := ?_) ?_ ?_
                          rotate_left
                          · show Act.put _ (some 80) _ = _
                            simp only [Act.put, List.setIfInBounds_toArray, List.set_cons_zero, List.set_cons_succ, i64_w, i32_w]
                            rfl
                          refine pure_ (i := 7) (N := some 81) (v := ?_) (a' := ?_) #[true, true, true, true, true, true, true, true, false, false, false, false, false, false, false, false, false, false, false, false, false, false, false, false, false, false, false, false, false, false, false, false, false, false, false, false, false] rfl rfl (any_of HT_.out (by kernel_rfl)) (fun _ _ _ h => h) (Or.inl ⟨by rfl, ?_⟩) ?_ ?_
                          rotate_left
                          · intro w'
                            go_simp
                            with_reducible rfl
                          rotate_left
                          · simp only [Act.put, List.setIfInBounds_toArray, List.set_cons_zero, List.set_cons_succ, i64_w, i32_w]
                            rfl
                          refine pure_ (i := 8) (N := some 82) (v := ?_) (a' := ?_) #[true, true, true, true, true, true, true, true, true, false, false, false, false, false, false, false, false, false, false, false, false, false, false, false, false, false, false, false, false, false, false, false, false, false, false, false, false] rfl rfl (any_of HT_.out (by kernel_rfl)) (fun _ _ _ h => h) (Or.inl ⟨by rfl, ?_⟩) ?_ ?_
                          rotate_left
                          · intro w'
                            go_simp
                            with_reducible rfl
                          rotate_left
                          · simp only [Act.put, List.setIfInBounds_toArray, List.set_cons_zero, List.set_cons_succ, i64_w, i32_w]
                            rfl
                          refine pure_ (i := 10) (N := some 84) (v := ?_) (a' := ?_) #[true, true, true, true, true, true, true, true, true, false, true, false, false, false, false, false, false, false, false, false, false, false, false, false, false, false, false, false, false, false, false, false, false, false, false, false, false] rfl rfl (any_of HT_.out (by kernel_rfl)) (fun _ _ _ h => h) (Or.inl ⟨by rfl, ?_⟩) ?_ ?_
                          rotate_left
                          · intro w'
                            go_simp
                            with_reducible rfl
                          rotate_left
                          · simp only [Act.put, List.setIfInBounds_toArray, List.set_cons_zero, List.set_cons_succ, i64_w, i32_w]
                            rfl
                          refine pure_ (i := 13) (N := some 87) (v := ?_) (a' := ?_) #[true, true, true, true, true, true, true, true, true, false, true, false, false, true, false, false, false, false, false, false, false, false, false, false, false, false, false, false, false, false, false, false, false, false, false, false, false] rfl rfl (any_of HT_.out (by kernel_rfl)) (fun _ _ _ h => h) (Or.inl ⟨by rfl, ?_⟩) ?_ ?_
                          rotate_left
                          · intro w'
                            go_simp
                            with_reducible rfl
                          rotate_left
                          · simp only [Act.put, List.setIfInBounds_toArray, List.set_cons_zero, List.set_cons_succ, i64_w, i32_w]
                            rfl
                          refine take_ (i := 9) (N := some 83) (v := ?_) (a' := ?_) #[true, true, true, true, true, true, true, true, true, true, true, false, false, true, false, false, false, false, false, false, false, false, false, false, false, false, false, false, false, false, false, false, false, false, false, false, false] rfl rfl (take_ofW HT_.out HW_.out (by kernel_rfl)) (fun _ _ _ h => h) (Or.inl ⟨by rfl, ?_⟩) hHeld ?_ ?_
                          rotate_left
                          · rintro w' ⟨s0, s1, s2, s3, s4, s5, s6, s7, s8, s9, s10, s11⟩
                            go_simp
                            with_reducible rfl
                          rotate_left
                          · simp only [Act.put, List.setIfInBounds_toArray, List.set_cons_zero, List.set_cons_succ, i64_w, i32_w]
                            rfl
                          refine take_ (i := 12) (N := some 86) (v := ?_) (a' := ?_) #[true, true, true, true, true, true, true, true, true, true, true, false, true, true, false, false, false, false, false, false, false, false, false, false, false, false, false, false, false, false, false, false, false, false, false, false, false] rfl rfl (take_ofW HT_.out HW_.out (by kernel_rfl)) (fun _ _ _ h => h) (Or.inl ⟨by rfl, ?_⟩) hHeld ?_ ?_
                          rotate_left
                          · rintro w' ⟨s0, s1, s2, s3, s4, s5, s6, s7, s8, s9, s10, s11⟩
                            go_simp
                            with_reducible rfl
                          rotate_left
                          · simp only [Act.put, List.setIfInBounds_toArray, List.set_cons_zero, List.set_cons_succ, i64_w, i32_w]
                            rfl
                          refine one_ (i := 11) (N := some 85) #[true, true, true, true, true, true, true, true, true, true, true, true, true, true, false, false, false, false, false, false, false, false, false, false, false, false, false, false, false, false, false, false, false, false, false, false, false] rfl rfl (one_of HT_.out (by kernel_rfl)) (by decide) (fun K hK => ?_)
                          refine goes_ Try.func13 (by kernel_rfl) rfl #[.agg #[.string t270, .string t271, .bool t272], .string a4] (by rfl) rfl rfl (by (try simp only [List.map_toArray, List.map_cons, List.map_nil]); first | done | rfl | (simp only [List.length_drop, List.length_take]; rfl)) ?_
                          with_reducible refine (stretch_In.calls t270 t271 t272 a4 t276 _ A128.out).mono ?_
                          rintro e w163 ⟨rfl, hb⟩
                          refine ⟨_, rfl, ?_⟩
                          have n0_ := Aside0.mk (Kd.R_below (by (with_reducible repeat (first | apply Kd.R_alloc | apply Kd.R_drewN | apply Kd.R_drew)); exact HO265.out) hb)
                          have n1_ := Aside0.mk (blk_below (g := gb244) (o := .cells #[.string a0_0, .string a0_1, .bool a0_2] 25 (0, 0)) (by (with_reducible repeat (first | refine blk_drewN ?_ _ | refine blk_drew ?_ | refine blk_alloc ?_ _)); exact BK244.out) hb)
                          have n2_ := Aside0.mk (blk_below (g := gb245) (o := .cells #[.string a1_0, .string a1_1, .bool a1_2] 25 (0, 0)) (by (with_reducible repeat (first | refine blk_drewN ?_ _ | refine blk_drew ?_ | refine blk_alloc ?_ _)); exact BK245.out) hb)
                          have n3_ := Aside0.mk (blk_below (g := gb246) (o := .cells #[.string a2_0, .string a2_1, .bool a2_2] 25 (0, 0)) (by (with_reducible repeat (first | refine blk_drewN ?_ _ | refine blk_drew ?_ | refine blk_alloc ?_ _)); exact BK246.out) hb)
                          have n4_ := Aside0.mk (blk_below (g := gb269) (o := .cells #[.string t266, .string t267, .bool t268] 25 (0, 0)) (by (with_reducible repeat (first | refine blk_drewN ?_ _ | refine blk_drew ?_ | refine blk_alloc ?_ _)); exact BK269.out) hb)
                          have n5_ := Aside0.mk (blk_below (g := gb273) (o := .cells #[.string t270, .string t271, .bool t272] 25 (0, 0)) (by (with_reducible repeat (first | refine blk_drewN ?_ _ | refine blk_drew ?_ | refine blk_alloc ?_ _)); exact BK273.out) hb)
                          have n6_ := Aside0.mk (below_step (by repeat (first | (with_reducible first | exact HB.out | apply below_alloc | apply pw_below_drewN | apply below_drew1 | refine below_set ?_ GE244.out | refine below_set ?_ GE245.out | refine below_set ?_ GE246.out | refine below_set ?_ GE269.out | refine below_set ?_ GE273.out) | exact HB.out)) hb)
                          clear HO265
                          clear BK244
                          clear BK245
                          clear BK246
                          clear BK269
                          clear BK273
                          clear HB
                          have HO265 := n0_
                          have BK244 := n1_
                          have BK245 := n2_
                          have BK246 := n3_
                          have BK269 := n4_
                          have BK273 := n5_
                          have HB := n6_
                          clear n0_ n1_ n2_ n3_ n4_ n5_ n6_
                          (try clear hb)
                          (try clear hb2)
                          (try clear hk)
                          (try clear hi)
                          refine hK.out _ _ ⟨(blk_cell BK269.out 0).trans rfl, (blk_cell BK269.out 1).trans rfl, (blk_cell BK269.out 2).trans rfl, (blk_cell BK244.out 0).trans rfl, (blk_cell BK244.out 1).trans rfl, (blk_cell BK244.out 2).trans rfl, (blk_cell BK245.out 0).trans rfl, (blk_cell BK245.out 1).trans rfl, (blk_cell BK245.out 2).trans rfl, (blk_cell BK273.out 0).trans rfl, (blk_cell BK273.out 1).trans rfl, (blk_cell BK273.out 2).trans rfl⟩ (fun hHeld => ?_)
                          clear hK K
                          refine norm_ (a' := ?_) ?_ ?_
                          rotate_left
                          · show Act.put _ (some 85) _ = _
                            simp only [Act.put, List.setIfInBounds_toArray, List.set_cons_zero, List.set_cons_succ, i64_w, i32_w]
                            rfl
                          refine one_ (i := 14) (N := some 88) #[true, true, true, true, true, true, true, true, true, true, true, true, true, true, true, false, false, false, false, false, false, false, false, false, false, false, false, false, false, false, false, false, false, false, false, false, false] rfl rfl (one_of HT_.out (by kernel_rfl)) (by decide) (fun K hK => ?_)
                          refine goes_ Try.func13 (by kernel_rfl) rfl #[.agg #[.string a0_0, .string a0_1, .bool a0_2], .string a4] (by rfl) rfl rfl (by (try simp only [List.map_toArray, List.map_cons, List.map_nil]); first | done | rfl | (simp only [List.length_drop, List.length_take]; rfl)) ?_
                          with_reducible refine (stretch_In.calls a0_0 a0_1 a0_2 a4 false _ A129.out).mono ?_
                          rintro e w164 ⟨rfl, hb⟩
                          refine ⟨_, rfl, ?_⟩
                          have n0_ := Aside0.mk (Kd.R_below (by (with_reducible repeat (first | apply Kd.R_alloc | apply Kd.R_drewN | apply Kd.R_drew)); exact HO265.out) hb)
                          have n1_ := Aside0.mk (blk_below (g := gb244) (o := .cells #[.string a0_0, .string a0_1, .bool a0_2] 25 (0, 0)) (by (with_reducible repeat (first | refine blk_drewN ?_ _ | refine blk_drew ?_ | refine blk_alloc ?_ _)); exact BK244.out) hb)
                          have n2_ := Aside0.mk (blk_below (g := gb245) (o := .cells #[.string a1_0, .string a1_1, .bool a1_2] 25 (0, 0)) (by (with_reducible repeat (first | refine blk_drewN ?_ _ | refine blk_drew ?_ | refine blk_alloc ?_ _)); exact BK245.out) hb)
                          have n3_ := Aside0.mk (blk_below (g := gb246) (o := .cells #[.string a2_0, .string a2_1, .bool a2_2] 25 (0, 0)) (by (with_reducible repeat (first | refine blk_drewN ?_ _ | refine blk_drew ?_ | refine blk_alloc ?_ _)); exact BK246.out) hb)
                          have n4_ := Aside0.mk (blk_below (g := gb269) (o := .cells #[.string t266, .string t267, .bool t268] 25 (0, 0)) (by (with_reducible repeat (first | refine blk_drewN ?_ _ | refine blk_drew ?_ | refine blk_alloc ?_ _)); exact BK269.out) hb)
                          have n5_ := Aside0.mk (blk_below (g := gb273) (o := .cells #[.string t270, .string t271, .bool t272] 25 (0, 0)) (by (with_reducible repeat (first | refine blk_drewN ?_ _ | refine blk_drew ?_ | refine blk_alloc ?_ _)); exact BK273.out) hb)
                          have n6_ := Aside0.mk (below_step (by repeat (first | (with_reducible first | exact HB.out | apply below_alloc | apply pw_below_drewN | apply below_drew1 | refine below_set ?_ GE244.out | refine below_set ?_ GE245.out | refine below_set ?_ GE246.out | refine below_set ?_ GE269.out | refine below_set ?_ GE273.out) | exact HB.out)) hb)
                          clear HO265
                          clear BK244
                          clear BK245
                          clear BK246
                          clear BK269
                          clear BK273
                          clear HB
                          have HO265 := n0_
                          have BK244 := n1_
                          have BK245 := n2_
                          have BK246 := n3_
                          have BK269 := n4_
                          have BK273 := n5_
                          have HB := n6_
                          clear n0_ n1_ n2_ n3_ n4_ n5_ n6_
                          (try clear hb)
                          (try clear hb2)
                          (try clear hk)
                          (try clear hi)
                          refine hK.out _ _ ⟨(blk_cell BK269.out 0).trans rfl, (blk_cell BK269.out 1).trans rfl, (blk_cell BK269.out 2).trans rfl, (blk_cell BK244.out 0).trans rfl, (blk_cell BK244.out 1).trans rfl, (blk_cell BK244.out 2).trans rfl, (blk_cell BK245.out 0).trans rfl, (blk_cell BK245.out 1).trans rfl, (blk_cell BK245.out 2).trans rfl, (blk_cell BK273.out 0).trans rfl, (blk_cell BK273.out 1).trans rfl, (blk_cell BK273.out 2).trans rfl⟩ (fun hHeld => ?_)
                          clear hK K
                          refine norm_ (a' := ?_) ?_ ?_
                          rotate_left
                          · show Act.put _ (some 88) _ = _
                            simp only [Act.put, List.setIfInBounds_toArray, List.set_cons_zero, List.set_cons_succ, i64_w, i32_w]
                            rfl
                          refine pure_ (i := 15) (N := some 89) (v := ?_) (a' := ?_) #[true, true, true, true, true, true, true, true, true, true, true, true, true, true, true, true, false, false, false, false, false, false, false, false, false, false, false, false, false, false, false, false, false, false, false, false, false] rfl rfl (any_of HT_.out (by kernel_rfl)) (fun _ _ _ h => h) (Or.inl ⟨by rfl, ?_⟩) ?_ ?_
                          rotate_left
                          · intro w'
                            go_simp
                            with_reducible rfl
                          rotate_left
                          · simp only [Act.put, List.setIfInBounds_toArray, List.set_cons_zero, List.set_cons_succ, i64_w, i32_w]
                            rfl
                          refine pure_ (i := 16) (N := some 90) (v := undef) (a' := ?_) #[true, true, true, true, true, true, true, true, true, true, true, true, true, true, true, true, true, false, false, false, false, false, false, false, false, false, false, false, false, false, false, false, false, false, false, false, false] rfl rfl (any_of HT_.out (by kernel_rfl)) (fun _ _ _ h => h) (Or.inr ⟨by rfl, rfl⟩) ?_ ?_
                          rotate_left
                          · simp only [Act.put, List.setIfInBounds_toArray, List.set_cons_zero, List.set_cons_succ, i64_w, i32_w]
                            rfl
                          refine pure_ (i := 17) (N := some 91) (v := undef) (a' := ?_) #[true, true, true, true, true, true, true, true, true, true, true, true, true, true, true, true, true, true, false, false, false, false, false, false, false, false, false, false, false, false, false, false, false, false, false, false, false] rfl rfl (any_of HT_.out (by kernel_rfl)) (fun _ _ _ h => h) (Or.inr ⟨by rfl, rfl⟩) ?_ ?_
                          rotate_left
                          · simp only [Act.put, List.setIfInBounds_toArray, List.set_cons_zero, List.set_cons_succ, i64_w, i32_w]
                            rfl
                          refine pure_ (i := 18) (N := some 92) (v := undef) (a' := ?_) #[true, true, true, true, true, true, true, true, true, true, true, true, true, true, true, true, true, true, true, false, false, false, false, false, false, false, false, false, false, false, false, false, false, false, false, false, false] rfl rfl (any_of HT_.out (by kernel_rfl)) (fun _ _ _ h => h) (Or.inr ⟨by rfl, rfl⟩) ?_ ?_
                          rotate_left
                          · simp only [Act.put, List.setIfInBounds_toArray, List.set_cons_zero, List.set_cons_succ, i64_w, i32_w]
                            rfl
                          refine pure_ (i := 19) (N := some 93) (v := ?_) (a' := ?_) #[true, true, true, true, true, true, true, true, true, true, true, true, true, true, true, true, true, true, true, true, false, false, false, false, false, false, false, false, false, false, false, false, false, false, false, false, false] rfl rfl (any_of HT_.out (by kernel_rfl)) (fun _ _ _ h => h) (Or.inl ⟨by rfl, ?_⟩) ?_ ?_
                          rotate_left
                          · intro w'
                            go_simp
                            with_reducible rfl
                          rotate_left
                          · simp only [Act.put, List.setIfInBounds_toArray, List.set_cons_zero, List.set_cons_succ, i64_w, i32_w]
                            rfl
                          refine pure_ (i := 20) (N := some 94) (v := ?_) (a' := ?_) #[true, true, true, true, true, true, true, true, true, true, true, true, true, true, true, true, true, true, true, true, true, false, false, false, false, false, false, false, false, false, false, false, false, false, false, false, false] rfl rfl (any_of HT_.out (by kernel_rfl)) (fun _ _ _ h => h) (Or.inl ⟨by rfl, ?_⟩) ?_ ?_
                          rotate_left
                          · intro w'
                            go_simp
                            with_reducible rfl
                          rotate_left
                          · simp only [Act.put, List.setIfInBounds_toArray, List.set_cons_zero, List.set_cons_succ, i64_w, i32_w]
                            rfl
                          refine pure_ (i := 21) (N := some 95) (v := ?_) (a' := ?_) #[true, true, true, true, true, true, true, true, true, true, true, true, true, true, true, true, true, true, true, true, true, true, false, false, false, false, false, false, false, false, false, false, false, false, false, false, false] rfl rfl (any_of HT_.out (by kernel_rfl)) (fun _ _ _ h => h) (Or.inl ⟨by rfl, ?_⟩) ?_ ?_
                          rotate_left
                          · intro w'
                            go_simp
                            with_reducible rfl
                          rotate_left
                          · simp only [Act.put, List.setIfInBounds_toArray, List.set_cons_zero, List.set_cons_succ, i64_w, i32_w]
                            rfl
                          refine pure_ (i := 22) (N := some 96) (v := ?_) (a' := ?_) #[true, true, true, true, true, true, true, true, true, true, true, true, true, true, true, true, true, true, true, true, true, true, true, false, false, false, false, false, false, false, false, false, false, false, false, false, false] rfl rfl (any_of HT_.out (by kernel_rfl)) (fun _ _ _ h => h) (Or.inl ⟨by rfl, ?_⟩) ?_ ?_
                          rotate_left
                          · intro w'
                            go_simp
                            with_reducible rfl
                          rotate_left
                          · simp only [Act.put, List.setIfInBounds_toArray, List.set_cons_zero, List.set_cons_succ, i64_w, i32_w]
                            rfl
                          refine take_ (i := 23) (N := some 97) (v := ?_) (a' := ?_) #[true, true, true, true, true, true, true, true, true, true, true, true, true, true, true, true, true, true, true, true, true, true, true, true, false, false, false, false, false, false, false, false, false, false, false, false, false] rfl rfl (take_ofW HT_.out HW_.out (by kernel_rfl)) (fun _ _ _ h => h) (Or.inl ⟨by rfl, ?_⟩) hHeld ?_ ?_
                          rotate_left
                          · rintro w' ⟨s0, s1, s2, s3, s4, s5, s6, s7, s8, s9, s10, s11⟩
                            go_simp
                            with_reducible rfl
                          rotate_left
                          · simp only [Act.put, List.setIfInBounds_toArray, List.set_cons_zero, List.set_cons_succ, i64_w, i32_w]
                            rfl
                          refine one_ (i := 24) (N := some 98) #[true, true, true, true, true, true, true, true, true, true, true, true, true, true, true, true, true, true, true, true, true, true, true, true, true, false, false, false, false, false, false, false, false, false, false, false, false] rfl rfl (one_of HT_.out (by kernel_rfl)) (by decide) (fun K hK => ?_)
                          refine goes_ Try.func16 (by kernel_rfl) rfl #[.agg #[.string a0_0, .string a0_1, .bool a0_2]] (by rfl) rfl rfl (by (try simp only [List.map_toArray, List.map_cons, List.map_nil]); first | done | rfl | (simp only [List.length_drop, List.length_take]; rfl)) ?_
                          with_reducible refine (stretch_Empty.calls a0_0 a0_1 a0_2 true _ A132.out).mono ?_
                          rintro e w165 ⟨rfl, hb⟩
                          refine ⟨_, rfl, ?_⟩
                          have n0_ := Aside0.mk (Kd.R_below (by (with_reducible repeat (first | apply Kd.R_alloc | apply Kd.R_drewN | apply Kd.R_drew)); exact HO265.out) hb)
                          have n1_ := Aside0.mk (blk_below (g := gb244) (o := .cells #[.string a0_0, .string a0_1, .bool a0_2] 25 (0, 0)) (by (with_reducible repeat (first | refine blk_drewN ?_ _ | refine blk_drew ?_ | refine blk_alloc ?_ _)); exact BK244.out) hb)
                          have n2_ := Aside0.mk (blk_below (g := gb245) (o := .cells #[.string a1_0, .string a1_1, .bool a1_2] 25 (0, 0)) (by (with_reducible repeat (first | refine blk_drewN ?_ _ | refine blk_drew ?_ | refine blk_alloc ?_ _)); exact BK245.out) hb)
                          have n3_ := Aside0.mk (blk_below (g := gb246) (o := .cells #[.string a2_0, .string a2_1, .bool a2_2] 25 (0, 0)) (by (with_reducible repeat (first | refine blk_drewN ?_ _ | refine blk_drew ?_ | refine blk_alloc ?_ _)); exact BK246.out) hb)
                          have n4_ := Aside0.mk (blk_below (g := gb269) (o := .cells #[.string t266, .string t267, .bool t268] 25 (0, 0)) (by (with_reducible repeat (first | refine blk_drewN ?_ _ | refine blk_drew ?_ | refine blk_alloc ?_ _)); exact BK269.out) hb)
                          have n5_ := Aside0.mk (blk_below (g := gb273) (o := .cells #[.string t270, .string t271, .bool t272] 25 (0, 0)) (by (with_reducible repeat (first | refine blk_drewN ?_ _ | refine blk_drew ?_ | refine blk_alloc ?_ _)); exact BK273.out) hb)
                          have n6_ := Aside0.mk (below_step (by repeat (first | (with_reducible first | exact HB.out | apply below_alloc | apply pw_below_drewN | apply below_drew1 | refine below_set ?_ GE244.out | refine below_set ?_ GE245.out | refine below_set ?_ GE246.out | refine below_set ?_ GE269.out | refine below_set ?_ GE273.out) | exact HB.out)) hb)
                          clear HO265
                          clear BK244
                          clear BK245
                          clear BK246
                          clear BK269
                          clear BK273
                          clear HB
                          have HO265 := n0_
                          have BK244 := n1_
                          have BK245 := n2_
                          have BK246 := n3_
                          have BK269 := n4_
                          have BK273 := n5_
                          have HB := n6_
                          clear n0_ n1_ n2_ n3_ n4_ n5_ n6_
                          (try clear hb)
                          (try clear hb2)
                          (try clear hk)
                          (try clear hi)
                          refine hK.out _ _ ⟨(blk_cell BK269.out 0).trans rfl, (blk_cell BK269.out 1).trans rfl, (blk_cell BK269.out 2).trans rfl, (blk_cell BK244.out 0).trans rfl, (blk_cell BK244.out 1).trans rfl, (blk_cell BK244.out 2).trans rfl, (blk_cell BK245.out 0).trans rfl, (blk_cell BK245.out 1).trans rfl, (blk_cell BK245.out 2).trans rfl, (blk_cell BK273.out 0).trans rfl, (blk_cell BK273.out 1).trans rfl, (blk_cell BK273.out 2).trans rfl⟩ (fun hHeld => ?_)
                          clear hK K
                          refine norm_ (a' := ?_) ?_ ?_
                          rotate_left
                          · show Act.put _ (some 98) _ = _
                            simp only [Act.put, List.setIfInBounds_toArray, List.set_cons_zero, List.set_cons_succ, i64_w, i32_w]
                            rfl
                          refine pure_ (i := 25) (N := some 99) (v := ?_) (a' := ?_) #[true, true, true, true, true, true, true, true, true, true, true, true, true, true, true, true, true, true, true, true, true, true, true, true, true, true, false, false, false, false, false, false, false, false, false, false, false] rfl rfl (any_of HT_.out (by kernel_rfl)) (fun _ _ _ h => h) (Or.inl ⟨by rfl, ?_⟩) ?_ ?_
                          rotate_left
                          · intro w'
                            go_simp
                            with_reducible rfl
                          rotate_left
                          · simp only [Act.put, List.setIfInBounds_toArray, List.set_cons_zero, List.set_cons_succ, i64_w, i32_w]
                            rfl
                          refine pure_ (i := 26) (N := some 100) (v := ?_) (a' := ?_) #[true, true, true, true, true, true, true, true, true, true, true, true, true, true, true, true, true, true, true, true, true, true, true, true, true, true, true, false, false, false, false, false, false, false, false, false, false] rfl rfl (any_of HT_.out (by kernel_rfl)) (fun _ _ _ h => h) (Or.inl ⟨by rfl, ?_⟩) ?_ ?_
                          rotate_left
                          · intro w'
                            go_simp
                            with_reducible rfl
                          rotate_left
                          · simp only [Act.put, List.setIfInBounds_toArray, List.set_cons_zero, List.set_cons_succ, i64_w, i32_w]
                            rfl
                          refine pure_ (i := 28) (N := some 102) (v := ?_) (a' := ?_) #[true, true, true, true, true, true, true, true, true, true, true, true, true, true, true, true, true, true, true, true, true, true, true, true, true, true, true, false, true, false, false, false, false, false, false, false, false] rfl rfl (any_of HT_.out (by kernel_rfl)) (fun _ _ _ h => h) (Or.inl ⟨by rfl, ?_⟩) ?_ ?_
                          rotate_left
                          · intro w'
                            go_simp
                            with_reducible rfl
                          rotate_left
                          · simp only [Act.put, List.setIfInBounds_toArray, List.set_cons_zero, List.set_cons_succ, i64_w, i32_w]
                            rfl
                          refine take_ (i := 27) (N := some 101) (v := ?_) (a' := ?_) #[true, true, true, true, true, true, true, true, true, true, true, true, true, true, true, true, true, true, true, true, true, true, true, true, true, true, true, true, true, false, false, false, false, false, false, false, false] rfl rfl (take_ofW HT_.out HW_.out (by kernel_rfl)) (fun _ _ _ h => h) (Or.inl ⟨by rfl, ?_⟩) hHeld ?_ ?_
                          rotate_left
                          · rintro w' ⟨s0, s1, s2, s3, s4, s5, s6, s7, s8, s9, s10, s11⟩
                            go_simp
                            with_reducible rfl
                          rotate_left
                          · simp only [Act.put, List.setIfInBounds_toArray, List.set_cons_zero, List.set_cons_succ, i64_w, i32_w]
                            rfl
                          refine one_ (i := 29) (N := some 103) #[true, true, true, true, true, true, true, true, true, true, true, true, true, true, true, true, true, true, true, true, true, true, true, true, true, true, true, true, true, true, false, false, false, false, false, false, false] rfl rfl (one_of HT_.out (by kernel_rfl)) (by decide) (fun K hK => ?_)
                          refine goes_ Try.func13 (by kernel_rfl) rfl #[.agg #[.string a0_0, .string a0_1, .bool a0_2], .string a3] (by rfl) rfl rfl (by (try simp only [List.map_toArray, List.map_cons, List.map_nil]); first | done | rfl | (simp only [List.length_drop, List.length_take]; rfl)) ?_
                          with_reducible refine (stretch_In.calls a0_0 a0_1 a0_2 a3 false _ A134.out).mono ?_
                          rintro e w166 ⟨rfl, hb⟩
                          refine ⟨_, rfl, ?_⟩
                          have n0_ := Aside0.mk (Kd.R_below (by (with_reducible repeat (first | apply Kd.R_alloc | apply Kd.R_drewN | apply Kd.R_drew)); exact HO265.out) hb)
                          have n1_ := Aside0.mk (blk_below (g := gb244) (o := .cells #[.string a0_0, .string a0_1, .bool a0_2] 25 (0, 0)) (by (with_reducible repeat (first | refine blk_drewN ?_ _ | refine blk_drew ?_ | refine blk_alloc ?_ _)); exact BK244.out) hb)
                          have n2_ := Aside0.mk (blk_below (g := gb245) (o := .cells #[.string a1_0, .string a1_1, .bool a1_2] 25 (0, 0)) (by (with_reducible repeat (first | refine blk_drewN ?_ _ | refine blk_drew ?_ | refine blk_alloc ?_ _)); exact BK245.out) hb)
                          have n3_ := Aside0.mk (blk_below (g := gb246) (o := .cells #[.string a2_0, .string a2_1, .bool a2_2] 25 (0, 0)) (by (with_reducible repeat (first | refine blk_drewN ?_ _ | refine blk_drew ?_ | refine blk_alloc ?_ _)); exact BK246.out) hb)
                          have n4_ := Aside0.mk (blk_below (g := gb269) (o := .cells #[.string t266, .string t267, .bool t268] 25 (0, 0)) (by (with_reducible repeat (first | refine blk_drewN ?_ _ | refine blk_drew ?_ | refine blk_alloc ?_ _)); exact BK269.out) hb)
                          have n5_ := Aside0.mk (blk_below (g := gb273) (o := .cells #[.string t270, .string t271, .bool t272] 25 (0, 0)) (by (with_reducible repeat (first | refine blk_drewN ?_ _ | refine blk_drew ?_ | refine blk_alloc ?_ _)); exact BK273.out) hb)
                          have n6_ := Aside0.mk (below_step (by repeat (first | (with_reducible first | exact HB.out | apply below_alloc | apply pw_below_drewN | apply below_drew1 | refine below_set ?_ GE244.out | refine below_set ?_ GE245.out | refine below_set ?_ GE246.out | refine below_set ?_ GE269.out | refine below_set ?_ GE273.out) | exact HB.out)) hb)
                          clear HO265
                          clear BK244
                          clear BK245
                          clear BK246
                          clear BK269
                          clear BK273
                          clear HB
                          have HO265 := n0_
                          have BK244 := n1_
                          have BK245 := n2_
                          have BK246 := n3_
                          have BK269 := n4_
                          have BK273 := n5_
                          have HB := n6_
                          clear n0_ n1_ n2_ n3_ n4_ n5_ n6_
                          (try clear hb)
                          (try clear hb2)
                          (try clear hk)
                          (try clear hi)
                          refine hK.out _ _ ⟨(blk_cell BK269.out 0).trans rfl, (blk_cell BK269.out 1).trans rfl, (blk_cell BK269.out 2).trans rfl, (blk_cell BK244.out 0).trans rfl, (blk_cell BK244.out 1).trans rfl, (blk_cell BK244.out 2).trans rfl, (blk_cell BK245.out 0).trans rfl, (blk_cell BK245.out 1).trans rfl, (blk_cell BK245.out 2).trans rfl, (blk_cell BK273.out 0).trans rfl, (blk_cell BK273.out 1).trans rfl, (blk_cell BK273.out 2).trans rfl⟩ (fun hHeld => ?_)
                          clear hK K
                          refine norm_ (a' := ?_) ?_ ?_
                          rotate_left
                          · show Act.put _ (some 103) _ = _
                            simp only [Act.put, List.setIfInBounds_toArray, List.set_cons_zero, List.set_cons_succ, i64_w, i32_w]
                            rfl
                          refine pure_ (i := 30) (N := some 104) (v := ?_) (a' := ?_) #[true, true, true, true, true, true, true, true, true, true, true, true, true, true, true, true, true, true, true, true, true, true, true, true, true, true, true, true, true, true, true, false, false, false, false, false, false] rfl rfl (any_of HT_.out (by kernel_rfl)) (fun _ _ _ h => h) (Or.inl ⟨by rfl, ?_⟩) ?_ ?_
                          rotate_left
                          · intro w'
                            go_simp
                            with_reducible rfl
                          rotate_left
                          · simp only [Act.put, List.setIfInBounds_toArray, List.set_cons_zero, List.set_cons_succ, i64_w, i32_w]
                            rfl
                          refine pure_ (i := 31) (N := some 105) (v := ?_) (a' := ?_) #[true, true, true, true, true, true, true, true, true, true, true, true, true, true, true, true, true, true, true, true, true, true, true, true, true, true, true, true, true, true, true, true, false, false, false, false, false] rfl rfl (any_of HT_.out (by kernel_rfl)) (fun _ _ _ h => h) (Or.inl ⟨by rfl, ?_⟩) ?_ ?_
                          rotate_left
                          · intro w'
                            go_simp
                            with_reducible rfl
                          rotate_left
                          · simp only [Act.put, List.setIfInBounds_toArray, List.set_cons_zero, List.set_cons_succ, i64_w, i32_w]
                            rfl
                          refine pure_ (i := 32) (N := some 106) (v := ?_) (a' := ?_) #[true, true, true, true, true, true, true, true, true, true, true, true, true, true, true, true, true, true, true, true, true, true, true, true, true, true, true, true, true, true, true, true, true, false, false, false, false] rfl rfl (any_of HT_.out (by kernel_rfl)) (fun _ _ _ h => h) (Or.inl ⟨by rfl, ?_⟩) ?_ ?_
                          rotate_left
                          · intro w'
                            go_simp
                            with_reducible rfl
                          rotate_left
                          · simp only [Act.put, List.setIfInBounds_toArray, List.set_cons_zero, List.set_cons_succ, i64_w, i32_w]
                            rfl
                          refine pure_ (i := 33) (N := some 107) (v := ?_) (a' := ?_) #[true, true, true, true, true, true, true, true, true, true, true, true, true, true, true, true, true, true, true, true, true, true, true, true, true, true, true, true, true, true, true, true, true, true, false, false, false] rfl rfl (any_of HT_.out (by kernel_rfl)) (fun _ _ _ h => h) (Or.inl ⟨by rfl, ?_⟩) ?_ ?_
                          rotate_left
                          · intro w'
                            go_simp
                            with_reducible rfl
                          rotate_left
                          · simp only [Act.put, List.setIfInBounds_toArray, List.set_cons_zero, List.set_cons_succ, i64_w, i32_w]
                            rfl
                          refine one_ (i := 34) (N := some 108) #[true, true, true, true, true, true, true, true, true, true, true, true, true, true, true, true, true, true, true, true, true, true, true, true, true, true, true, true, true, true, true, true, true, true, true, false, false] rfl rfl (one_of HT_.out (by kernel_rfl)) (by decide) (fun K hK => ?_)
                          refine goes_ Try.func8 (by kernel_rfl) rfl #[] (by rfl) rfl rfl (by (try simp only [List.map_toArray, List.map_cons, List.map_nil]); first | done | rfl | (simp only [List.length_drop, List.length_take]; rfl)) ?_
                          with_reducible refine (weirkeeperlaw03_awake.calls kj26  t284 _ A136.out).mono ?_
                          rintro e w167 ⟨rfl, hb⟩
                          refine ⟨_, rfl, ?_⟩
                          have n0_ := Aside0.mk (Kd.R_below (by (with_reducible repeat (first | apply Kd.R_alloc | apply Kd.R_drewN | apply Kd.R_drew)); exact HO265.out) hb)
                          have n1_ := Aside0.mk (blk_below (g := gb244) (o := .cells #[.string a0_0, .string a0_1, .bool a0_2] 25 (0, 0)) (by (with_reducible repeat (first | refine blk_drewN ?_ _ | refine blk_drew ?_ | refine blk_alloc ?_ _)); exact BK244.out) hb)
                          have n2_ := Aside0.mk (blk_below (g := gb245) (o := .cells #[.string a1_0, .string a1_1, .bool a1_2] 25 (0, 0)) (by (with_reducible repeat (first | refine blk_drewN ?_ _ | refine blk_drew ?_ | refine blk_alloc ?_ _)); exact BK245.out) hb)
                          have n3_ := Aside0.mk (blk_below (g := gb246) (o := .cells #[.string a2_0, .string a2_1, .bool a2_2] 25 (0, 0)) (by (with_reducible repeat (first | refine blk_drewN ?_ _ | refine blk_drew ?_ | refine blk_alloc ?_ _)); exact BK246.out) hb)
                          have n4_ := Aside0.mk (blk_below (g := gb269) (o := .cells #[.string t266, .string t267, .bool t268] 25 (0, 0)) (by (with_reducible repeat (first | refine blk_drewN ?_ _ | refine blk_drew ?_ | refine blk_alloc ?_ _)); exact BK269.out) hb)
                          have n5_ := Aside0.mk (blk_below (g := gb273) (o := .cells #[.string t270, .string t271, .bool t272] 25 (0, 0)) (by (with_reducible repeat (first | refine blk_drewN ?_ _ | refine blk_drew ?_ | refine blk_alloc ?_ _)); exact BK273.out) hb)
                          have n6_ := Aside0.mk (below_step (by repeat (first | (with_reducible first | exact HB.out | apply below_alloc | apply pw_below_drewN | apply below_drew1 | refine below_set ?_ GE244.out | refine below_set ?_ GE245.out | refine below_set ?_ GE246.out | refine below_set ?_ GE269.out | refine below_set ?_ GE273.out) | exact HB.out)) hb)
                          clear HO265
                          clear BK244
                          clear BK245
                          clear BK246
                          clear BK269
                          clear BK273
                          clear HB
                          have HO265 := n0_
                          have BK244 := n1_
                          have BK245 := n2_
                          have BK246 := n3_
                          have BK269 := n4_
                          have BK273 := n5_
                          have HB := n6_
                          clear n0_ n1_ n2_ n3_ n4_ n5_ n6_
                          (try clear hb)
                          (try clear hb2)
                          (try clear hk)
                          (try clear hi)
                          refine hK.out _ _ ⟨(blk_cell BK269.out 0).trans rfl, (blk_cell BK269.out 1).trans rfl, (blk_cell BK269.out 2).trans rfl, (blk_cell BK244.out 0).trans rfl, (blk_cell BK244.out 1).trans rfl, (blk_cell BK244.out 2).trans rfl, (blk_cell BK245.out 0).trans rfl, (blk_cell BK245.out 1).trans rfl, (blk_cell BK245.out 2).trans rfl, (blk_cell BK273.out 0).trans rfl, (blk_cell BK273.out 1).trans rfl, (blk_cell BK273.out 2).trans rfl⟩ (fun hHeld => ?_)
                          clear hK K
                          refine norm_ (a' := ?_) ?_ ?_
                          rotate_left
                          · show Act.put _ (some 108) _ = _
                            simp only [Act.put, List.setIfInBounds_toArray, List.set_cons_zero, List.set_cons_succ, i64_w, i32_w]
                            rfl
                          refine pure_ (i := 35) (N := some 109) (v := ?_) (a' := ?_) #[true, true, true, true, true, true, true, true, true, true, true, true, true, true, true, true, true, true, true, true, true, true, true, true, true, true, true, true, true, true, true, true, true, true, true, true, false] rfl rfl (any_of HT_.out (by kernel_rfl)) (fun _ _ _ h => h) (Or.inl ⟨by rfl, ?_⟩) ?_ ?_
                          rotate_left
                          · intro w'
                            go_simp
                            with_reducible rfl
                          rotate_left
                          · simp only [Act.put, List.setIfInBounds_toArray, List.set_cons_zero, List.set_cons_succ, i64_w, i32_w]
                            rfl
                          refine pure_ (i := 36) (N := some 10) (v := ?_) (a' := ?_) #[true, true, true, true, true, true, true, true, true, true, true, true, true, true, true, true, true, true, true, true, true, true, true, true, true, true, true, true, true, true, true, true, true, true, true, true, true] rfl rfl (any_of HT_.out (by kernel_rfl)) (fun _ _ _ h => h) (Or.inl ⟨by rfl, ?_⟩) ?_ ?_
                          rotate_left
                          · intro w'
                            go_simp
                            with_reducible rfl
                          rotate_left
                          · simp only [Act.put, List.setIfInBounds_toArray, List.set_cons_zero, List.set_cons_succ, i64_w, i32_w]
                            rfl
                          refine done_ (done_of HT_.out (by kernel_rfl)) ?_
                          try go_wp2
                          go_ret
                          exact ⟨by first | rfl | (simp [errW_none, errW_some] <;> rfl) | (simp [*, errW_none, errW_some] <;> rfl), by repeat (first | (with_reducible first | exact HB.out | apply below_alloc | apply pw_below_drewN | apply below_drew1 | refine below_set ?_ GE244.out | refine below_set ?_ GE245.out | refine below_set ?_ GE246.out | refine below_set ?_ GE269.out | refine below_set ?_ GE273.out) | exact HB.out)⟩
                      · replace c133 := Bool.eq_false_iff.mpr c133
                        subst c133
                        have H1 : ((weirkeeperlaw03_awake.f kj26).bind fun t285 => (some t285)) = some r := by rw [if_neg (show ¬ (false = true) by decide)] at H; exact H
                        clear H
                        have H := H1
                        clear H1
                        replace H := Option.bind_eq_some_iff.mp H
                        obtain ⟨t285, A1680, H⟩ := H
                        replace H : (some t285) = some r := H
                        have A168 := Aside0.mk A1680
                        clear A1680
                        obtain rfl := Option.some.inj H
                        have hnb169 := NB244_245.out
                        have hnc169 := NB245_244.out
                        have hnb170 := NB244_246.out
                        have hnc170 := NB246_244.out
                        have hcz171_0 : wc.cell? ⟨gb244, 0, none⟩ = some (.string a0_0) := (blk_cell BK244.out 0).trans rfl
                        have hcz171_1 : wc.cell? ⟨gb244, 1, none⟩ = some (.string a0_1) := (blk_cell BK244.out 1).trans rfl
                        have hcz171_2 : wc.cell? ⟨gb244, 2, none⟩ = some (.bool a0_2) := (blk_cell BK244.out 2).trans rfl
                        have hfz171_0 := blk_frozen BK244.out 0
                        have hfz171_1 := blk_frozen BK244.out 1
                        have hfz171_2 := blk_frozen BK244.out 2
                        have hnb172 := NB245_246.out
                        have hnc172 := NB246_245.out
                        have hcz173_0 : wc.cell? ⟨gb245, 0, none⟩ = some (.string a1_0) := (blk_cell BK245.out 0).trans rfl
                        have hcz173_1 : wc.cell? ⟨gb245, 1, none⟩ = some (.string a1_1) := (blk_cell BK245.out 1).trans rfl
                        have hcz173_2 : wc.cell? ⟨gb245, 2, none⟩ = some (.bool a1_2) := (blk_cell BK245.out 2).trans rfl
                        have hfz173_0 := blk_frozen BK245.out 0
                        have hfz173_1 := blk_frozen BK245.out 1
                        have hfz173_2 := blk_frozen BK245.out 2
                        try go_wp2_with (first | ((with_reducible refine gate_dst (N := 69) rfl ?_); (try (refine gate_guard (by rfl) ?_; dsimp only)); refine Kd.R_lit k25 _ 25 ?hg (N := 69) ?hd (xs := ([(⟨a0_0, a0_1, a0_2⟩ : S25), (⟨a1_0, a1_1, a1_2⟩ : S25)] : List (S25))) (inner := [.string a0_0, .string a0_1, .bool a0_2, .string a1_0, .string a1_1, .bool a1_2]) (ok := fun _ => True) (okp := fun _ => True) ?hr ?hp (fun _ hk => hk) trivial (Below.refl _ _) (Nat.le_refl _) (by simp) ?_; (case hd => rfl); (case hg => rfl); (case hr => first | (go_simp; done) | (go_simp; rfl)); (case hp => exact (Reps.c3 (show Kd.M k25 _ _ _ (⟨a0_0, a0_1, a0_2⟩ : S25) [.string a0_0, .string a0_1, .bool a0_2] from (k25_mkM _ _ _ (⟨a0_0, a0_1, a0_2⟩ : S25) )) (Reps.c3 (show Kd.M k25 _ _ _ (⟨a1_0, a1_1, a1_2⟩ : S25) [.string a1_0, .string a1_1, .bool a1_2] from (k25_mkM _ _ _ (⟨a1_0, a1_1, a1_2⟩ : S25) )) (Reps.none _ _)))); intro v264 w174 ho175 hb hg_ hnew_; clear hg_ hnew_; (first | rw [← Ny263.out] at ho175 | (simp only [Int.reduceToNat] at ho175; rw [← Ny263.out] at ho175)); have n0_ := Aside0.mk (Kd.R_lower (Kd.R_newB (Kd.R_newB (Kd.R_newB ho175 (g := gb244) (o := .cells #[.string a0_0, .string a0_1, .bool a0_2] 25 (0, 0)) (by (with_reducible repeat (first | refine blk_drewN ?_ _ | refine blk_drew ?_ | refine blk_alloc ?_ _)); exact BK244.out)) (g := gb245) (o := .cells #[.string a1_0, .string a1_1, .bool a1_2] 25 (0, 0)) (by (with_reducible repeat (first | refine blk_drewN ?_ _ | refine blk_drew ?_ | refine blk_alloc ?_ _)); exact BK245.out)) (g := gb246) (o := .cells #[.string a2_0, .string a2_1, .bool a2_2] 25 (0, 0)) (by (with_reducible repeat (first | refine blk_drewN ?_ _ | refine blk_drew ?_ | refine blk_alloc ?_ _)); exact BK246.out)) (below_size (by repeat (first | (with_reducible first | exact HB.out | apply below_alloc | apply pw_below_drewN | apply below_drew1 | refine below_set ?_ GE244.out | refine below_set ?_ GE245.out | refine below_set ?_ GE246.out) | exact HB.out)))); have n1_ := Aside0.mk (blk_below (g := gb244) (o := .cells #[.string a0_0, .string a0_1, .bool a0_2] 25 (0, 0)) (by (with_reducible repeat (first | refine blk_drewN ?_ _ | refine blk_drew ?_ | refine blk_alloc ?_ _)); exact BK244.out) hb); have n2_ := Aside0.mk (blk_below (g := gb245) (o := .cells #[.string a1_0, .string a1_1, .bool a1_2] 25 (0, 0)) (by (with_reducible repeat (first | refine blk_drewN ?_ _ | refine blk_drew ?_ | refine blk_alloc ?_ _)); exact BK245.out) hb); have n3_ := Aside0.mk (blk_below (g := gb246) (o := .cells #[.string a2_0, .string a2_1, .bool a2_2] 25 (0, 0)) (by (with_reducible repeat (first | refine blk_drewN ?_ _ | refine blk_drew ?_ | refine blk_alloc ?_ _)); exact BK246.out) hb); have n4_ := Aside0.mk (below_step (by repeat (first | (with_reducible first | exact HB.out | apply below_alloc | apply pw_below_drewN | apply below_drew1 | refine below_set ?_ GE244.out | refine below_set ?_ GE245.out | refine below_set ?_ GE246.out) | exact HB.out)) hb); clear BK244; clear BK245; clear BK246; clear HB; have HO265 := n0_; have BK244 := n1_; have BK245 := n2_; have BK246 := n3_; have HB := n4_; clear n0_ n1_ n2_ n3_ n4_; clear hb ho175; obtain ⟨Ao176, co176, eo176⟩ := Kd.R_slice HO265.out; subst eo176) | ((with_reducible refine gate_callee (f := 11) rfl ?_); refine goesL_ (some 70) rfl rfl Try.func11 (by kernel_rfl) rfl #[.slice Ao176 y263.length co176] rfl (by (try simp only [List.map_toArray, List.map_cons, List.map_nil]); first | done | rfl | (simp only [List.length_drop, List.length_take]; rfl)) ?_; (with_reducible refine (stretch_Meet.calls kj26 _ _ y263 t266 t267 t268 _ ?side1 ?side2 A122.out).mono ?_); (case side1 => repeat (first | exact (Kd.R_reads' HO265.out).2.2 | (with_reducible refine Kd.C_alloc ?_ _) | (with_reducible refine Kd.C_drewN ?_ _) | (with_reducible refine Kd.C_drew ?_))); (case side2 => exact (Kd.R_reads' HO265.out).2.1); rintro e w177 ⟨rfl, hb⟩; refine ⟨_, rfl, ?_⟩; have n0_ := Aside0.mk (Kd.R_below (by (with_reducible repeat (first | apply Kd.R_alloc | apply Kd.R_drewN | apply Kd.R_drew)); exact HO265.out) hb); have n1_ := Aside0.mk (blk_below (g := gb244) (o := .cells #[.string a0_0, .string a0_1, .bool a0_2] 25 (0, 0)) (by (with_reducible repeat (first | refine blk_drewN ?_ _ | refine blk_drew ?_ | refine blk_alloc ?_ _)); exact BK244.out) hb); have n2_ := Aside0.mk (blk_below (g := gb245) (o := .cells #[.string a1_0, .string a1_1, .bool a1_2] 25 (0, 0)) (by (with_reducible repeat (first | refine blk_drewN ?_ _ | refine blk_drew ?_ | refine blk_alloc ?_ _)); exact BK245.out) hb); have n3_ := Aside0.mk (blk_below (g := gb246) (o := .cells #[.string a2_0, .string a2_1, .bool a2_2] 25 (0, 0)) (by (with_reducible repeat (first | refine blk_drewN ?_ _ | refine blk_drew ?_ | refine blk_alloc ?_ _)); exact BK246.out) hb); have n4_ := Aside0.mk (below_step (by repeat (first | (with_reducible first | exact HB.out | apply below_alloc | apply pw_below_drewN | apply below_drew1 | refine below_set ?_ GE244.out | refine below_set ?_ GE245.out | refine below_set ?_ GE246.out) | exact HB.out)) hb); clear HO265; clear BK244; clear BK245; clear BK246; clear HB; have HO265 := n0_; have BK244 := n1_; have BK245 := n2_; have BK246 := n3_; have HB := n4_; clear n0_ n1_ n2_ n3_ n4_; (try clear hb); (try clear hb2); (try clear hk); (try clear hi)) | ((with_reducible refine gate_dst (N := 11) rfl ?_); (try (refine gate_guard (by rfl) ?_; dsimp only)); refine box_event ?hg (N := 11) ?hd (cs := #[.string (⟨#[]⟩ : ByteArray), .string (⟨#[]⟩ : ByteArray), .bool false]) (t := 25) ?hr ?_; (case hd => rfl); (case hg => rfl); (case hr => first | (go_simp; done) | (go_simp; rfl)); intro gb269 hg w178 hbox hb; have n0_ := Aside0.mk (Kd.R_below (Kd.R_elderB (by (with_reducible repeat (first | apply Kd.R_alloc | apply Kd.R_drewN | apply Kd.R_drew)); exact HO265.out) gb269 (Nat.le_of_eq hg.symm)) hb); have n1_ := Aside0.mk (blk_below (g := gb244) (o := .cells #[.string a0_0, .string a0_1, .bool a0_2] 25 (0, 0)) (by (with_reducible repeat (first | refine blk_drewN ?_ _ | refine blk_drew ?_ | refine blk_alloc ?_ _)); exact BK244.out) hb); have n2_ := Aside0.mk (blk_below (g := gb245) (o := .cells #[.string a1_0, .string a1_1, .bool a1_2] 25 (0, 0)) (by (with_reducible repeat (first | refine blk_drewN ?_ _ | refine blk_drew ?_ | refine blk_alloc ?_ _)); exact BK245.out) hb); have n3_ := Aside0.mk (blk_below (g := gb246) (o := .cells #[.string a2_0, .string a2_1, .bool a2_2] 25 (0, 0)) (by (with_reducible repeat (first | refine blk_drewN ?_ _ | refine blk_drew ?_ | refine blk_alloc ?_ _)); exact BK246.out) hb); have n4_ := Aside0.mk (below_step (by repeat (first | (with_reducible first | exact HB.out | apply below_alloc | apply pw_below_drewN | apply below_drew1 | refine below_set ?_ GE244.out | refine below_set ?_ GE245.out | refine below_set ?_ GE246.out) | exact HB.out)) hb); have n5_ := Aside0.mk (hbox); have n6_ := Aside0.mk ((by rw [hg]; exact (below_size (by repeat (first | (with_reducible first | exact HB.out | apply below_alloc | apply pw_below_drewN | apply below_drew1 | refine below_set ?_ GE244.out | refine below_set ?_ GE245.out | refine below_set ?_ GE246.out) | exact HB.out))) : w.heap.size ≤ gb269)); have n7_ := Aside0.mk ((by rw [hg]; exact (below_size (by repeat (first | (with_reducible first | exact HB.out | apply below_alloc | apply pw_below_drewN | apply below_drew1 | refine below_set ?_ GE244.out | refine below_set ?_ GE245.out | refine below_set ?_ GE246.out) | exact HB.out))) : w.heap.size ≤ gb269)); have n8_ := Aside0.mk ((by rw [hg]; exact Nat.ne_of_lt (blk_lt (g := gb244) (o := .cells #[.string a0_0, .string a0_1, .bool a0_2] 25 (0, 0)) (by (with_reducible repeat (first | refine blk_drewN ?_ _ | refine blk_drew ?_ | refine blk_alloc ?_ _)); exact BK244.out)) : gb244 ≠ gb269)); have n9_ := Aside0.mk ((by rw [hg]; exact Nat.ne_of_gt (blk_lt (g := gb244) (o := .cells #[.string a0_0, .string a0_1, .bool a0_2] 25 (0, 0)) (by (with_reducible repeat (first | refine blk_drewN ?_ _ | refine blk_drew ?_ | refine blk_alloc ?_ _)); exact BK244.out)) : gb269 ≠ gb244)); have n10_ := Aside0.mk ((by rw [hg]; exact Nat.ne_of_lt (blk_lt (g := gb245) (o := .cells #[.string a1_0, .string a1_1, .bool a1_2] 25 (0, 0)) (by (with_reducible repeat (first | refine blk_drewN ?_ _ | refine blk_drew ?_ | refine blk_alloc ?_ _)); exact BK245.out)) : gb245 ≠ gb269)); have n11_ := Aside0.mk ((by rw [hg]; exact Nat.ne_of_gt (blk_lt (g := gb245) (o := .cells #[.string a1_0, .string a1_1, .bool a1_2] 25 (0, 0)) (by (with_reducible repeat (first | refine blk_drewN ?_ _ | refine blk_drew ?_ | refine blk_alloc ?_ _)); exact BK245.out)) : gb269 ≠ gb245)); have n12_ := Aside0.mk ((by rw [hg]; exact Nat.ne_of_lt (blk_lt (g := gb246) (o := .cells #[.string a2_0, .string a2_1, .bool a2_2] 25 (0, 0)) (by (with_reducible repeat (first | refine blk_drewN ?_ _ | refine blk_drew ?_ | refine blk_alloc ?_ _)); exact BK246.out)) : gb246 ≠ gb269)); have n13_ := Aside0.mk ((by rw [hg]; exact Nat.ne_of_gt (blk_lt (g := gb246) (o := .cells #[.string a2_0, .string a2_1, .bool a2_2] 25 (0, 0)) (by (with_reducible repeat (first | refine blk_drewN ?_ _ | refine blk_drew ?_ | refine blk_alloc ?_ _)); exact BK246.out)) : gb269 ≠ gb246)); clear HO265; clear BK244; clear BK245; clear BK246; clear HB; have HO265 := n0_; have BK244 := n1_; have BK245 := n2_; have BK246 := n3_; have HB := n4_; have BK269 := n5_; have GW269 := n6_; have GE269 := n7_; have NB244_269 := n8_; have NB269_244 := n9_; have NB245_269 := n10_; have NB269_245 := n11_; have NB246_269 := n12_; have NB269_246 := n13_; clear n0_ n1_ n2_ n3_ n4_ n5_ n6_ n7_ n8_ n9_ n10_ n11_ n12_ n13_; clear hb hbox hg; have hnb179 := NB269_244.out; have hnc179 := NB244_269.out; have hnb180 := NB269_245.out; have hnc180 := NB245_269.out; have hnb181 := NB269_246.out; have hnc181 := NB246_269.out; have hcz182_0 : w178.cell? ⟨gb269, 0, none⟩ = some (.string (⟨#[]⟩ : ByteArray)) := (blk_cell BK269.out 0).trans rfl; have hcz182_1 : w178.cell? ⟨gb269, 1, none⟩ = some (.string (⟨#[]⟩ : ByteArray)) := (blk_cell BK269.out 1).trans rfl; have hcz182_2 : w178.cell? ⟨gb269, 2, none⟩ = some (.bool false) := (blk_cell BK269.out 2).trans rfl; have hfz182_0 := blk_frozen BK269.out 0; have hfz182_1 := blk_frozen BK269.out 1; have hfz182_2 := blk_frozen BK269.out 2; have hcz183_0 : w178.cell? ⟨gb244, 0, none⟩ = some (.string a0_0) := (blk_cell BK244.out 0).trans rfl; have hcz183_1 : w178.cell? ⟨gb244, 1, none⟩ = some (.string a0_1) := (blk_cell BK244.out 1).trans rfl; have hcz183_2 : w178.cell? ⟨gb244, 2, none⟩ = some (.bool a0_2) := (blk_cell BK244.out 2).trans rfl; have hfz183_0 := blk_frozen BK244.out 0; have hfz183_1 := blk_frozen BK244.out 1; have hfz183_2 := blk_frozen BK244.out 2) | ((with_reducible refine gate_callee (f := 15) rfl ?_); refine goesL_ (some 73) rfl rfl Try.func15 (by kernel_rfl) rfl #[.agg #[.string a0_0, .string a0_1, .bool a0_2], .string a3] rfl (by (try simp only [List.map_toArray, List.map_cons, List.map_nil]); first | done | rfl | (simp only [List.length_drop, List.length_take]; rfl)) ?_; (with_reducible refine (stretch_Behind.calls a0_0 a0_1 a0_2 a3 t270 t271 t272 _ A123.out).mono ?_); rintro e w184 ⟨rfl, hb⟩; refine ⟨_, rfl, ?_⟩; have n0_ := Aside0.mk (Kd.R_below (by (with_reducible repeat (first | apply Kd.R_alloc | apply Kd.R_drewN | apply Kd.R_drew)); exact (Kd.R_mono (Kd.R_far (p := ⟨gb269, 2, none⟩) (Kd.R_far (p := ⟨gb269, 1, none⟩) (Kd.R_far (p := ⟨gb269, 0, none⟩) (Kd.R_mono HO265.out (fun k_ hk => (⟨hk, hk.2⟩ : _ ∧ k_ ≠ gb269))) (fun _ hk => hk.2) (.string t266)) (fun _ hk => hk.2) (.string t267)) (fun _ hk => hk.2) (.bool t268)) (fun _ h_ => h_.1))) hb); have n1_ := Aside0.mk (blk_below (g := gb244) (o := .cells #[.string a0_0, .string a0_1, .bool a0_2] 25 (0, 0)) (by (with_reducible repeat (first | refine blk_drewN ?_ _ | refine blk_drew ?_ | refine blk_alloc ?_ _)); refine blk_far ?_ NB244_269.out _; (with_reducible repeat (first | refine blk_drewN ?_ _ | refine blk_drew ?_ | refine blk_alloc ?_ _)); refine blk_far ?_ NB244_269.out _; (with_reducible repeat (first | refine blk_drewN ?_ _ | refine blk_drew ?_ | refine blk_alloc ?_ _)); refine blk_far ?_ NB244_269.out _; (with_reducible repeat (first | refine blk_drewN ?_ _ | refine blk_drew ?_ | refine blk_alloc ?_ _)); exact BK244.out) hb); have n2_ := Aside0.mk (blk_below (g := gb245) (o := .cells #[.string a1_0, .string a1_1, .bool a1_2] 25 (0, 0)) (by (with_reducible repeat (first | refine blk_drewN ?_ _ | refine blk_drew ?_ | refine blk_alloc ?_ _)); refine blk_far ?_ NB245_269.out _; (with_reducible repeat (first | refine blk_drewN ?_ _ | refine blk_drew ?_ | refine blk_alloc ?_ _)); refine blk_far ?_ NB245_269.out _; (with_reducible repeat (first | refine blk_drewN ?_ _ | refine blk_drew ?_ | refine blk_alloc ?_ _)); refine blk_far ?_ NB245_269.out _; (with_reducible repeat (first | refine blk_drewN ?_ _ | refine blk_drew ?_ | refine blk_alloc ?_ _)); exact BK245.out) hb); have n3_ := Aside0.mk (blk_below (g := gb246) (o := .cells #[.string a2_0, .string a2_1, .bool a2_2] 25 (0, 0)) (by (with_reducible repeat (first | refine blk_drewN ?_ _ | refine blk_drew ?_ | refine blk_alloc ?_ _)); refine blk_far ?_ NB246_269.out _; (with_reducible repeat (first | refine blk_drewN ?_ _ | refine blk_drew ?_ | refine blk_alloc ?_ _)); refine blk_far ?_ NB246_269.out _; (with_reducible repeat (first | refine blk_drewN ?_ _ | refine blk_drew ?_ | refine blk_alloc ?_ _)); refine blk_far ?_ NB246_269.out _; (with_reducible repeat (first | refine blk_drewN ?_ _ | refine blk_drew ?_ | refine blk_alloc ?_ _)); exact BK246.out) hb); have n4_ := Aside0.mk (blk_below (g := gb269) (o := .cells #[.string t266, .string t267, .bool t268] 25 (0, 0)) (by (with_reducible repeat (first | refine blk_drewN ?_ _ | refine blk_drew ?_ | refine blk_alloc ?_ _)); refine blk_put (cs := #[.string t266, .string t267, .bool false]) ?_ 2 _ rfl; (with_reducible repeat (first | refine blk_drewN ?_ _ | refine blk_drew ?_ | refine blk_alloc ?_ _)); refine blk_put (cs := #[.string t266, .string (⟨#[]⟩ : ByteArray), .bool false]) ?_ 1 _ rfl; (with_reducible repeat (first | refine blk_drewN ?_ _ | refine blk_drew ?_ | refine blk_alloc ?_ _)); refine blk_put (cs := #[.string (⟨#[]⟩ : ByteArray), .string (⟨#[]⟩ : ByteArray), .bool false]) ?_ 0 _ rfl; (with_reducible repeat (first | refine blk_drewN ?_ _ | refine blk_drew ?_ | refine blk_alloc ?_ _)); exact BK269.out) hb); have n5_ := Aside0.mk (below_step (by repeat (first | (with_reducible first | exact HB.out | apply below_alloc | apply pw_below_drewN | apply below_drew1 | refine below_set ?_ GE244.out | refine below_set ?_ GE245.out | refine below_set ?_ GE246.out | refine below_set ?_ GE269.out) | exact HB.out)) hb); clear HO265; clear BK244; clear BK245; clear BK246; clear BK269; clear HB; have HO265 := n0_; have BK244 := n1_; have BK245 := n2_; have BK246 := n3_; have BK269 := n4_; have HB := n5_; clear n0_ n1_ n2_ n3_ n4_ n5_; (try clear hb); (try clear hb2); (try clear hk); (try clear hi)) | ((with_reducible refine gate_dst (N := 12) rfl ?_); (try (refine gate_guard (by rfl) ?_; dsimp only)); refine box_event ?hg (N := 12) ?hd (cs := #[.string (⟨#[]⟩ : ByteArray), .string (⟨#[]⟩ : ByteArray), .bool false]) (t := 25) ?hr ?_; (case hd => rfl); (case hg => rfl); (case hr => first | (go_simp; done) | (go_simp; rfl)); intro gb273 hg w185 hbox hb; have n0_ := Aside0.mk (Kd.R_below (Kd.R_elderB (by (with_reducible repeat (first | apply Kd.R_alloc | apply Kd.R_drewN | apply Kd.R_drew)); exact HO265.out) gb273 (Nat.le_of_eq hg.symm)) hb); have n1_ := Aside0.mk (blk_below (g := gb244) (o := .cells #[.string a0_0, .string a0_1, .bool a0_2] 25 (0, 0)) (by (with_reducible repeat (first | refine blk_drewN ?_ _ | refine blk_drew ?_ | refine blk_alloc ?_ _)); exact BK244.out) hb); have n2_ := Aside0.mk (blk_below (g := gb245) (o := .cells #[.string a1_0, .string a1_1, .bool a1_2] 25 (0, 0)) (by (with_reducible repeat (first | refine blk_drewN ?_ _ | refine blk_drew ?_ | refine blk_alloc ?_ _)); exact BK245.out) hb); have n3_ := Aside0.mk (blk_below (g := gb246) (o := .cells #[.string a2_0, .string a2_1, .bool a2_2] 25 (0, 0)) (by (with_reducible repeat (first | refine blk_drewN ?_ _ | refine blk_drew ?_ | refine blk_alloc ?_ _)); exact BK246.out) hb); have n4_ := Aside0.mk (blk_below (g := gb269) (o := .cells #[.string t266, .string t267, .bool t268] 25 (0, 0)) (by (with_reducible repeat (first | refine blk_drewN ?_ _ | refine blk_drew ?_ | refine blk_alloc ?_ _)); exact BK269.out) hb); have n5_ := Aside0.mk (below_step (by repeat (first | (with_reducible first | exact HB.out | apply below_alloc | apply pw_below_drewN | apply below_drew1 | refine below_set ?_ GE244.out | refine below_set ?_ GE245.out | refine below_set ?_ GE246.out | refine below_set ?_ GE269.out) | exact HB.out)) hb); have n6_ := Aside0.mk (hbox); have n7_ := Aside0.mk ((by rw [hg]; exact (below_size (by repeat (first | (with_reducible first | exact HB.out | apply below_alloc | apply pw_below_drewN | apply below_drew1 | refine below_set ?_ GE244.out | refine below_set ?_ GE245.out | refine below_set ?_ GE246.out | refine below_set ?_ GE269.out) | exact HB.out))) : w.heap.size ≤ gb273)); have n8_ := Aside0.mk ((by rw [hg]; exact (below_size (by repeat (first | (with_reducible first | exact HB.out | apply below_alloc | apply pw_below_drewN | apply below_drew1 | refine below_set ?_ GE244.out | refine below_set ?_ GE245.out | refine below_set ?_ GE246.out | refine below_set ?_ GE269.out) | exact HB.out))) : w.heap.size ≤ gb273)); have n9_ := Aside0.mk ((by rw [hg]; exact Nat.ne_of_lt (blk_lt (g := gb244) (o := .cells #[.string a0_0, .string a0_1, .bool a0_2] 25 (0, 0)) (by (with_reducible repeat (first | refine blk_drewN ?_ _ | refine blk_drew ?_ | refine blk_alloc ?_ _)); exact BK244.out)) : gb244 ≠ gb273)); have n10_ := Aside0.mk ((by rw [hg]; exact Nat.ne_of_gt (blk_lt (g := gb244) (o := .cells #[.string a0_0, .string a0_1, .bool a0_2] 25 (0, 0)) (by (with_reducible repeat (first | refine blk_drewN ?_ _ | refine blk_drew ?_ | refine blk_alloc ?_ _)); exact BK244.out)) : gb273 ≠ gb244)); have n11_ := Aside0.mk ((by rw [hg]; exact Nat.ne_of_lt (blk_lt (g := gb245) (o := .cells #[.string a1_0, .string a1_1, .bool a1_2] 25 (0, 0)) (by (with_reducible repeat (first | refine blk_drewN ?_ _ | refine blk_drew ?_ | refine blk_alloc ?_ _)); exact BK245.out)) : gb245 ≠ gb273)); have n12_ := Aside0.mk ((by rw [hg]; exact Nat.ne_of_gt (blk_lt (g := gb245) (o := .cells #[.string a1_0, .string a1_1, .bool a1_2] 25 (0, 0)) (by (with_reducible repeat (first | refine blk_drewN ?_ _ | refine blk_drew ?_ | refine blk_alloc ?_ _)); exact BK245.out)) : gb273 ≠ gb245)); have n13_ := Aside0.mk ((by rw [hg]; exact Nat.ne_of_lt (blk_lt (g := gb246) (o := .cells #[.string a2_0, .string a2_1, .bool a2_2] 25 (0, 0)) (by (with_reducible repeat (first | refine blk_drewN ?_ _ | refine blk_drew ?_ | refine blk_alloc ?_ _)); exact BK246.out)) : gb246 ≠ gb273)); have n14_ := Aside0.mk ((by rw [hg]; exact Nat.ne_of_gt (blk_lt (g := gb246) (o := .cells #[.string a2_0, .string a2_1, .bool a2_2] 25 (0, 0)) (by (with_reducible repeat (first | refine blk_drewN ?_ _ | refine blk_drew ?_ | refine blk_alloc ?_ _)); exact BK246.out)) : gb273 ≠ gb246)); have n15_ := Aside0.mk ((by rw [hg]; exact Nat.ne_of_lt (blk_lt (g := gb269) (o := .cells #[.string t266, .string t267, .bool t268] 25 (0, 0)) (by (with_reducible repeat (first | refine blk_drewN ?_ _ | refine blk_drew ?_ | refine blk_alloc ?_ _)); exact BK269.out)) : gb269 ≠ gb273)); have n16_ := Aside0.mk ((by rw [hg]; exact Nat.ne_of_gt (blk_lt (g := gb269) (o := .cells #[.string t266, .string t267, .bool t268] 25 (0, 0)) (by (with_reducible repeat (first | refine blk_drewN ?_ _ | refine blk_drew ?_ | refine blk_alloc ?_ _)); exact BK269.out)) : gb273 ≠ gb269)); clear HO265; clear BK244; clear BK245; clear BK246; clear BK269; clear HB; have HO265 := n0_; have BK244 := n1_; have BK245 := n2_; have BK246 := n3_; have BK269 := n4_; have HB := n5_; have BK273 := n6_; have GW273 := n7_; have GE273 := n8_; have NB244_273 := n9_; have NB273_244 := n10_; have NB245_273 := n11_; have NB273_245 := n12_; have NB246_273 := n13_; have NB273_246 := n14_; have NB269_273 := n15_; have NB273_269 := n16_; clear n0_ n1_ n2_ n3_ n4_ n5_ n6_ n7_ n8_ n9_ n10_ n11_ n12_ n13_ n14_ n15_ n16_; clear hb hbox hg; have hnb186 := NB273_244.out; have hnc186 := NB244_273.out; have hnb187 := NB273_245.out; have hnc187 := NB245_273.out; have hnb188 := NB273_246.out; have hnc188 := NB246_273.out; have hnb189 := NB273_269.out; have hnc189 := NB269_273.out; have hcz190_0 : w185.cell? ⟨gb273, 0, none⟩ = some (.string (⟨#[]⟩ : ByteArray)) := (blk_cell BK273.out 0).trans rfl; have hcz190_1 : w185.cell? ⟨gb273, 1, none⟩ = some (.string (⟨#[]⟩ : ByteArray)) := (blk_cell BK273.out 1).trans rfl; have hcz190_2 : w185.cell? ⟨gb273, 2, none⟩ = some (.bool false) := (blk_cell BK273.out 2).trans rfl; have hfz190_0 := blk_frozen BK273.out 0; have hfz190_1 := blk_frozen BK273.out 1; have hfz190_2 := blk_frozen BK273.out 2))
                        have n0_ : Aside0 (Kd.R k25 25 (((w185.setCell ⟨gb273, 0, none⟩ (.string t270)).setCell ⟨gb273, 1, none⟩ (.string t271)).setCell ⟨gb273, 2, none⟩ (.bool t272)) w.heap.size (fun k_ => k_ ≠ gb244 ∧ k_ ≠ gb245 ∧ k_ ≠ gb246 ∧ k_ ≠ gb269 ∧ k_ ≠ gb273) (.slice Ao176 y263.length co176) y263) := ⟨by (with_reducible repeat (first | apply Kd.R_alloc | apply Kd.R_drewN | apply Kd.R_drew)); exact Kd.R_mono (Kd.R_far (p := ⟨gb273, 2, none⟩) (Kd.R_far (p := ⟨gb273, 1, none⟩) (Kd.R_far (p := ⟨gb273, 0, none⟩) (Kd.R_mono HO265.out (fun k_ hk => (⟨hk, hk.2⟩ : _ ∧ k_ ≠ gb273))) (fun _ hk => hk.2) (.string t270)) (fun _ hk => hk.2) (.string t271)) (fun _ hk => hk.2) (.bool t272)) (fun _ hk => ⟨hk.1.1.1.1.1.2, ⟨hk.1.1.1.1.2, ⟨hk.1.1.1.2, ⟨hk.1.1.2, hk.1.2⟩⟩⟩⟩)⟩
                        have n1_ : Aside0 ((((w185.setCell ⟨gb273, 0, none⟩ (.string t270)).setCell ⟨gb273, 1, none⟩ (.string t271)).setCell ⟨gb273, 2, none⟩ (.bool t272)).heap[gb244]? = some (.cells #[.string a0_0, .string a0_1, .bool a0_2] 25 (0, 0))) := ⟨by (with_reducible repeat (first | refine blk_drewN ?_ _ | refine blk_drew ?_ | refine blk_alloc ?_ _)); refine blk_far ?_ NB244_273.out _; (with_reducible repeat (first | refine blk_drewN ?_ _ | refine blk_drew ?_ | refine blk_alloc ?_ _)); refine blk_far ?_ NB244_273.out _; (with_reducible repeat (first | refine blk_drewN ?_ _ | refine blk_drew ?_ | refine blk_alloc ?_ _)); refine blk_far ?_ NB244_273.out _; (with_reducible repeat (first | refine blk_drewN ?_ _ | refine blk_drew ?_ | refine blk_alloc ?_ _)); exact BK244.out⟩
                        have n2_ : Aside0 ((((w185.setCell ⟨gb273, 0, none⟩ (.string t270)).setCell ⟨gb273, 1, none⟩ (.string t271)).setCell ⟨gb273, 2, none⟩ (.bool t272)).heap[gb245]? = some (.cells #[.string a1_0, .string a1_1, .bool a1_2] 25 (0, 0))) := ⟨by (with_reducible repeat (first | refine blk_drewN ?_ _ | refine blk_drew ?_ | refine blk_alloc ?_ _)); refine blk_far ?_ NB245_273.out _; (with_reducible repeat (first | refine blk_drewN ?_ _ | refine blk_drew ?_ | refine blk_alloc ?_ _)); refine blk_far ?_ NB245_273.out _; (with_reducible repeat (first | refine blk_drewN ?_ _ | refine blk_drew ?_ | refine blk_alloc ?_ _)); refine blk_far ?_ NB245_273.out _; (with_reducible repeat (first | refine blk_drewN ?_ _ | refine blk_drew ?_ | refine blk_alloc ?_ _)); exact BK245.out⟩
                        have n3_ : Aside0 ((((w185.setCell ⟨gb273, 0, none⟩ (.string t270)).setCell ⟨gb273, 1, none⟩ (.string t271)).setCell ⟨gb273, 2, none⟩ (.bool t272)).heap[gb246]? = some (.cells #[.string a2_0, .string a2_1, .bool a2_2] 25 (0, 0))) := ⟨by (with_reducible repeat (first | refine blk_drewN ?_ _ | refine blk_drew ?_ | refine blk_alloc ?_ _)); refine blk_far ?_ NB246_273.out _; (with_reducible repeat (first | refine blk_drewN ?_ _ | refine blk_drew ?_ | refine blk_alloc ?_ _)); refine blk_far ?_ NB246_273.out _; (with_reducible repeat (first | refine blk_drewN ?_ _ | refine blk_drew ?_ | refine blk_alloc ?_ _)); refine blk_far ?_ NB246_273.out _; (with_reducible repeat (first | refine blk_drewN ?_ _ | refine blk_drew ?_ | refine blk_alloc ?_ _)); exact BK246.out⟩
                        have n4_ : Aside0 ((((w185.setCell ⟨gb273, 0, none⟩ (.string t270)).setCell ⟨gb273, 1, none⟩ (.string t271)).setCell ⟨gb273, 2, none⟩ (.bool t272)).heap[gb269]? = some (.cells #[.string t266, .string t267, .bool t268] 25 (0, 0))) := ⟨by (with_reducible repeat (first | refine blk_drewN ?_ _ | refine blk_drew ?_ | refine blk_alloc ?_ _)); refine blk_far ?_ NB269_273.out _; (with_reducible repeat (first | refine blk_drewN ?_ _ | refine blk_drew ?_ | refine blk_alloc ?_ _)); refine blk_far ?_ NB269_273.out _; (with_reducible repeat (first | refine blk_drewN ?_ _ | refine blk_drew ?_ | refine blk_alloc ?_ _)); refine blk_far ?_ NB269_273.out _; (with_reducible repeat (first | refine blk_drewN ?_ _ | refine blk_drew ?_ | refine blk_alloc ?_ _)); exact BK269.out⟩
                        have n5_ : Aside0 ((((w185.setCell ⟨gb273, 0, none⟩ (.string t270)).setCell ⟨gb273, 1, none⟩ (.string t271)).setCell ⟨gb273, 2, none⟩ (.bool t272)).heap[gb273]? = some (.cells #[.string t270, .string t271, .bool t272] 25 (0, 0))) := ⟨by (with_reducible repeat (first | refine blk_drewN ?_ _ | refine blk_drew ?_ | refine blk_alloc ?_ _)); refine blk_put (cs := #[.string t270, .string t271, .bool false]) ?_ 2 _ rfl; (with_reducible repeat (first | refine blk_drewN ?_ _ | refine blk_drew ?_ | refine blk_alloc ?_ _)); refine blk_put (cs := #[.string t270, .string (⟨#[]⟩ : ByteArray), .bool false]) ?_ 1 _ rfl; (with_reducible repeat (first | refine blk_drewN ?_ _ | refine blk_drew ?_ | refine blk_alloc ?_ _)); refine blk_put (cs := #[.string (⟨#[]⟩ : ByteArray), .string (⟨#[]⟩ : ByteArray), .bool false]) ?_ 0 _ rfl; (with_reducible repeat (first | refine blk_drewN ?_ _ | refine blk_drew ?_ | refine blk_alloc ?_ _)); exact BK273.out⟩
                        have n6_ : Aside0 (Below w.heap.size w (((w185.setCell ⟨gb273, 0, none⟩ (.string t270)).setCell ⟨gb273, 1, none⟩ (.string t271)).setCell ⟨gb273, 2, none⟩ (.bool t272))) := ⟨by repeat (first | (with_reducible first | exact HB.out | apply below_alloc | apply pw_below_drewN | apply below_drew1 | refine below_set ?_ GE244.out | refine below_set ?_ GE245.out | refine below_set ?_ GE246.out | refine below_set ?_ GE269.out | refine below_set ?_ GE273.out) | exact HB.out)⟩
                        (try clear HO265)
                        (try clear BK244)
                        (try clear BK245)
                        (try clear BK246)
                        (try clear BK269)
                        (try clear BK273)
                        (try clear HB)
                        generalize (((w185.setCell ⟨gb273, 0, none⟩ (.string t270)).setCell ⟨gb273, 1, none⟩ (.string t271)).setCell ⟨gb273, 2, none⟩ (.bool t272)) = w191 at n0_ n1_ n2_ n3_ n4_ n5_ n6_ ⊢
                        have HO265 := n0_
                        have BK244 := n1_
                        have BK245 := n2_
                        have BK246 := n3_
                        have BK269 := n4_
                        have BK273 := n5_
                        have HB := n6_
                        clear n0_ n1_ n2_ n3_ n4_ n5_ n6_
                        have n0_ := Aside0.mk (Kd.R_drew HO265.out)
                        have n1_ := Aside0.mk (blk_drew BK244.out)
                        have n2_ := Aside0.mk (blk_drew BK245.out)
                        have n3_ := Aside0.mk (blk_drew BK246.out)
                        have n4_ := Aside0.mk (blk_drew BK269.out)
                        have n5_ := Aside0.mk (blk_drew BK273.out)
                        have n6_ := Aside0.mk (below_drew1 HB.out)
                        clear HO265
                        clear BK244
                        clear BK245
                        clear BK246
                        clear BK269
                        clear BK273
                        clear HB
                        have HO265 := n0_
                        have BK244 := n1_
                        have BK245 := n2_
                        have BK246 := n3_
                        have BK269 := n4_
                        have BK273 := n5_
                        have HB := n6_
                        clear n0_ n1_ n2_ n3_ n4_ n5_ n6_
                        refine start_ (n := 37) (S := fun w' => w'.cell? ⟨gb269, 0, none⟩ = some (.string t266) ∧ w'.cell? ⟨gb269, 1, none⟩ = some (.string t267) ∧ w'.cell? ⟨gb269, 2, none⟩ = some (.bool t268) ∧ w'.cell? ⟨gb244, 0, none⟩ = some (.string a0_0) ∧ w'.cell? ⟨gb244, 1, none⟩ = some (.string a0_1) ∧ w'.cell? ⟨gb244, 2, none⟩ = some (.bool a0_2) ∧ w'.cell? ⟨gb245, 0, none⟩ = some (.string a1_0) ∧ w'.cell? ⟨gb245, 1, none⟩ = some (.string a1_1) ∧ w'.cell? ⟨gb245, 2, none⟩ = some (.bool a1_2) ∧ w'.cell? ⟨gb273, 0, none⟩ = some (.string t270) ∧ w'.cell? ⟨gb273, 1, none⟩ = some (.string t271) ∧ w'.cell? ⟨gb273, 2, none⟩ = some (.bool t272)) (ds := []) #[false, false, false, false, false, false, false, false, false, false, false, false, false, false, false, false, false, false, false, false, false, false, false, false, false, false, false, false, false, false, false, false, false, false, false, false, false] (by kernel_rfl) rfl rfl ⟨(blk_cell BK269.out 0).trans rfl, (blk_cell BK269.out 1).trans rfl, (blk_cell BK269.out 2).trans rfl, (blk_cell BK244.out 0).trans rfl, (blk_cell BK244.out 1).trans rfl, (blk_cell BK244.out 2).trans rfl, (blk_cell BK245.out 0).trans rfl, (blk_cell BK245.out 1).trans rfl, (blk_cell BK245.out 2).trans rfl, (blk_cell BK273.out 0).trans rfl, (blk_cell BK273.out 1).trans rfl, (blk_cell BK273.out 2).trans rfl⟩ (fun hHeld => ?_); refine with_tabW weirkeeperlaw03_StretchWithin_v2.tab7 weirkeeperlaw03_StretchWithin_v2.bits7 (fun HT_ HW_ => ?_)
                        generalize w191.drew = w192 at HO265 BK244 BK245 BK246 BK269 BK273 HB hHeld ⊢
                        refine take_ (i := 0) (N := some 74) (v := ?_) (a' := ?_) #[true, false, false, false, false, false, false, false, false, false, false, false, false, false, false, false, false, false, false, false, false, false, false, false, false, false, false, false, false, false, false, false, false, false, false, false, false] rfl rfl (take_ofW HT_.out HW_.out (by kernel_rfl)) (fun _ _ _ h => h) (Or.inl ⟨by rfl, ?_⟩) hHeld ?_ ?_
                        rotate_left
                        · rintro w' ⟨s0, s1, s2, s3, s4, s5, s6, s7, s8, s9, s10, s11⟩
                          go_simp
                          with_reducible rfl
                        rotate_left
                        · simp only [Act.put, List.setIfInBounds_toArray, List.set_cons_zero, List.set_cons_succ, i64_w, i32_w]
                          rfl
                        refine take_ (i := 1) (N := some 75) (v := ?_) (a' := ?_) #[true, true, false, false, false, false, false, false, false, false, false, false, false, false, false, false, false, false, false, false, false, false, false, false, false, false, false, false, false, false, false, false, false, false, false, false, false] rfl rfl (take_ofW HT_.out HW_.out (by kernel_rfl)) (fun _ _ _ h => h) (Or.inl ⟨by rfl, ?_⟩) hHeld ?_ ?_
                        rotate_left
                        · rintro w' ⟨s0, s1, s2, s3, s4, s5, s6, s7, s8, s9, s10, s11⟩
                          go_simp
                          with_reducible rfl
                        rotate_left
                        · simp only [Act.put, List.setIfInBounds_toArray, List.set_cons_zero, List.set_cons_succ, i64_w, i32_w]
                          rfl
                        refine one_ (i := 2) (N := some 76) #[true, true, true, false, false, false, false, false, false, false, false, false, false, false, false, false, false, false, false, false, false, false, false, false, false, false, false, false, false, false, false, false, false, false, false, false, false] rfl rfl (one_of HT_.out (by kernel_rfl)) (by decide) (fun K hK => ?_)
                        refine goes_ Try.func14 (by kernel_rfl) rfl #[.agg #[.string t266, .string t267, .bool t268], .agg #[.string a0_0, .string a0_1, .bool a0_2]] (by rfl) rfl rfl (by (try simp only [List.map_toArray, List.map_cons, List.map_nil]); first | done | rfl | (simp only [List.length_drop, List.length_take]; rfl)) ?_
                        with_reducible refine (stretch_Within.calls t266 t267 t268 a0_0 a0_1 a0_2 true _ A124.out).mono ?_
                        rintro e w193 ⟨rfl, hb⟩
                        refine ⟨_, rfl, ?_⟩
                        have n0_ := Aside0.mk (Kd.R_below (by (with_reducible repeat (first | apply Kd.R_alloc | apply Kd.R_drewN | apply Kd.R_drew)); exact HO265.out) hb)
                        have n1_ := Aside0.mk (blk_below (g := gb244) (o := .cells #[.string a0_0, .string a0_1, .bool a0_2] 25 (0, 0)) (by (with_reducible repeat (first | refine blk_drewN ?_ _ | refine blk_drew ?_ | refine blk_alloc ?_ _)); exact BK244.out) hb)
                        have n2_ := Aside0.mk (blk_below (g := gb245) (o := .cells #[.string a1_0, .string a1_1, .bool a1_2] 25 (0, 0)) (by (with_reducible repeat (first | refine blk_drewN ?_ _ | refine blk_drew ?_ | refine blk_alloc ?_ _)); exact BK245.out) hb)
                        have n3_ := Aside0.mk (blk_below (g := gb246) (o := .cells #[.string a2_0, .string a2_1, .bool a2_2] 25 (0, 0)) (by (with_reducible repeat (first | refine blk_drewN ?_ _ | refine blk_drew ?_ | refine blk_alloc ?_ _)); exact BK246.out) hb)
                        have n4_ := Aside0.mk (blk_below (g := gb269) (o := .cells #[.string t266, .string t267, .bool t268] 25 (0, 0)) (by (with_reducible repeat (first | refine blk_drewN ?_ _ | refine blk_drew ?_ | refine blk_alloc ?_ _)); exact BK269.out) hb)
                        have n5_ := Aside0.mk (blk_below (g := gb273) (o := .cells #[.string t270, .string t271, .bool t272] 25 (0, 0)) (by (with_reducible repeat (first | refine blk_drewN ?_ _ | refine blk_drew ?_ | refine blk_alloc ?_ _)); exact BK273.out) hb)
                        have n6_ := Aside0.mk (below_step (by repeat (first | (with_reducible first | exact HB.out | apply below_alloc | apply pw_below_drewN | apply below_drew1 | refine below_set ?_ GE244.out | refine below_set ?_ GE245.out | refine below_set ?_ GE246.out | refine below_set ?_ GE269.out | refine below_set ?_ GE273.out) | exact HB.out)) hb)
                        clear HO265
                        clear BK244
                        clear BK245
                        clear BK246
                        clear BK269
                        clear BK273
                        clear HB
                        have HO265 := n0_
                        have BK244 := n1_
                        have BK245 := n2_
                        have BK246 := n3_
                        have BK269 := n4_
                        have BK273 := n5_
                        have HB := n6_
                        clear n0_ n1_ n2_ n3_ n4_ n5_ n6_
                        (try clear hb)
                        (try clear hb2)
                        (try clear hk)
                        (try clear hi)
                        refine hK.out _ _ ⟨(blk_cell BK269.out 0).trans rfl, (blk_cell BK269.out 1).trans rfl, (blk_cell BK269.out 2).trans rfl, (blk_cell BK244.out 0).trans rfl, (blk_cell BK244.out 1).trans rfl, (blk_cell BK244.out 2).trans rfl, (blk_cell BK245.out 0).trans rfl, (blk_cell BK245.out 1).trans rfl, (blk_cell BK245.out 2).trans rfl, (blk_cell BK273.out 0).trans rfl, (blk_cell BK273.out 1).trans rfl, (blk_cell BK273.out 2).trans rfl⟩ (fun hHeld => ?_)
                        clear hK K
                        refine norm_ (a' := ?_) ?_ ?_
                        rotate_left
                        · show Act.put _ (some 76) _ = _
                          simp only [Act.put, List.setIfInBounds_toArray, List.set_cons_zero, List.set_cons_succ, i64_w, i32_w]
                          rfl
                        refine pure_ (i := 3) (N := some 77) (v := ?_) (a' := ?_) #[true, true, true, true, false, false, false, false, false, false, false, false, false, false, false, false, false, false, false, false, false, false, false, false, false, false, false, false, false, false, false, false, false, false, false, false, false] rfl rfl (any_of HT_.out (by kernel_rfl)) (fun _ _ _ h => h) (Or.inl ⟨by rfl, ?_⟩) ?_ ?_
                        rotate_left
                        · intro w'
                          go_simp
                          with_reducible rfl
                        rotate_left
                        · simp only [Act.put, List.setIfInBounds_toArray, List.set_cons_zero, List.set_cons_succ, i64_w, i32_w]
                          rfl
                        refine take_ (i := 4) (N := some 78) (v := ?_) (a' := ?_) #[true, true, true, true, true, false, false, false, false, false, false, false, false, false, false, false, false, false, false, false, false, false, false, false, false, false, false, false, false, false, false, false, false, false, false, false, false] rfl rfl (take_ofW HT_.out HW_.out (by kernel_rfl)) (fun _ _ _ h => h) (Or.inl ⟨by rfl, ?_⟩) hHeld ?_ ?_
                        rotate_left
                        · rintro w' ⟨s0, s1, s2, s3, s4, s5, s6, s7, s8, s9, s10, s11⟩
                          go_simp
                          with_reducible rfl
                        rotate_left
                        · simp only [Act.put, List.setIfInBounds_toArray, List.set_cons_zero, List.set_cons_succ, i64_w, i32_w]
                          rfl
                        refine take_ (i := 5) (N := some 79) (v := ?_) (a' := ?_) #[true, true, true, true, true, true, false, false, false, false, false, false, false, false, false, false, false, false, false, false, false, false, false, false, false, false, false, false, false, false, false, false, false, false, false, false, false] rfl rfl (take_ofW HT_.out HW_.out (by kernel_rfl)) (fun _ _ _ h => h) (Or.inl ⟨by rfl, ?_⟩) hHeld ?_ ?_
                        rotate_left
                        · rintro w' ⟨s0, s1, s2, s3, s4, s5, s6, s7, s8, s9, s10, s11⟩
                          go_simp
                          with_reducible rfl
                        rotate_left
                        · simp only [Act.put, List.setIfInBounds_toArray, List.set_cons_zero, List.set_cons_succ, i64_w, i32_w]
                          rfl
                        refine one_ (i := 6) (N := some 80) #[true, true, true, true, true, true, true, false, false, false, false, false, false, false, false, false, false, false, false, false, false, false, false, false, false, false, false, false, false, false, false, false, false, false, false, false, false] rfl rfl (one_of HT_.out (by kernel_rfl)) (by decide) (fun K hK => ?_)
                        refine goes_ Try.func14 (by kernel_rfl) rfl #[.agg #[.string t266, .string t267, .bool t268], .agg #[.string a1_0, .string a1_1, .bool a1_2]] (by rfl) rfl rfl (by (try simp only [List.map_toArray, List.map_cons, List.map_nil]); first | done | rfl | (simp only [List.length_drop, List.length_take]; rfl)) ?_
                        with_reducible refine (stretch_Within.calls t266 t267 t268 a1_0 a1_1 a1_2 true _ A126.out).mono ?_
                        rintro e w194 ⟨rfl, hb⟩
                        refine ⟨_, rfl, ?_⟩
                        have n0_ := Aside0.mk (Kd.R_below (by (with_reducible repeat (first | apply Kd.R_alloc | apply Kd.R_drewN | apply Kd.R_drew)); exact HO265.out) hb)
                        have n1_ := Aside0.mk (blk_below (g := gb244) (o := .cells #[.string a0_0, .string a0_1, .bool a0_2] 25 (0, 0)) (by (with_reducible repeat (first | refine blk_drewN ?_ _ | refine blk_drew ?_ | refine blk_alloc ?_ _)); exact BK244.out) hb)
                        have n2_ := Aside0.mk (blk_below (g := gb245) (o := .cells #[.string a1_0, .string a1_1, .bool a1_2] 25 (0, 0)) (by (with_reducible repeat (first | refine blk_drewN ?_ _ | refine blk_drew ?_ | refine blk_alloc ?_ _)); exact BK245.out) hb)
                        have n3_ := Aside0.mk (blk_below (g := gb246) (o := .cells #[.string a2_0, .string a2_1, .bool a2_2] 25 (0, 0)) (by (with_reducible repeat (first | refine blk_drewN ?_ _ | refine blk_drew ?_ | refine blk_alloc ?_ _)); exact BK246.out) hb)
                        have n4_ := Aside0.mk (blk_below (g := gb269) (o := .cells #[.string t266, .string t267, .bool t268] 25 (0, 0)) (by (with_reducible repeat (first | refine blk_drewN ?_ _ | refine blk_drew ?_ | refine blk_alloc ?_ _)); exact BK269.out) hb)
                        have n5_ := Aside0.mk (blk_below (g := gb273) (o := .cells #[.string t270, .string t271, .bool t272] 25 (0, 0)) (by (with_reducible repeat (first | refine blk_drewN ?_ _ | refine blk_drew ?_ | refine blk_alloc ?_ _)); exact BK273.out) hb)
                        have n6_ := Aside0.mk (below_step (by repeat (first | (with_reducible first | exact HB.out | apply below_alloc | apply pw_below_drewN | apply below_drew1 | refine below_set ?_ GE244.out | refine below_set ?_ GE245.out | refine below_set ?_ GE246.out | refine below_set ?_ GE269.out | refine below_set ?_ GE273.out) | exact HB.out)) hb)
                        clear HO265
                        clear BK244
                        clear BK245
                        clear BK246
                        clear BK269
                        clear BK273
                        clear HB
                        have HO265 := n0_
                        have BK244 := n1_
                        have BK245 := n2_
                        have BK246 := n3_
                        have BK269 := n4_
                        have BK273 := n5_
                        have HB := n6_
                        clear n0_ n1_ n2_ n3_ n4_ n5_ n6_
                        (try clear hb)
                        (try clear hb2)
                        (try clear hk)
                        (try clear hi)
                        refine hK.out _ _ ⟨(blk_cell BK269.out 0).trans rfl, (blk_cell BK269.out 1).trans rfl, (blk_cell BK269.out 2).trans rfl, (blk_cell BK244.out 0).trans rfl, (blk_cell BK244.out 1).trans rfl, (blk_cell BK244.out 2).trans rfl, (blk_cell BK245.out 0).trans rfl, (blk_cell BK245.out 1).trans rfl, (blk_cell BK245.out 2).trans rfl, (blk_cell BK273.out 0).trans rfl, (blk_cell BK273.out 1).trans rfl, (blk_cell BK273.out 2).trans rfl⟩ (fun hHeld => ?_)
                        clear hK K
                        refine norm_ (a' := ?_) ?_ ?_
                        rotate_left
                        · show Act.put _ (some 80) _ = _
                          simp only [Act.put, List.setIfInBounds_toArray, List.set_cons_zero, List.set_cons_succ, i64_w, i32_w]
                          rfl
                        refine pure_ (i := 7) (N := some 81) (v := ?_) (a' := ?_) #[true, true, true, true, true, true, true, true, false, false, false, false, false, false, false, false, false, false, false, false, false, false, false, false, false, false, false, false, false, false, false, false, false, false, false, false, false] rfl rfl (any_of HT_.out (by kernel_rfl)) (fun _ _ _ h => h) (Or.inl ⟨by rfl, ?_⟩) ?_ ?_
                        rotate_left
                        · intro w'
                          go_simp
                          with_reducible rfl
                        rotate_left
                        · simp only [Act.put, List.setIfInBounds_toArray, List.set_cons_zero, List.set_cons_succ, i64_w, i32_w]
                          rfl
                        refine pure_ (i := 8) (N := some 82) (v := ?_) (a' := ?_) #[true, true, true, true, true, true, true, true, true, false, false, false, false, false, false, false, false, false, false, false, false, false, false, false, false, false, false, false, false, false, false, false, false, false, false, false, false] rfl rfl (any_of HT_.out (by kernel_rfl)) (fun _ _ _ h => h) (Or.inl ⟨by rfl, ?_⟩) ?_ ?_
                        rotate_left
                        · intro w'
                          go_simp
                          with_reducible rfl
                        rotate_left
                        · simp only [Act.put, List.setIfInBounds_toArray, List.set_cons_zero, List.set_cons_succ, i64_w, i32_w]
                          rfl
                        refine pure_ (i := 10) (N := some 84) (v := ?_) (a' := ?_) #[true, true, true, true, true, true, true, true, true, false, true, false, false, false, false, false, false, false, false, false, false, false, false, false, false, false, false, false, false, false, false, false, false, false, false, false, false] rfl rfl (any_of HT_.out (by kernel_rfl)) (fun _ _ _ h => h) (Or.inl ⟨by rfl, ?_⟩) ?_ ?_
                        rotate_left
                        · intro w'
                          go_simp
                          with_reducible rfl
                        rotate_left
                        · simp only [Act.put, List.setIfInBounds_toArray, List.set_cons_zero, List.set_cons_succ, i64_w, i32_w]
                          rfl
                        refine pure_ (i := 13) (N := some 87) (v := ?_) (a' := ?_) #[true, true, true, true, true, true, true, true, true, false, true, false, false, true, false, false, false, false, false, false, false, false, false, false, false, false, false, false, false, false, false, false, false, false, false, false, false] rfl rfl (any_of HT_.out (by kernel_rfl)) (fun _ _ _ h => h) (Or.inl ⟨by rfl, ?_⟩) ?_ ?_
                        rotate_left
                        · intro w'
                          go_simp
                          with_reducible rfl
                        rotate_left
                        · simp only [Act.put, List.setIfInBounds_toArray, List.set_cons_zero, List.set_cons_succ, i64_w, i32_w]
                          rfl
                        refine take_ (i := 9) (N := some 83) (v := ?_) (a' := ?_) #[true, true, true, true, true, true, true, true, true, true, true, false, false, true, false, false, false, false, false, false, false, false, false, false, false, false, false, false, false, false, false, false, false, false, false, false, false] rfl rfl (take_ofW HT_.out HW_.out (by kernel_rfl)) (fun _ _ _ h => h) (Or.inl ⟨by rfl, ?_⟩) hHeld ?_ ?_
                        rotate_left
                        · rintro w' ⟨s0, s1, s2, s3, s4, s5, s6, s7, s8, s9, s10, s11⟩
                          go_simp
                          with_reducible rfl
                        rotate_left
                        · simp only [Act.put, List.setIfInBounds_toArray, List.set_cons_zero, List.set_cons_succ, i64_w, i32_w]
                          rfl
                        refine take_ (i := 12) (N := some 86) (v := ?_) (a' := ?_) #[true, true, true, true, true, true, true, true, true, true, true, false, true, true, false, false, false, false, false, false, false, false, false, false, false, false, false, false, false, false, false, false, false, false, false, false, false] rfl rfl (take_ofW HT_.out HW_.out (by kernel_rfl)) (fun _ _ _ h => h) (Or.inl ⟨by rfl, ?_⟩) hHeld ?_ ?_
                        rotate_left
                        · rintro w' ⟨s0, s1, s2, s3, s4, s5, s6, s7, s8, s9, s10, s11⟩
                          go_simp
                          with_reducible rfl
                        rotate_left
                        · simp only [Act.put, List.setIfInBounds_toArray, List.set_cons_zero, List.set_cons_succ, i64_w, i32_w]
                          rfl
                        refine one_ (i := 11) (N := some 85) #[true, true, true, true, true, true, true, true, true, true, true, true, true, true, false, false, false, false, false, false, false, false, false, false, false, false, false, false, false, false, false, false, false, false, false, false, false] rfl rfl (one_of HT_.out (by kernel_rfl)) (by decide) (fun K hK => ?_)
                        refine goes_ Try.func13 (by kernel_rfl) rfl #[.agg #[.string t270, .string t271, .bool t272], .string a4] (by rfl) rfl rfl (by (try simp only [List.map_toArray, List.map_cons, List.map_nil]); first | done | rfl | (simp only [List.length_drop, List.length_take]; rfl)) ?_
                        with_reducible refine (stretch_In.calls t270 t271 t272 a4 t276 _ A128.out).mono ?_
                        rintro e w195 ⟨rfl, hb⟩
                        refine ⟨_, rfl, ?_⟩
                        have n0_ := Aside0.mk (Kd.R_below (by (with_reducible repeat (first | apply Kd.R_alloc | apply Kd.R_drewN | apply Kd.R_drew)); exact HO265.out) hb)
                        have n1_ := Aside0.mk (blk_below (g := gb244) (o := .cells #[.string a0_0, .string a0_1, .bool a0_2] 25 (0, 0)) (by (with_reducible repeat (first | refine blk_drewN ?_ _ | refine blk_drew ?_ | refine blk_alloc ?_ _)); exact BK244.out) hb)
                        have n2_ := Aside0.mk (blk_below (g := gb245) (o := .cells #[.string a1_0, .string a1_1, .bool a1_2] 25 (0, 0)) (by (with_reducible repeat (first | refine blk_drewN ?_ _ | refine blk_drew ?_ | refine blk_alloc ?_ _)); exact BK245.out) hb)
                        have n3_ := Aside0.mk (blk_below (g := gb246) (o := .cells #[.string a2_0, .string a2_1, .bool a2_2] 25 (0, 0)) (by (with_reducible repeat (first | refine blk_drewN ?_ _ | refine blk_drew ?_ | refine blk_alloc ?_ _)); exact BK246.out) hb)
                        have n4_ := Aside0.mk (blk_below (g := gb269) (o := .cells #[.string t266, .string t267, .bool t268] 25 (0, 0)) (by (with_reducible repeat (first | refine blk_drewN ?_ _ | refine blk_drew ?_ | refine blk_alloc ?_ _)); exact BK269.out) hb)
                        have n5_ := Aside0.mk (blk_below (g := gb273) (o := .cells #[.string t270, .string t271, .bool t272] 25 (0, 0)) (by (with_reducible repeat (first | refine blk_drewN ?_ _ | refine blk_drew ?_ | refine blk_alloc ?_ _)); exact BK273.out) hb)
                        have n6_ := Aside0.mk (below_step (by repeat (first | (with_reducible first | exact HB.out | apply below_alloc | apply pw_below_drewN | apply below_drew1 | refine below_set ?_ GE244.out | refine below_set ?_ GE245.out | refine below_set ?_ GE246.out | refine below_set ?_ GE269.out | refine below_set ?_ GE273.out) | exact HB.out)) hb)
                        clear HO265
                        clear BK244
                        clear BK245
                        clear BK246
                        clear BK269
                        clear BK273
                        clear HB
                        have HO265 := n0_
                        have BK244 := n1_
                        have BK245 := n2_
                        have BK246 := n3_
                        have BK269 := n4_
                        have BK273 := n5_
                        have HB := n6_
                        clear n0_ n1_ n2_ n3_ n4_ n5_ n6_
                        (try clear hb)
                        (try clear hb2)
                        (try clear hk)
                        (try clear hi)
                        refine hK.out _ _ ⟨(blk_cell BK269.out 0).trans rfl, (blk_cell BK269.out 1).trans rfl, (blk_cell BK269.out 2).trans rfl, (blk_cell BK244.out 0).trans rfl, (blk_cell BK244.out 1).trans rfl, (blk_cell BK244.out 2).trans rfl, (blk_cell BK245.out 0).trans rfl, (blk_cell BK245.out 1).trans rfl, (blk_cell BK245.out 2).trans rfl, (blk_cell BK273.out 0).trans rfl, (blk_cell BK273.out 1).trans rfl, (blk_cell BK273.out 2).trans rfl⟩ (fun hHeld => ?_)
                        clear hK K
                        refine norm_ (a' := ?_) ?_ ?_
                        rotate_left
                        · show Act.put _ (some 85) _ = _
                          simp only [Act.put, List.setIfInBounds_toArray, List.set_cons_zero, List.set_cons_succ, i64_w, i32_w]
                          rfl
                        refine one_ (i := 14) (N := some 88) #[true, true, true, true, true, true, true, true, true, true, true, true, true, true, true, false, false, false, false, false, false, false, false, false, false, false, false, false, false, false, false, false, false, false, false, false, false] rfl rfl (one_of HT_.out (by kernel_rfl)) (by decide) (fun K hK => ?_)
                        refine goes_ Try.func13 (by kernel_rfl) rfl #[.agg #[.string a0_0, .string a0_1, .bool a0_2], .string a4] (by rfl) rfl rfl (by (try simp only [List.map_toArray, List.map_cons, List.map_nil]); first | done | rfl | (simp only [List.length_drop, List.length_take]; rfl)) ?_
                        with_reducible refine (stretch_In.calls a0_0 a0_1 a0_2 a4 false _ A129.out).mono ?_
                        rintro e w196 ⟨rfl, hb⟩
                        refine ⟨_, rfl, ?_⟩
                        have n0_ := Aside0.mk (Kd.R_below (by (with_reducible repeat (first | apply Kd.R_alloc | apply Kd.R_drewN | apply Kd.R_drew)); exact HO265.out) hb)
                        have n1_ := Aside0.mk (blk_below (g := gb244) (o := .cells #[.string a0_0, .string a0_1, .bool a0_2] 25 (0, 0)) (by (with_reducible repeat (first | refine blk_drewN ?_ _ | refine blk_drew ?_ | refine blk_alloc ?_ _)); exact BK244.out) hb)
                        have n2_ := Aside0.mk (blk_below (g := gb245) (o := .cells #[.string a1_0, .string a1_1, .bool a1_2] 25 (0, 0)) (by (with_reducible repeat (first | refine blk_drewN ?_ _ | refine blk_drew ?_ | refine blk_alloc ?_ _)); exact BK245.out) hb)
                        have n3_ := Aside0.mk (blk_below (g := gb246) (o := .cells #[.string a2_0, .string a2_1, .bool a2_2] 25 (0, 0)) (by (with_reducible repeat (first | refine blk_drewN ?_ _ | refine blk_drew ?_ | refine blk_alloc ?_ _)); exact BK246.out) hb)
                        have n4_ := Aside0.mk (blk_below (g := gb269) (o := .cells #[.string t266, .string t267, .bool t268] 25 (0, 0)) (by (with_reducible repeat (first | refine blk_drewN ?_ _ | refine blk_drew ?_ | refine blk_alloc ?_ _)); exact BK269.out) hb)
                        have n5_ := Aside0.mk (blk_below (g := gb273) (o := .cells #[.string t270, .string t271, .bool t272] 25 (0, 0)) (by (with_reducible repeat (first | refine blk_drewN ?_ _ | refine blk_drew ?_ | refine blk_alloc ?_ _)); exact BK273.out) hb)
                        have n6_ := Aside0.mk (below_step (by repeat (first | (with_reducible first | exact HB.out | apply below_alloc | apply pw_below_drewN | apply below_drew1 | refine below_set ?_ GE244.out | refine below_set ?_ GE245.out | refine below_set ?_ GE246.out | refine below_set ?_ GE269.out | refine below_set ?_ GE273.out) | exact HB.out)) hb)
                        clear HO265
                        clear BK244
                        clear BK245
                        clear BK246
                        clear BK269
                        clear BK273
                        clear HB
                        have HO265 := n0_
                        have BK244 := n1_
                        have BK245 := n2_
                        have BK246 := n3_
                        have BK269 := n4_
                        have BK273 := n5_
                        have HB := n6_
                        clear n0_ n1_ n2_ n3_ n4_ n5_ n6_
                        (try clear hb)
                        (try clear hb2)
                        (try clear hk)
                        (try clear hi)
                        refine hK.out _ _ ⟨(blk_cell BK269.out 0).trans rfl, (blk_cell BK269.out 1).trans rfl, (blk_cell BK269.out 2).trans rfl, (blk_cell BK244.out 0).trans rfl, (blk_cell BK244.out 1).trans rfl, (blk_cell BK244.out 2).trans rfl, (blk_cell BK245.out 0).trans rfl, (blk_cell BK245.out 1).trans rfl, (blk_cell BK245.out 2).trans rfl, (blk_cell BK273.out 0).trans rfl, (blk_cell BK273.out 1).trans rfl, (blk_cell BK273.out 2).trans rfl⟩ (fun hHeld => ?_)
                        clear hK K
                        refine norm_ (a' := ?_) ?_ ?_
                        rotate_left
                        · show Act.put _ (some 88) _ = _
                          simp only [Act.put, List.setIfInBounds_toArray, List.set_cons_zero, List.set_cons_succ, i64_w, i32_w]
                          rfl
                        refine pure_ (i := 15) (N := some 89) (v := ?_) (a' := ?_) #[true, true, true, true, true, true, true, true, true, true, true, true, true, true, true, true, false, false, false, false, false, false, false, false, false, false, false, false, false, false, false, false, false, false, false, false, false] rfl rfl (any_of HT_.out (by kernel_rfl)) (fun _ _ _ h => h) (Or.inl ⟨by rfl, ?_⟩) ?_ ?_
                        rotate_left
                        · intro w'
                          go_simp
                          with_reducible rfl
                        rotate_left
                        · simp only [Act.put, List.setIfInBounds_toArray, List.set_cons_zero, List.set_cons_succ, i64_w, i32_w]
                          rfl
                        refine pure_ (i := 16) (N := some 90) (v := undef) (a' := ?_) #[true, true, true, true, true, true, true, true, true, true, true, true, true, true, true, true, true, false, false, false, false, false, false, false, false, false, false, false, false, false, false, false, false, false, false, false, false] rfl rfl (any_of HT_.out (by kernel_rfl)) (fun _ _ _ h => h) (Or.inr ⟨by rfl, rfl⟩) ?_ ?_
                        rotate_left
                        · simp only [Act.put, List.setIfInBounds_toArray, List.set_cons_zero, List.set_cons_succ, i64_w, i32_w]
                          rfl
                        refine pure_ (i := 17) (N := some 91) (v := undef) (a' := ?_) #[true, true, true, true, true, true, true, true, true, true, true, true, true, true, true, true, true, true, false, false, false, false, false, false, false, false, false, false, false, false, false, false, false, false, false, false, false] rfl rfl (any_of HT_.out (by kernel_rfl)) (fun _ _ _ h => h) (Or.inr ⟨by rfl, rfl⟩) ?_ ?_
                        rotate_left
                        · simp only [Act.put, List.setIfInBounds_toArray, List.set_cons_zero, List.set_cons_succ, i64_w, i32_w]
                          rfl
                        refine pure_ (i := 18) (N := some 92) (v := undef) (a' := ?_) #[true, true, true, true, true, true, true, true, true, true, true, true, true, true, true, true, true, true, true, false, false, false, false, false, false, false, false, false, false, false, false, false, false, false, false, false, false] rfl rfl (any_of HT_.out (by kernel_rfl)) (fun _ _ _ h => h) (Or.inr ⟨by rfl, rfl⟩) ?_ ?_
                        rotate_left
                        · simp only [Act.put, List.setIfInBounds_toArray, List.set_cons_zero, List.set_cons_succ, i64_w, i32_w]
                          rfl
                        refine pure_ (i := 19) (N := some 93) (v := ?_) (a' := ?_) #[true, true, true, true, true, true, true, true, true, true, true, true, true, true, true, true, true, true, true, true, false, false, false, false, false, false, false, false, false, false, false, false, false, false, false, false, false] rfl rfl (any_of HT_.out (by kernel_rfl)) (fun _ _ _ h => h) (Or.inl ⟨by rfl, ?_⟩) ?_ ?_
                        rotate_left
                        · intro w'
                          go_simp
                          with_reducible rfl
                        rotate_left
                        · simp only [Act.put, List.setIfInBounds_toArray, List.set_cons_zero, List.set_cons_succ, i64_w, i32_w]
                          rfl
                        refine pure_ (i := 20) (N := some 94) (v := ?_) (a' := ?_) #[true, true, true, true, true, true, true, true, true, true, true, true, true, true, true, true, true, true, true, true, true, false, false, false, false, false, false, false, false, false, false, false, false, false, false, false, false] rfl rfl (any_of HT_.out (by kernel_rfl)) (fun _ _ _ h => h) (Or.inl ⟨by rfl, ?_⟩) ?_ ?_
                        rotate_left
                        · intro w'
                          go_simp
                          with_reducible rfl
                        rotate_left
                        · simp only [Act.put, List.setIfInBounds_toArray, List.set_cons_zero, List.set_cons_succ, i64_w, i32_w]
                          rfl
                        refine pure_ (i := 21) (N := some 95) (v := ?_) (a' := ?_) #[true, true, true, true, true, true, true, true, true, true, true, true, true, true, true, true, true, true, true, true, true, true, false, false, false, false, false, false, false, false, false, false, false, false, false, false, false] rfl rfl (any_of HT_.out (by kernel_rfl)) (fun _ _ _ h => h) (Or.inl ⟨by rfl, ?_⟩) ?_ ?_
                        rotate_left
                        · intro w'
                          go_simp
                          with_reducible rfl
                        rotate_left
                        · simp only [Act.put, List.setIfInBounds_toArray, List.set_cons_zero, List.set_cons_succ, i64_w, i32_w]
                          rfl
                        refine pure_ (i := 22) (N := some 96) (v := ?_) (a' := ?_) #[true, true, true, true, true, true, true, true, true, true, true, true, true, true, true, true, true, true, true, true, true, true, true, false, false, false, false, false, false, false, false, false, false, false, false, false, false] rfl rfl (any_of HT_.out (by kernel_rfl)) (fun _ _ _ h => h) (Or.inl ⟨by rfl, ?_⟩) ?_ ?_
                        rotate_left
                        · intro w'
                          go_simp
                          with_reducible rfl
                        rotate_left
                        · simp only [Act.put, List.setIfInBounds_toArray, List.set_cons_zero, List.set_cons_succ, i64_w, i32_w]
                          rfl
                        refine take_ (i := 23) (N := some 97) (v := ?_) (a' := ?_) #[true, true, true, true, true, true, true, true, true, true, true, true, true, true, true, true, true, true, true, true, true, true, true, true, false, false, false, false, false, false, false, false, false, false, false, false, false] rfl rfl (take_ofW HT_.out HW_.out (by kernel_rfl)) (fun _ _ _ h => h) (Or.inl ⟨by rfl, ?_⟩) hHeld ?_ ?_
                        rotate_left
                        · rintro w' ⟨s0, s1, s2, s3, s4, s5, s6, s7, s8, s9, s10, s11⟩
                          go_simp
                          with_reducible rfl
                        rotate_left
                        · simp only [Act.put, List.setIfInBounds_toArray, List.set_cons_zero, List.set_cons_succ, i64_w, i32_w]
                          rfl
                        refine one_ (i := 24) (N := some 98) #[true, true, true, true, true, true, true, true, true, true, true, true, true, true, true, true, true, true, true, true, true, true, true, true, true, false, false, false, false, false, false, false, false, false, false, false, false] rfl rfl (one_of HT_.out (by kernel_rfl)) (by decide) (fun K hK => ?_)
                        refine goes_ Try.func16 (by kernel_rfl) rfl #[.agg #[.string a0_0, .string a0_1, .bool a0_2]] (by rfl) rfl rfl (by (try simp only [List.map_toArray, List.map_cons, List.map_nil]); first | done | rfl | (simp only [List.length_drop, List.length_take]; rfl)) ?_
                        with_reducible refine (stretch_Empty.calls a0_0 a0_1 a0_2 false _ A132.out).mono ?_
                        rintro e w197 ⟨rfl, hb⟩
                        refine ⟨_, rfl, ?_⟩
                        have n0_ := Aside0.mk (Kd.R_below (by (with_reducible repeat (first | apply Kd.R_alloc | apply Kd.R_drewN | apply Kd.R_drew)); exact HO265.out) hb)
                        have n1_ := Aside0.mk (blk_below (g := gb244) (o := .cells #[.string a0_0, .string a0_1, .bool a0_2] 25 (0, 0)) (by (with_reducible repeat (first | refine blk_drewN ?_ _ | refine blk_drew ?_ | refine blk_alloc ?_ _)); exact BK244.out) hb)
                        have n2_ := Aside0.mk (blk_below (g := gb245) (o := .cells #[.string a1_0, .string a1_1, .bool a1_2] 25 (0, 0)) (by (with_reducible repeat (first | refine blk_drewN ?_ _ | refine blk_drew ?_ | refine blk_alloc ?_ _)); exact BK245.out) hb)
                        have n3_ := Aside0.mk (blk_below (g := gb246) (o := .cells #[.string a2_0, .string a2_1, .bool a2_2] 25 (0, 0)) (by (with_reducible repeat (first | refine blk_drewN ?_ _ | refine blk_drew ?_ | refine blk_alloc ?_ _)); exact BK246.out) hb)
                        have n4_ := Aside0.mk (blk_below (g := gb269) (o := .cells #[.string t266, .string t267, .bool t268] 25 (0, 0)) (by (with_reducible repeat (first | refine blk_drewN ?_ _ | refine blk_drew ?_ | refine blk_alloc ?_ _)); exact BK269.out) hb)
                        have n5_ := Aside0.mk (blk_below (g := gb273) (o := .cells #[.string t270, .string t271, .bool t272] 25 (0, 0)) (by (with_reducible repeat (first | refine blk_drewN ?_ _ | refine blk_drew ?_ | refine blk_alloc ?_ _)); exact BK273.out) hb)
                        have n6_ := Aside0.mk (below_step (by repeat (first | (with_reducible first | exact HB.out | apply below_alloc | apply pw_below_drewN | apply below_drew1 | refine below_set ?_ GE244.out | refine below_set ?_ GE245.out | refine below_set ?_ GE246.out | refine below_set ?_ GE269.out | refine below_set ?_ GE273.out) | exact HB.out)) hb)
                        clear HO265
                        clear BK244
                        clear BK245
                        clear BK246
                        clear BK269
                        clear BK273
                        clear HB
                        have HO265 := n0_
                        have BK244 := n1_
                        have BK245 := n2_
                        have BK246 := n3_
                        have BK269 := n4_
                        have BK273 := n5_
                        have HB := n6_
                        clear n0_ n1_ n2_ n3_ n4_ n5_ n6_
                        (try clear hb)
                        (try clear hb2)
                        (try clear hk)
                        (try clear hi)
                        refine hK.out _ _ ⟨(blk_cell BK269.out 0).trans rfl, (blk_cell BK269.out 1).trans rfl, (blk_cell BK269.out 2).trans rfl, (blk_cell BK244.out 0).trans rfl, (blk_cell BK244.out 1).trans rfl, (blk_cell BK244.out 2).trans rfl, (blk_cell BK245.out 0).trans rfl, (blk_cell BK245.out 1).trans rfl, (blk_cell BK245.out 2).trans rfl, (blk_cell BK273.out 0).trans rfl, (blk_cell BK273.out 1).trans rfl, (blk_cell BK273.out 2).trans rfl⟩ (fun hHeld => ?_)
                        clear hK K
                        refine norm_ (a' := ?_) ?_ ?_
                        rotate_left
                        · show Act.put _ (some 98) _ = _
                          simp only [Act.put, List.setIfInBounds_toArray, List.set_cons_zero, List.set_cons_succ, i64_w, i32_w]
                          rfl
                        refine pure_ (i := 25) (N := some 99) (v := ?_) (a' := ?_) #[true, true, true, true, true, true, true, true, true, true, true, true, true, true, true, true, true, true, true, true, true, true, true, true, true, true, false, false, false, false, false, false, false, false, false, false, false] rfl rfl (any_of HT_.out (by kernel_rfl)) (fun _ _ _ h => h) (Or.inl ⟨by rfl, ?_⟩) ?_ ?_
                        rotate_left
                        · intro w'
                          go_simp
                          with_reducible rfl
                        rotate_left
                        · simp only [Act.put, List.setIfInBounds_toArray, List.set_cons_zero, List.set_cons_succ, i64_w, i32_w]
                          rfl
                        refine pure_ (i := 26) (N := some 100) (v := ?_) (a' := ?_) #[true, true, true, true, true, true, true, true, true, true, true, true, true, true, true, true, true, true, true, true, true, true, true, true, true, true, true, false, false, false, false, false, false, false, false, false, false] rfl rfl (any_of HT_.out (by kernel_rfl)) (fun _ _ _ h => h) (Or.inl ⟨by rfl, ?_⟩) ?_ ?_
                        rotate_left
                        · intro w'
                          go_simp
                          with_reducible rfl
                        rotate_left
                        · simp only [Act.put, List.setIfInBounds_toArray, List.set_cons_zero, List.set_cons_succ, i64_w, i32_w]
                          rfl
                        refine pure_ (i := 27) (N := some 101) (v := undef) (a' := ?_) #[true, true, true, true, true, true, true, true, true, true, true, true, true, true, true, true, true, true, true, true, true, true, true, true, true, true, true, true, false, false, false, false, false, false, false, false, false] rfl rfl (any_of HT_.out (by kernel_rfl)) (fun _ _ _ h => h) (Or.inr ⟨by rfl, rfl⟩) ?_ ?_
                        rotate_left
                        · simp only [Act.put, List.setIfInBounds_toArray, List.set_cons_zero, List.set_cons_succ, i64_w, i32_w]
                          rfl
                        refine pure_ (i := 28) (N := some 102) (v := undef) (a' := ?_) #[true, true, true, true, true, true, true, true, true, true, true, true, true, true, true, true, true, true, true, true, true, true, true, true, true, true, true, true, true, false, false, false, false, false, false, false, false] rfl rfl (any_of HT_.out (by kernel_rfl)) (fun _ _ _ h => h) (Or.inr ⟨by rfl, rfl⟩) ?_ ?_
                        rotate_left
                        · simp only [Act.put, List.setIfInBounds_toArray, List.set_cons_zero, List.set_cons_succ, i64_w, i32_w]
                          rfl
                        refine pure_ (i := 29) (N := some 103) (v := undef) (a' := ?_) #[true, true, true, true, true, true, true, true, true, true, true, true, true, true, true, true, true, true, true, true, true, true, true, true, true, true, true, true, true, true, false, false, false, false, false, false, false] rfl rfl (any_of HT_.out (by kernel_rfl)) (fun _ _ _ h => h) (Or.inr ⟨by rfl, rfl⟩) ?_ ?_
                        rotate_left
                        · simp only [Act.put, List.setIfInBounds_toArray, List.set_cons_zero, List.set_cons_succ, i64_w, i32_w]
                          rfl
                        refine pure_ (i := 30) (N := some 104) (v := undef) (a' := ?_) #[true, true, true, true, true, true, true, true, true, true, true, true, true, true, true, true, true, true, true, true, true, true, true, true, true, true, true, true, true, true, true, false, false, false, false, false, false] rfl rfl (any_of HT_.out (by kernel_rfl)) (fun _ _ _ h => h) (Or.inr ⟨by rfl, rfl⟩) ?_ ?_
                        rotate_left
                        · simp only [Act.put, List.setIfInBounds_toArray, List.set_cons_zero, List.set_cons_succ, i64_w, i32_w]
                          rfl
                        refine pure_ (i := 31) (N := some 105) (v := ?_) (a' := ?_) #[true, true, true, true, true, true, true, true, true, true, true, true, true, true, true, true, true, true, true, true, true, true, true, true, true, true, true, true, true, true, true, true, false, false, false, false, false] rfl rfl (any_of HT_.out (by kernel_rfl)) (fun _ _ _ h => h) (Or.inl ⟨by rfl, ?_⟩) ?_ ?_
                        rotate_left
                        · intro w'
                          go_simp
                          with_reducible rfl
                        rotate_left
                        · simp only [Act.put, List.setIfInBounds_toArray, List.set_cons_zero, List.set_cons_succ, i64_w, i32_w]
                          rfl
                        refine pure_ (i := 32) (N := some 106) (v := ?_) (a' := ?_) #[true, true, true, true, true, true, true, true, true, true, true, true, true, true, true, true, true, true, true, true, true, true, true, true, true, true, true, true, true, true, true, true, true, false, false, false, false] rfl rfl (any_of HT_.out (by kernel_rfl)) (fun _ _ _ h => h) (Or.inl ⟨by rfl, ?_⟩) ?_ ?_
                        rotate_left
                        · intro w'
                          go_simp
                          with_reducible rfl
                        rotate_left
                        · simp only [Act.put, List.setIfInBounds_toArray, List.set_cons_zero, List.set_cons_succ, i64_w, i32_w]
                          rfl
                        refine pure_ (i := 33) (N := some 107) (v := ?_) (a' := ?_) #[true, true, true, true, true, true, true, true, true, true, true, true, true, true, true, true, true, true, true, true, true, true, true, true, true, true, true, true, true, true, true, true, true, true, false, false, false] rfl rfl (any_of HT_.out (by kernel_rfl)) (fun _ _ _ h => h) (Or.inl ⟨by rfl, ?_⟩) ?_ ?_
                        rotate_left
                        · intro w'
                          go_simp
                          with_reducible rfl
                        rotate_left
                        · simp only [Act.put, List.setIfInBounds_toArray, List.set_cons_zero, List.set_cons_succ, i64_w, i32_w]
                          rfl
                        refine one_ (i := 34) (N := some 108) #[true, true, true, true, true, true, true, true, true, true, true, true, true, true, true, true, true, true, true, true, true, true, true, true, true, true, true, true, true, true, true, true, true, true, true, false, false] rfl rfl (one_of HT_.out (by kernel_rfl)) (by decide) (fun K hK => ?_)
                        refine goes_ Try.func8 (by kernel_rfl) rfl #[] (by rfl) rfl rfl (by (try simp only [List.map_toArray, List.map_cons, List.map_nil]); first | done | rfl | (simp only [List.length_drop, List.length_take]; rfl)) ?_
                        with_reducible refine (weirkeeperlaw03_awake.calls kj26  t285 _ A168.out).mono ?_
                        rintro e w198 ⟨rfl, hb⟩
                        refine ⟨_, rfl, ?_⟩
                        have n0_ := Aside0.mk (Kd.R_below (by (with_reducible repeat (first | apply Kd.R_alloc | apply Kd.R_drewN | apply Kd.R_drew)); exact HO265.out) hb)
                        have n1_ := Aside0.mk (blk_below (g := gb244) (o := .cells #[.string a0_0, .string a0_1, .bool a0_2] 25 (0, 0)) (by (with_reducible repeat (first | refine blk_drewN ?_ _ | refine blk_drew ?_ | refine blk_alloc ?_ _)); exact BK244.out) hb)
                        have n2_ := Aside0.mk (blk_below (g := gb245) (o := .cells #[.string a1_0, .string a1_1, .bool a1_2] 25 (0, 0)) (by (with_reducible repeat (first | refine blk_drewN ?_ _ | refine blk_drew ?_ | refine blk_alloc ?_ _)); exact BK245.out) hb)
                        have n3_ := Aside0.mk (blk_below (g := gb246) (o := .cells #[.string a2_0, .string a2_1, .bool a2_2] 25 (0, 0)) (by (with_reducible repeat (first | refine blk_drewN ?_ _ | refine blk_drew ?_ | refine blk_alloc ?_ _)); exact BK246.out) hb)
                        have n4_ := Aside0.mk (blk_below (g := gb269) (o := .cells #[.string t266, .string t267, .bool t268] 25 (0, 0)) (by (with_reducible repeat (first | refine blk_drewN ?_ _ | refine blk_drew ?_ | refine blk_alloc ?_ _)); exact BK269.out) hb)
                        have n5_ := Aside0.mk (blk_below (g := gb273) (o := .cells #[.string t270, .string t271, .bool t272] 25 (0, 0)) (by (with_reducible repeat (first | refine blk_drewN ?_ _ | refine blk_drew ?_ | refine blk_alloc ?_ _)); exact BK273.out) hb)
                        have n6_ := Aside0.mk (below_step (by repeat (first | (with_reducible first | exact HB.out | apply below_alloc | apply pw_below_drewN | apply below_drew1 | refine below_set ?_ GE244.out | refine below_set ?_ GE245.out | refine below_set ?_ GE246.out | refine below_set ?_ GE269.out | refine below_set ?_ GE273.out) | exact HB.out)) hb)
                        clear HO265
                        clear BK244
                        clear BK245
                        clear BK246
                        clear BK269
                        clear BK273
                        clear HB
                        have HO265 := n0_
                        have BK244 := n1_
                        have BK245 := n2_
                        have BK246 := n3_
                        have BK269 := n4_
                        have BK273 := n5_
                        have HB := n6_
                        clear n0_ n1_ n2_ n3_ n4_ n5_ n6_
                        (try clear hb)
                        (try clear hb2)
                        (try clear hk)
                        (try clear hi)
                        refine hK.out _ _ ⟨(blk_cell BK269.out 0).trans rfl, (blk_cell BK269.out 1).trans rfl, (blk_cell BK269.out 2).trans rfl, (blk_cell BK244.out 0).trans rfl, (blk_cell BK244.out 1).trans rfl, (blk_cell BK244.out 2).trans rfl, (blk_cell BK245.out 0).trans rfl, (blk_cell BK245.out 1).trans rfl, (blk_cell BK245.out 2).trans rfl, (blk_cell BK273.out 0).trans rfl, (blk_cell BK273.out 1).trans rfl, (blk_cell BK273.out 2).trans rfl⟩ (fun hHeld => ?_)
                        clear hK K
                        refine norm_ (a' := ?_) ?_ ?_
                        rotate_left
                        · show Act.put _ (some 108) _ = _
                          simp only [Act.put, List.setIfInBounds_toArray, List.set_cons_zero, List.set_cons_succ, i64_w, i32_w]
                          rfl
                        refine pure_ (i := 35) (N := some 109) (v := ?_) (a' := ?_) #[true, true, true, true, true, true, true, true, true, true, true, true, true, true, true, true, true, true, true, true, true, true, true, true, true, true, true, true, true, true, true, true, true, true, true, true, false] rfl rfl (any_of HT_.out (by kernel_rfl)) (fun _ _ _ h => h) (Or.inl ⟨by rfl, ?_⟩) ?_ ?_
                        rotate_left
                        · intro w'
                          go_simp
                          with_reducible rfl
                        rotate_left
                        · simp only [Act.put, List.setIfInBounds_toArray, List.set_cons_zero, List.set_cons_succ, i64_w, i32_w]
                          rfl
                        refine pure_ (i := 36) (N := some 10) (v := ?_) (a' := ?_) #[true, true, true, true, true, true, true, true, true, true, true, true, true, true, true, true, true, true, true, true, true, true, true, true, true, true, true, true, true, true, true, true, true, true, true, true, true] rfl rfl (any_of HT_.out (by kernel_rfl)) (fun _ _ _ h => h) (Or.inl ⟨by rfl, ?_⟩) ?_ ?_
                        rotate_left
                        · intro w'
                          go_simp
                          with_reducible rfl
                        rotate_left
                        · simp only [Act.put, List.setIfInBounds_toArray, List.set_cons_zero, List.set_cons_succ, i64_w, i32_w]
                          rfl
                        refine done_ (done_of HT_.out (by kernel_rfl)) ?_
                        try go_wp2
                        go_ret
                        exact ⟨by first | rfl | (simp [errW_none, errW_some] <;> rfl) | (simp [*, errW_none, errW_some] <;> rfl), by repeat (first | (with_reducible first | exact HB.out | apply below_alloc | apply pw_below_drewN | apply below_drew1 | refine below_set ?_ GE244.out | refine below_set ?_ GE245.out | refine below_set ?_ GE246.out | refine below_set ?_ GE269.out | refine below_set ?_ GE273.out) | exact HB.out)⟩
                    · rw [if_neg c131] at H
                      exact absurd H (by simp)
                · replace c127 := Bool.eq_false_iff.mpr c127
                  subst c127
                  have H1 : (none) = some r := by rw [if_neg (show ¬ (false = true) by decide)] at H; exact H
                  clear H
                  have H := H1
                  clear H1
                  exact absurd H (by simp)
              · replace c125 := Bool.eq_false_iff.mpr c125
                subst c125
                have H1 : (none) = some r := by rw [if_neg (show ¬ (false = true) by decide)] at H; exact H
                clear H
                have H := H1
                clear H1
                exact absurd H (by simp)

end Go.Proofs.Ytbfhojfeolejlaa.X
