/- The law CacheParts, walked: items that are put in two parts are those that are put at once. -/
import Derived.Test.YtgjngaeoojcioaaHeld
import Derived.Test.YtgjngaeoojcioaaXx5
import Derived.Test.YtgjngaeoojcioaaXx9
import Derived.Test.YtgjngaeoojcioaaXx10
import Derived.Test.YtgjngaeoojcioaaXx17
import Derived.Test.YtgjngaeoojcioaaXx18
import Derived.Test.YtgjngaeoojcioaaXx21
import Derived.Test.YtgjngaeoojcioaaXx22
import Derived.Test.YtgjngaeoojcioaaXx13
import Derived.Test.YtgjngaeoojcioaaXx1
namespace Go.Proofs.Ytgjngaeoojcioaa.CParts
open Go Go.RowKit Go.Proofs.Ytgjngaeoojcioaa.X Go.Proofs.YtgjngaeoojcioaaW Go.Proofs.YtgjngaeoojcioaaW.PrintWords Go.Proofs.YtgjngaeoojcioaaW.PrintLast Go.Proofs.YtgjngaeoojcioaaW.PrintMore Go.Proofs.Ytgjngaeoojcioaa.Held
attribute [local go_sem high] eqA27
set_option linter.unusedVariables false
set_option linter.unusedSimpArgs false
set_option maxRecDepth 100000
set_option maxHeartbeats 1000000
def CParts.T5 : Bool × List (List Nat × List Nat) := (true, [([], []), ([], []), ([], []), ([1, 2], [1, 2]), ([], []), ([3, 4, 3], [3, 4]), ([0, 5, 5], [0, 5]), ([6], [6]), ([7], [7]), ([7], [7]), ([7], [7]), ([], []), ([11, 8, 6, 0, 1, 2, 3, 4, 5, 6, 7, 8, 11], [8, 11]), ([9, 12, 0, 1, 2, 3, 4, 5, 6, 7, 8, 9, 11, 12], [9]), ([10, 13, 0, 1, 2, 3, 4, 5, 6, 7, 8, 9, 10, 11, 12, 13], [10])])
def CParts.B5 : List Nat := [0, 0, 0, 6, 0, 30, 63, 127, 255, 255, 255, 0, 2559, 7167, 16383]
theorem CParts.tab5 : rtab .any (opsOf Try.f6 5) = CParts.T5 := by kernel_rfl
theorem CParts.bits5 : waitsOk CParts.T5.2 CParts.B5 = true := by kernel_rfl
def CParts.T7 : Bool × List (List Nat × List Nat) := (true, [([], []), ([0], [0]), ([1], [1]), ([2, 1], [1, 2]), ([3, 1], [1, 3]), ([1], [1]), ([5, 1], [1, 5]), ([6, 1], [1, 6]), ([4, 7, 1], [1, 4, 7]), ([8, 1, 1], [1, 8]), ([9], [9]), ([10, 9], [9, 10]), ([11, 9], [9, 11]), ([12, 9], [9, 12]), ([9], [9]), ([13, 14, 9], [9, 13, 14]), ([9, 15, 1], [1, 9, 15]), ([16, 9, 1], [1, 16]), ([17], [17]), ([18, 17], [17, 18]), ([17], [17]), ([19, 20, 17], [17, 19, 20]), ([17, 21, 1], [1, 17, 21]), ([1, 22], [1, 22]), ([23, 17], [23]), ([24], [24]), ([25, 24], [24, 25]), ([26, 24, 24], [24, 26]), ([27], [27]), ([27], [27]), ([29, 27, 27], [27, 29]), ([28, 30, 30, 27], [27, 28, 30]), ([31, 27], [27, 31]), ([27, 32, 24], [24, 27, 32]), ([24, 33], [24, 33]), ([34, 31], [34]), ([35], [35]), ([36, 35, 35], [35, 36]), ([37, 35], [35, 37]), ([35, 38], [35, 38])])
def CParts.B7 : List Nat := [0, 1, 3, 7, 15, 3, 35, 99, 255, 511, 1023, 2047, 4095, 8191, 1023, 32767, 65535, 131071, 262143, 524287, 262143, 2097151, 4194303, 8388607, 16777215, 33554431, 67108863, 134217727, 268435455, 268435455, 805306367, 2147483647, 4294967295, 8589934591, 17179869183, 34359738367, 68719476735, 137438953471, 274877906943, 549755813887]
theorem CParts.tab7 : rtab .any (opsOf Try.f6 7) = CParts.T7 := by kernel_rfl
theorem CParts.bits7 : waitsOk CParts.T7.2 CParts.B7 = true := by kernel_rfl
def CParts.T9 : Bool × List (List Nat × List Nat) := (true, [([], []), ([0], [0]), ([1], [1]), ([2], [2]), ([3, 2], [2, 3]), ([2, 4], [2, 4]), ([5, 2], [5]), ([6], [6]), ([6], [6]), ([8, 6, 6], [6, 8]), ([7, 9, 9, 6], [6, 7, 9]), ([6, 10], [6, 10]), ([11, 10], [11]), ([12], [12]), ([12], [12]), ([13, 14, 12, 12], [12, 13, 14]), ([12], [12]), ([15, 16, 15, 12], [12, 15, 16]), ([17, 17, 12], [12, 17]), ([12], [12]), ([19, 18, 12], [12, 19]), ([18, 20, 20, 12], [12, 18, 20]), ([12, 21], [12, 21]), ([22, 21], [22]), ([23, 23], [23]), ([23, 24], [23, 24]), ([25, 24, 0, 1, 2, 3, 4, 5, 6, 7, 8, 9, 10, 11, 12, 13, 14, 15, 16, 17, 18, 19, 20, 21, 22, 23, 24, 25], [25])])
def CParts.B9 : List Nat := [0, 1, 3, 7, 15, 31, 63, 127, 127, 383, 1023, 2047, 4095, 8191, 8191, 32767, 8191, 131071, 262143, 8191, 1048575, 2097151, 4194303, 8388607, 16777215, 33554431, 67108863]
theorem CParts.tab9 : rtab .any (opsOf Try.f6 9) = CParts.T9 := by kernel_rfl
theorem CParts.bits9 : waitsOk CParts.T9.2 CParts.B9 = true := by kernel_rfl
/-- What the puts and the get answer. -/
structure Parts (k : Nat) (m : Int) (l la lb : List S27) (at_ : Int) (m1 m2 my mz e1 i0 : Int) (i1 : ByteArray) (i2 ok : Bool) (x1 out x2 more y all z : List S27) (mr : Int) (ry ro ra : List S33) : Prop where
  put1 : cache_Put.f k m l la = some (m1, x1, out, e1)
  put2 : cache_Put.f k m1 x1 lb = some (m2, x2, more, 0)
  put3 : cache_Put.f k m l (la ++ lb) = some (my, y, all, 0)
  get : cache_Get.f k m l at_ = some (mz, z, i0, i1, i2, ok)
  right : cache_Right.f k mz z = some true
  hit : ok = true → z.length = l.length ∧ 0 < z.length ∧ rd_T27 z 0 = ⟨i0, i1, i2⟩ ∧ i0 = at_
  miss : ok = false → ∃ mc rc, weirkeeperlaw14_ref.f k m l = some (mc, rc) ∧ weirkeeperlaw14_same.f k mz z mc rc = some true
  refy : weirkeeperlaw14_ref.f k my y = some (mr, ry)
  same : weirkeeperlaw14_same.f k m2 x2 mr ry = some true
  refs1 : weirkeeperlaw14_refs.f k (out ++ more) = some ro
  refs2 : weirkeeperlaw14_refs.f k all = some ra
  eq : weirkeeperref14_Same.f k ro ra = some true
  few : out.length + more.length ≤ 1000000
def Fine (k : Nat) (m : Int) (l la lb : List S27) (at_ : Int) : Prop := weirkeeperlaw14_awake.f k = some true ∧ (100 < l.length ∨ (l.length ≤ 100 ∧ 30 < la.length) ∨ (l.length ≤ 100 ∧ la.length ≤ 30 ∧ 30 < lb.length) ∨ (l.length ≤ 100 ∧ la.length ≤ 30 ∧ lb.length ≤ 30 ∧ cache_Right.f k m l = some false) ∨ (l.length ≤ 100 ∧ la.length ≤ 30 ∧ lb.length ≤ 30 ∧ cache_Right.f k m l = some true ∧ ∃ m1 m2 my mz e1 i0 i1 i2 ok x1 out x2 more y all z mr ry ro ra, Parts k m l la lb at_ m1 m2 my mz e1 i0 i1 i2 ok x1 out x2 more y all z mr ry ro ra))
theorem walk_a (k : Nat) (m : Int) (A : Option Addr) (c : Nat) (l : List S27) (A1 : Option Addr) (c1 : Nat) (la : List S27) (A2 : Option Addr) (c2 : Nat) (lb : List S27) (at_ : Int) (w : World) (hC : Kd.C k27 w A l.length l) (hc : l.length ≤ c) (hC1 : Kd.C k27 w A1 la.length la) (hc1 : la.length ≤ c1) (hC2 : Kd.C k27 w A2 lb.length lb) (hc2 : lb.length ≤ c2) (ha : weirkeeperlaw14_awake.f k = some true) (h1 : 100 < l.length) :
    Calls Try.prog 6 #[.agg #[.int .i64 m, .slice A l.length c], .slice A1 la.length c1, .slice A2 lb.length c2, .int .i64 at_] w fun e w' => e = .returned (.bool true) ∧ Below w.heap.size w w' := by
  have HC := Aside0.mk hC
  have HC1 := Aside0.mk hC1
  have HC2 := Aside0.mk hC2
  have HA := Aside0.mk ha
  have hu24 := Try.underlying24
  have hu27 := Try.underlying27
  clear hC hC1 hC2 ha
  have dl0 : decide (100 < (l.length : Int)) = true := by first | exact decide_eq_true (by omega) | exact decide_eq_false (by omega)
  have dl1 : decide (100 < l.length) = true := by first | exact decide_eq_true (by omega) | exact decide_eq_false (by omega)
  go_enter Try.func6, Try.ntmps6
  go_wp2_with (first | ((with_reducible refine gate_dst (N := 4) rfl ?_); refine box_event ?hg (N := 4) ?hd (cs := #[.int .i64 m, .slice A l.length c]) (t := 24) ?hr ?_; (case hd => rfl); (case hg => rfl); (case hr => first | (go_simp; done) | (go_simp; rfl)); intro g hg w2 hbox hb; have HH2 := Aside0.mk (((Held.start w).go hb).add (fun w_ => w_.heap[g]? = some (.cells #[.int .i64 m, .slice A l.length c] 24 (0, 0))) hbox (keeps_box _ _)); clear hbox hb hg; have hca0 : w2.cell? ⟨g, 0, none⟩ = some (.int .i64 m) := (blk_cell (show w2.heap[g]? = some (.cells #[.int .i64 m, .slice A l.length c] 24 (0, 0)) from HH2.out.get 0 rfl) 0).trans rfl; have hfa0 := blk_frozen (show w2.heap[g]? = some (.cells #[.int .i64 m, .slice A l.length c] 24 (0, 0)) from HH2.out.get 0 rfl) 0; have hca1 : w2.cell? ⟨g, 1, none⟩ = some (.slice A l.length c) := (blk_cell (show w2.heap[g]? = some (.cells #[.int .i64 m, .slice A l.length c] 24 (0, 0)) from HH2.out.get 0 rfl) 1).trans rfl; have hfa1 := blk_frozen (show w2.heap[g]? = some (.cells #[.int .i64 m, .slice A l.length c] 24 (0, 0)) from HH2.out.get 0 rfl) 1; ) | (go_at_call 9; refine (weirkeeperlaw14_awake.calls k true _ HA.out).mono ?_; rintro e w3 ⟨rfl, hb⟩; have HBE := Aside0.mk (below_step HH2.out.below hb); clear hb))
  go_ret
  exact ⟨rfl, HBE.out⟩
theorem walk_b (k : Nat) (m : Int) (A : Option Addr) (c : Nat) (l : List S27) (A1 : Option Addr) (c1 : Nat) (la : List S27) (A2 : Option Addr) (c2 : Nat) (lb : List S27) (at_ : Int) (w : World) (hC : Kd.C k27 w A l.length l) (hc : l.length ≤ c) (hC1 : Kd.C k27 w A1 la.length la) (hc1 : la.length ≤ c1) (hC2 : Kd.C k27 w A2 lb.length lb) (hc2 : lb.length ≤ c2) (ha : weirkeeperlaw14_awake.f k = some true) (h1 : l.length ≤ 100) (h2 : 30 < la.length) :
    Calls Try.prog 6 #[.agg #[.int .i64 m, .slice A l.length c], .slice A1 la.length c1, .slice A2 lb.length c2, .int .i64 at_] w fun e w' => e = .returned (.bool true) ∧ Below w.heap.size w w' := by
  have HC := Aside0.mk hC
  have HC1 := Aside0.mk hC1
  have HC2 := Aside0.mk hC2
  have HA := Aside0.mk ha
  have hu24 := Try.underlying24
  have hu27 := Try.underlying27
  clear hC hC1 hC2 ha
  have dl0 : decide (100 < (l.length : Int)) = false := by first | exact decide_eq_true (by omega) | exact decide_eq_false (by omega)
  have dl1 : decide (100 < l.length) = false := by first | exact decide_eq_true (by omega) | exact decide_eq_false (by omega)
  have dla0 : decide (30 < (la.length : Int)) = true := by first | exact decide_eq_true (by omega) | exact decide_eq_false (by omega)
  have dla1 : decide (30 < la.length) = true := by first | exact decide_eq_true (by omega) | exact decide_eq_false (by omega)
  go_enter Try.func6, Try.ntmps6
  go_wp2_with (first | ((with_reducible refine gate_dst (N := 4) rfl ?_); refine box_event ?hg (N := 4) ?hd (cs := #[.int .i64 m, .slice A l.length c]) (t := 24) ?hr ?_; (case hd => rfl); (case hg => rfl); (case hr => first | (go_simp; done) | (go_simp; rfl)); intro g hg w2 hbox hb; have HH2 := Aside0.mk (((Held.start w).go hb).add (fun w_ => w_.heap[g]? = some (.cells #[.int .i64 m, .slice A l.length c] 24 (0, 0))) hbox (keeps_box _ _)); clear hbox hb hg; have hca0 : w2.cell? ⟨g, 0, none⟩ = some (.int .i64 m) := (blk_cell (show w2.heap[g]? = some (.cells #[.int .i64 m, .slice A l.length c] 24 (0, 0)) from HH2.out.get 0 rfl) 0).trans rfl; have hfa0 := blk_frozen (show w2.heap[g]? = some (.cells #[.int .i64 m, .slice A l.length c] 24 (0, 0)) from HH2.out.get 0 rfl) 0; have hca1 : w2.cell? ⟨g, 1, none⟩ = some (.slice A l.length c) := (blk_cell (show w2.heap[g]? = some (.cells #[.int .i64 m, .slice A l.length c] 24 (0, 0)) from HH2.out.get 0 rfl) 1).trans rfl; have hfa1 := blk_frozen (show w2.heap[g]? = some (.cells #[.int .i64 m, .slice A l.length c] 24 (0, 0)) from HH2.out.get 0 rfl) 1; ) | (go_at_call 9; refine (weirkeeperlaw14_awake.calls k true _ HA.out).mono ?_; rintro e w3 ⟨rfl, hb⟩; have HBE := Aside0.mk (below_step HH2.out.below hb); clear hb))
  go_ret
  exact ⟨rfl, HBE.out⟩
theorem walk_c (k : Nat) (m : Int) (A : Option Addr) (c : Nat) (l : List S27) (A1 : Option Addr) (c1 : Nat) (la : List S27) (A2 : Option Addr) (c2 : Nat) (lb : List S27) (at_ : Int) (w : World) (hC : Kd.C k27 w A l.length l) (hc : l.length ≤ c) (hC1 : Kd.C k27 w A1 la.length la) (hc1 : la.length ≤ c1) (hC2 : Kd.C k27 w A2 lb.length lb) (hc2 : lb.length ≤ c2) (ha : weirkeeperlaw14_awake.f k = some true) (h1 : l.length ≤ 100) (h2 : la.length ≤ 30) (h3 : 30 < lb.length) :
    Calls Try.prog 6 #[.agg #[.int .i64 m, .slice A l.length c], .slice A1 la.length c1, .slice A2 lb.length c2, .int .i64 at_] w fun e w' => e = .returned (.bool true) ∧ Below w.heap.size w w' := by
  have HC := Aside0.mk hC
  have HC1 := Aside0.mk hC1
  have HC2 := Aside0.mk hC2
  have HA := Aside0.mk ha
  have hu24 := Try.underlying24
  have hu27 := Try.underlying27
  clear hC hC1 hC2 ha
  have dl0 : decide (100 < (l.length : Int)) = false := by first | exact decide_eq_true (by omega) | exact decide_eq_false (by omega)
  have dl1 : decide (100 < l.length) = false := by first | exact decide_eq_true (by omega) | exact decide_eq_false (by omega)
  have dla0 : decide (30 < (la.length : Int)) = false := by first | exact decide_eq_true (by omega) | exact decide_eq_false (by omega)
  have dla1 : decide (30 < la.length) = false := by first | exact decide_eq_true (by omega) | exact decide_eq_false (by omega)
  have dlb0 : decide (30 < (lb.length : Int)) = true := by first | exact decide_eq_true (by omega) | exact decide_eq_false (by omega)
  have dlb1 : decide (30 < lb.length) = true := by first | exact decide_eq_true (by omega) | exact decide_eq_false (by omega)
  go_enter Try.func6, Try.ntmps6
  go_wp2_with (first | ((with_reducible refine gate_dst (N := 4) rfl ?_); refine box_event ?hg (N := 4) ?hd (cs := #[.int .i64 m, .slice A l.length c]) (t := 24) ?hr ?_; (case hd => rfl); (case hg => rfl); (case hr => first | (go_simp; done) | (go_simp; rfl)); intro g hg w2 hbox hb; have HH2 := Aside0.mk (((Held.start w).go hb).add (fun w_ => w_.heap[g]? = some (.cells #[.int .i64 m, .slice A l.length c] 24 (0, 0))) hbox (keeps_box _ _)); clear hbox hb hg; have hca0 : w2.cell? ⟨g, 0, none⟩ = some (.int .i64 m) := (blk_cell (show w2.heap[g]? = some (.cells #[.int .i64 m, .slice A l.length c] 24 (0, 0)) from HH2.out.get 0 rfl) 0).trans rfl; have hfa0 := blk_frozen (show w2.heap[g]? = some (.cells #[.int .i64 m, .slice A l.length c] 24 (0, 0)) from HH2.out.get 0 rfl) 0; have hca1 : w2.cell? ⟨g, 1, none⟩ = some (.slice A l.length c) := (blk_cell (show w2.heap[g]? = some (.cells #[.int .i64 m, .slice A l.length c] 24 (0, 0)) from HH2.out.get 0 rfl) 1).trans rfl; have hfa1 := blk_frozen (show w2.heap[g]? = some (.cells #[.int .i64 m, .slice A l.length c] 24 (0, 0)) from HH2.out.get 0 rfl) 1; ) | (go_at_call 9; refine (weirkeeperlaw14_awake.calls k true _ HA.out).mono ?_; rintro e w3 ⟨rfl, hb⟩; have HBE := Aside0.mk (below_step HH2.out.below hb); clear hb))
  go_ret
  exact ⟨rfl, HBE.out⟩
theorem walk_d (k : Nat) (m : Int) (A : Option Addr) (c : Nat) (l : List S27) (A1 : Option Addr) (c1 : Nat) (la : List S27) (A2 : Option Addr) (c2 : Nat) (lb : List S27) (at_ : Int) (w : World) (hC : Kd.C k27 w A l.length l) (hc : l.length ≤ c) (hC1 : Kd.C k27 w A1 la.length la) (hc1 : la.length ≤ c1) (hC2 : Kd.C k27 w A2 lb.length lb) (hc2 : lb.length ≤ c2) (ha : weirkeeperlaw14_awake.f k = some true) (h1 : l.length ≤ 100) (h2 : la.length ≤ 30) (h3 : lb.length ≤ 30) (hr : cache_Right.f k m l = some false) :
    Calls Try.prog 6 #[.agg #[.int .i64 m, .slice A l.length c], .slice A1 la.length c1, .slice A2 lb.length c2, .int .i64 at_] w fun e w' => e = .returned (.bool true) ∧ Below w.heap.size w w' := by
  have HC := Aside0.mk hC
  have HC1 := Aside0.mk hC1
  have HC2 := Aside0.mk hC2
  have HA := Aside0.mk ha
  have hu24 := Try.underlying24
  have hu27 := Try.underlying27
  clear hC hC1 hC2 ha
  have HR := Aside0.mk hr
  clear hr
  have dl0 : decide (100 < (l.length : Int)) = false := by first | exact decide_eq_true (by omega) | exact decide_eq_false (by omega)
  have dl1 : decide (100 < l.length) = false := by first | exact decide_eq_true (by omega) | exact decide_eq_false (by omega)
  have dla0 : decide (30 < (la.length : Int)) = false := by first | exact decide_eq_true (by omega) | exact decide_eq_false (by omega)
  have dla1 : decide (30 < la.length) = false := by first | exact decide_eq_true (by omega) | exact decide_eq_false (by omega)
  have dlb0 : decide (30 < (lb.length : Int)) = false := by first | exact decide_eq_true (by omega) | exact decide_eq_false (by omega)
  have dlb1 : decide (30 < lb.length) = false := by first | exact decide_eq_true (by omega) | exact decide_eq_false (by omega)
  go_enter Try.func6, Try.ntmps6
  go_wp2_with (first | ((with_reducible refine gate_dst (N := 4) rfl ?_); refine box_event ?hg (N := 4) ?hd (cs := #[.int .i64 m, .slice A l.length c]) (t := 24) ?hr ?_; (case hd => rfl); (case hg => rfl); (case hr => first | (go_simp; done) | (go_simp; rfl)); intro g hg w2 hbox hb; have HH2 := Aside0.mk (((Held.start w).go hb).add (fun w_ => w_.heap[g]? = some (.cells #[.int .i64 m, .slice A l.length c] 24 (0, 0))) hbox (keeps_box _ _)); clear hbox hb hg; have hca0 : w2.cell? ⟨g, 0, none⟩ = some (.int .i64 m) := (blk_cell (show w2.heap[g]? = some (.cells #[.int .i64 m, .slice A l.length c] 24 (0, 0)) from HH2.out.get 0 rfl) 0).trans rfl; have hfa0 := blk_frozen (show w2.heap[g]? = some (.cells #[.int .i64 m, .slice A l.length c] 24 (0, 0)) from HH2.out.get 0 rfl) 0; have hca1 : w2.cell? ⟨g, 1, none⟩ = some (.slice A l.length c) := (blk_cell (show w2.heap[g]? = some (.cells #[.int .i64 m, .slice A l.length c] 24 (0, 0)) from HH2.out.get 0 rfl) 1).trans rfl; have hfa1 := blk_frozen (show w2.heap[g]? = some (.cells #[.int .i64 m, .slice A l.length c] 24 (0, 0)) from HH2.out.get 0 rfl) 1; ) | (go_at_call 19; refine (cache_Right.calls k m A c l false w2 (Kd.C_below HC.out HH2.out.below) hc HR.out).mono ?_; rintro e w3 ⟨rfl, hb⟩; have HH3 := Aside0.mk (HH2.out.go hb); clear hb; have hcb0 : w3.cell? ⟨g, 0, none⟩ = some (.int .i64 m) := (blk_cell (show w3.heap[g]? = some (.cells #[.int .i64 m, .slice A l.length c] 24 (0, 0)) from HH3.out.get 0 rfl) 0).trans rfl; have hfb0 := blk_frozen (show w3.heap[g]? = some (.cells #[.int .i64 m, .slice A l.length c] 24 (0, 0)) from HH3.out.get 0 rfl) 0; have hcb1 : w3.cell? ⟨g, 1, none⟩ = some (.slice A l.length c) := (blk_cell (show w3.heap[g]? = some (.cells #[.int .i64 m, .slice A l.length c] 24 (0, 0)) from HH3.out.get 0 rfl) 1).trans rfl; have hfb1 := blk_frozen (show w3.heap[g]? = some (.cells #[.int .i64 m, .slice A l.length c] 24 (0, 0)) from HH3.out.get 0 rfl) 1; ) | (go_at_call 9; refine (weirkeeperlaw14_awake.calls k true _ HA.out).mono ?_; rintro e w4 ⟨rfl, hb⟩; have HBE := Aside0.mk (below_step HH3.out.below hb); clear hb))
  go_ret
  exact ⟨rfl, HBE.out⟩
theorem walk_e (k : Nat) (m : Int) (A : Option Addr) (c : Nat) (l : List S27) (A1 : Option Addr) (c1 : Nat) (la : List S27) (A2 : Option Addr) (c2 : Nat) (lb : List S27) (at_ : Int) (w : World) (hC : Kd.C k27 w A l.length l) (hc : l.length ≤ c) (hC1 : Kd.C k27 w A1 la.length la) (hc1 : la.length ≤ c1) (hC2 : Kd.C k27 w A2 lb.length lb) (hc2 : lb.length ≤ c2) (ha : weirkeeperlaw14_awake.f k = some true) (h1 : l.length ≤ 100) (h2 : la.length ≤ 30) (h3 : lb.length ≤ 30) (hr : cache_Right.f k m l = some true) (m1 m2 my mz e1 i0 : Int) (i1 : ByteArray) (i2 ok : Bool) (x1 out x2 more y all z : List S27) (mr : Int) (ry ro ra : List S33) (hp : Parts k m l la lb at_ m1 m2 my mz e1 i0 i1 i2 ok x1 out x2 more y all z mr ry ro ra) :
    Calls Try.prog 6 #[.agg #[.int .i64 m, .slice A l.length c], .slice A1 la.length c1, .slice A2 lb.length c2, .int .i64 at_] w fun e w' => e = .returned (.bool true) ∧ Below w.heap.size w w' := by
  have HC := Aside0.mk hC
  have HC1 := Aside0.mk hC1
  have HC2 := Aside0.mk hC2
  have HA := Aside0.mk ha
  have hu24 := Try.underlying24
  have hu27 := Try.underlying27
  clear hC hC1 hC2 ha
  have HR := Aside0.mk hr
  have HP := Aside0.mk hp
  clear hr hp
  have dl0 : decide (100 < (l.length : Int)) = false := by first | exact decide_eq_true (by omega) | exact decide_eq_false (by omega)
  have dl1 : decide (100 < l.length) = false := by first | exact decide_eq_true (by omega) | exact decide_eq_false (by omega)
  have dla0 : decide (30 < (la.length : Int)) = false := by first | exact decide_eq_true (by omega) | exact decide_eq_false (by omega)
  have dla1 : decide (30 < la.length) = false := by first | exact decide_eq_true (by omega) | exact decide_eq_false (by omega)
  have dlb0 : decide (30 < (lb.length : Int)) = false := by first | exact decide_eq_true (by omega) | exact decide_eq_false (by omega)
  have dlb1 : decide (30 < lb.length) = false := by first | exact decide_eq_true (by omega) | exact decide_eq_false (by omega)
  go_enter Try.func6, Try.ntmps6
  go_wp2_with (first | ((with_reducible refine gate_dst (N := 4) rfl ?_); refine box_event ?hg (N := 4) ?hd (cs := #[.int .i64 m, .slice A l.length c]) (t := 24) ?hr ?_; (case hd => rfl); (case hg => rfl); (case hr => first | (go_simp; done) | (go_simp; rfl)); intro g hg w2 hbox hb; have HH2 := Aside0.mk (((Held.start w).go hb).add (fun w_ => w_.heap[g]? = some (.cells #[.int .i64 m, .slice A l.length c] 24 (0, 0))) hbox (keeps_box _ _)); clear hbox hb hg; have hca0 : w2.cell? ⟨g, 0, none⟩ = some (.int .i64 m) := (blk_cell (show w2.heap[g]? = some (.cells #[.int .i64 m, .slice A l.length c] 24 (0, 0)) from HH2.out.get 0 rfl) 0).trans rfl; have hfa0 := blk_frozen (show w2.heap[g]? = some (.cells #[.int .i64 m, .slice A l.length c] 24 (0, 0)) from HH2.out.get 0 rfl) 0; have hca1 : w2.cell? ⟨g, 1, none⟩ = some (.slice A l.length c) := (blk_cell (show w2.heap[g]? = some (.cells #[.int .i64 m, .slice A l.length c] 24 (0, 0)) from HH2.out.get 0 rfl) 1).trans rfl; have hfa1 := blk_frozen (show w2.heap[g]? = some (.cells #[.int .i64 m, .slice A l.length c] 24 (0, 0)) from HH2.out.get 0 rfl) 1; ) | (go_at_call 19; refine (cache_Right.calls k m A c l true w2 (Kd.C_below HC.out HH2.out.below) hc HR.out).mono ?_; rintro e w3 ⟨rfl, hb⟩; have HH3 := Aside0.mk (HH2.out.go hb); clear hb; have hcb0 : w3.cell? ⟨g, 0, none⟩ = some (.int .i64 m) := (blk_cell (show w3.heap[g]? = some (.cells #[.int .i64 m, .slice A l.length c] 24 (0, 0)) from HH3.out.get 0 rfl) 0).trans rfl; have hfb0 := blk_frozen (show w3.heap[g]? = some (.cells #[.int .i64 m, .slice A l.length c] 24 (0, 0)) from HH3.out.get 0 rfl) 0; have hcb1 : w3.cell? ⟨g, 1, none⟩ = some (.slice A l.length c) := (blk_cell (show w3.heap[g]? = some (.cells #[.int .i64 m, .slice A l.length c] 24 (0, 0)) from HH3.out.get 0 rfl) 1).trans rfl; have hfb1 := blk_frozen (show w3.heap[g]? = some (.cells #[.int .i64 m, .slice A l.length c] 24 (0, 0)) from HH3.out.get 0 rfl) 1; ) | ((with_reducible refine gate_dst (N := 43) rfl ?_); (try (refine gate_guard (by rfl) ?_; dsimp only)); refine goesL_ (some 43) rfl rfl Try.func13 (by kernel_rfl) rfl #[.agg #[.int .i64 m, .slice A l.length c], .slice A1 la.length c1] rfl (by (try simp only [List.map_toArray, List.map_cons, List.map_nil]); first | done | rfl | (simp only [List.length_drop, List.length_take]; rfl)) ?_; (with_reducible refine (put_c k m A c l A1 c1 la m1 x1 out e1 w3 (Kd.C_below HC.out HH3.out.below) hc (Kd.C_below HC1.out HH3.out.below) hc1 HP.out.put1).mono ?_); rintro e w4 ⟨_, _, rfl, ⟨B1, b1, rfl, hb1, hB1⟩, ⟨D1, d1, rfl, hd1, hD1⟩, hb⟩; refine ⟨_, rfl, ?_⟩; have HH4 := Aside0.mk (((HH3.out.go hb).add (fun w_ => Kd.C k27 w_ D1 out.length out) hD1 (keeps_C k27 _ _)).add (fun w_ => Kd.C k27 w_ B1 x1.length x1) hB1 (keeps_C k27 _ _)); clear hb hB1 hD1; have hcc0 : w4.cell? ⟨g, 0, none⟩ = some (.int .i64 m) := (blk_cell (show w4.heap[g]? = some (.cells #[.int .i64 m, .slice A l.length c] 24 (0, 0)) from HH4.out.get 0 rfl) 0).trans rfl; have hfc0 := blk_frozen (show w4.heap[g]? = some (.cells #[.int .i64 m, .slice A l.length c] 24 (0, 0)) from HH4.out.get 0 rfl) 0; have hcc1 : w4.cell? ⟨g, 1, none⟩ = some (.slice A l.length c) := (blk_cell (show w4.heap[g]? = some (.cells #[.int .i64 m, .slice A l.length c] 24 (0, 0)) from HH4.out.get 0 rfl) 1).trans rfl; have hfc1 := blk_frozen (show w4.heap[g]? = some (.cells #[.int .i64 m, .slice A l.length c] 24 (0, 0)) from HH4.out.get 0 rfl) 1; ) | ((with_reducible refine gate_dst (N := 9) rfl ?_); refine box_event ?hg (N := 9) ?hd (cs := #[.int .i64 0, .slice none 0 0]) (t := 24) ?hr ?_; (case hd => rfl); (case hg => rfl); (case hr => first | (go_simp; done) | (go_simp; rfl)); intro g9 hg w5 hbox hb; have BZ := Aside0.mk hbox; have GE := Aside0.mk (Nat.le_of_eq hg.symm : w4.heap.size ≤ g9); have BL := Aside0.mk hb; clear hbox hb hg; have hcd0 : w5.cell? ⟨g9, 0, none⟩ = some (.int .i64 0) := (blk_cell (show w5.heap[g9]? = some (.cells #[.int .i64 0, .slice none 0 0] 24 (0, 0)) from BZ.out) 0).trans rfl; have hfd0 := blk_frozen (show w5.heap[g9]? = some (.cells #[.int .i64 0, .slice none 0 0] 24 (0, 0)) from BZ.out) 0; have hcd1 : w5.cell? ⟨g9, 1, none⟩ = some (.slice none 0 0) := (blk_cell (show w5.heap[g9]? = some (.cells #[.int .i64 0, .slice none 0 0] 24 (0, 0)) from BZ.out) 1).trans rfl; have hfd1 := blk_frozen (show w5.heap[g9]? = some (.cells #[.int .i64 0, .slice none 0 0] 24 (0, 0)) from BZ.out) 1; ) | ((with_reducible refine gate_store (t := 24) (p := 9) rfl ?_); refine store_event (t := 24) (p := 9) (v := ?vo_w6) (w1 := ((w5.setCell ⟨g9, 0, none⟩ (.int .i64 m1)).setCell ⟨g9, 1, none⟩ (.slice B1 x1.length b1))) ?hg ?ho ?hn ?hr ?_; (case ho => rfl); (case hg => rfl); (case hn => rfl); (case hr => first | (go_simp; done) | (go_simp; rfl)); intro w6 hw; have SS : Sets w5 w6 g9 (.cells #[.int .i64 m1, .slice B1 x1.length b1] 24 (0, 0)) := (by rw [hw]; exact sets2 BZ.out _ _); have HH6 := Aside0.mk ((HH4.out.go (SS.below w4 BL.out GE.out)).add (fun w_ => w_.heap[g9]? = some (.cells #[.int .i64 m1, .slice B1 x1.length b1] 24 (0, 0))) SS.box (keeps_box _ _)); have GE9 := Aside0.mk (Nat.le_trans HH4.out.below.size GE.out); have NE9 := Aside0.mk (Nat.ne_of_lt (Nat.lt_of_lt_of_le (blk_lt (show w4.heap[g]? = some (.cells #[.int .i64 m, .slice A l.length c] 24 (0, 0)) from HH4.out.get 0 rfl)) GE.out)); clear SS hw BZ BL GE; have hce0 : w6.cell? ⟨g9, 0, none⟩ = some (.int .i64 m1) := (blk_cell (show w6.heap[g9]? = some (.cells #[.int .i64 m1, .slice B1 x1.length b1] 24 (0, 0)) from HH6.out.get 3 rfl) 0).trans rfl; have hfe0 := blk_frozen (show w6.heap[g9]? = some (.cells #[.int .i64 m1, .slice B1 x1.length b1] 24 (0, 0)) from HH6.out.get 3 rfl) 0; have hce1 : w6.cell? ⟨g9, 1, none⟩ = some (.slice B1 x1.length b1) := (blk_cell (show w6.heap[g9]? = some (.cells #[.int .i64 m1, .slice B1 x1.length b1] 24 (0, 0)) from HH6.out.get 3 rfl) 1).trans rfl; have hfe1 := blk_frozen (show w6.heap[g9]? = some (.cells #[.int .i64 m1, .slice B1 x1.length b1] 24 (0, 0)) from HH6.out.get 3 rfl) 1; have hcf0 : w6.cell? ⟨g, 0, none⟩ = some (.int .i64 m) := (blk_cell (show w6.heap[g]? = some (.cells #[.int .i64 m, .slice A l.length c] 24 (0, 0)) from HH6.out.get 0 rfl) 0).trans rfl; have hff0 := blk_frozen (show w6.heap[g]? = some (.cells #[.int .i64 m, .slice A l.length c] 24 (0, 0)) from HH6.out.get 0 rfl) 0; have hcf1 : w6.cell? ⟨g, 1, none⟩ = some (.slice A l.length c) := (blk_cell (show w6.heap[g]? = some (.cells #[.int .i64 m, .slice A l.length c] 24 (0, 0)) from HH6.out.get 0 rfl) 1).trans rfl; have hff1 := blk_frozen (show w6.heap[g]? = some (.cells #[.int .i64 m, .slice A l.length c] 24 (0, 0)) from HH6.out.get 0 rfl) 1; ) | ((with_reducible refine gate_dst (N := 50) rfl ?_); (try (refine gate_guard (by rfl) ?_; dsimp only)); refine goesL_ (some 50) rfl rfl Try.func13 (by kernel_rfl) rfl #[.agg #[.int .i64 m1, .slice B1 x1.length b1], .slice A2 lb.length c2] rfl (by (try simp only [List.map_toArray, List.map_cons, List.map_nil]); first | done | rfl | (simp only [List.length_drop, List.length_take]; rfl)) ?_; (with_reducible refine (put_c k m1 B1 b1 x1 A2 c2 lb m2 x2 more 0 w6 (HH6.out.get 2 rfl) hb1 (Kd.C_below HC2.out HH6.out.below) hc2 HP.out.put2).mono ?_); rintro e w7 ⟨_, _, rfl, ⟨B2, b2, rfl, hb2, hB2⟩, ⟨D2, d2, rfl, hd2, hD2⟩, hb⟩; refine ⟨_, rfl, ?_⟩; have HH7 := Aside0.mk (((HH6.out.go hb).add (fun w_ => Kd.C k27 w_ D2 more.length more) hD2 (keeps_C k27 _ _)).add (fun w_ => Kd.C k27 w_ B2 x2.length x2) hB2 (keeps_C k27 _ _)); clear hb hB2 hD2; have hch0 : w7.cell? ⟨g9, 0, none⟩ = some (.int .i64 m1) := (blk_cell (show w7.heap[g9]? = some (.cells #[.int .i64 m1, .slice B1 x1.length b1] 24 (0, 0)) from HH7.out.get 3 rfl) 0).trans rfl; have hfh0 := blk_frozen (show w7.heap[g9]? = some (.cells #[.int .i64 m1, .slice B1 x1.length b1] 24 (0, 0)) from HH7.out.get 3 rfl) 0; have hch1 : w7.cell? ⟨g9, 1, none⟩ = some (.slice B1 x1.length b1) := (blk_cell (show w7.heap[g9]? = some (.cells #[.int .i64 m1, .slice B1 x1.length b1] 24 (0, 0)) from HH7.out.get 3 rfl) 1).trans rfl; have hfh1 := blk_frozen (show w7.heap[g9]? = some (.cells #[.int .i64 m1, .slice B1 x1.length b1] 24 (0, 0)) from HH7.out.get 3 rfl) 1; ) | ((with_reducible refine gate_store (t := 24) (p := 9) rfl ?_); refine store_event (t := 24) (p := 9) (v := ?vo_w8) (w1 := ((w7.setCell ⟨g9, 0, none⟩ (.int .i64 m2)).setCell ⟨g9, 1, none⟩ (.slice B2 x2.length b2))) ?hg ?ho ?hn ?hr ?_; (case ho => rfl); (case hg => rfl); (case hn => rfl); (case hr => first | (go_simp; done) | (go_simp; rfl)); intro w8 hw; have SS : Sets w7 w8 g9 (.cells #[.int .i64 m2, .slice B2 x2.length b2] 24 (0, 0)) := (by rw [hw]; exact sets2 (show w7.heap[g9]? = some (.cells #[.int .i64 m1, .slice B1 x1.length b1] 24 (0, 0)) from HH7.out.get 3 rfl) _ _); have HH8 := Aside0.mk ((((((Held.base (SS.below w HH7.out.below GE9.out)).add (fun w_ => w_.heap[g]? = some (.cells #[.int .i64 m, .slice A l.length c] 24 (0, 0))) (box_sets (show w7.heap[g]? = some (.cells #[.int .i64 m, .slice A l.length c] 24 (0, 0)) from HH7.out.get 0 rfl) SS NE9.out) (keeps_box _ _)).add (fun w_ => Kd.C k27 w_ D1 out.length out) (C_sets (show Kd.C k27 w7 D1 out.length out from HH7.out.get 1 rfl) (show w7.heap[g9]? = some (.cells #[.int .i64 m1, .slice B1 x1.length b1] 24 (0, 0)) from HH7.out.get 3 rfl) SS) (keeps_C k27 _ _)).add (fun w_ => Kd.C k27 w_ D2 more.length more) (C_sets (show Kd.C k27 w7 D2 more.length more from HH7.out.get 4 rfl) (show w7.heap[g9]? = some (.cells #[.int .i64 m1, .slice B1 x1.length b1] 24 (0, 0)) from HH7.out.get 3 rfl) SS) (keeps_C k27 _ _)).add (fun w_ => Kd.C k27 w_ B2 x2.length x2) (C_sets (show Kd.C k27 w7 B2 x2.length x2 from HH7.out.get 5 rfl) (show w7.heap[g9]? = some (.cells #[.int .i64 m1, .slice B1 x1.length b1] 24 (0, 0)) from HH7.out.get 3 rfl) SS) (keeps_C k27 _ _)).add (fun w_ => w_.heap[g9]? = some (.cells #[.int .i64 m2, .slice B2 x2.length b2] 24 (0, 0))) SS.box (keeps_box _ _)); clear SS hw; have hci0 : w8.cell? ⟨g, 0, none⟩ = some (.int .i64 m) := (blk_cell (show w8.heap[g]? = some (.cells #[.int .i64 m, .slice A l.length c] 24 (0, 0)) from HH8.out.get 0 rfl) 0).trans rfl; have hfi0 := blk_frozen (show w8.heap[g]? = some (.cells #[.int .i64 m, .slice A l.length c] 24 (0, 0)) from HH8.out.get 0 rfl) 0; have hci1 : w8.cell? ⟨g, 1, none⟩ = some (.slice A l.length c) := (blk_cell (show w8.heap[g]? = some (.cells #[.int .i64 m, .slice A l.length c] 24 (0, 0)) from HH8.out.get 0 rfl) 1).trans rfl; have hfi1 := blk_frozen (show w8.heap[g]? = some (.cells #[.int .i64 m, .slice A l.length c] 24 (0, 0)) from HH8.out.get 0 rfl) 1; ))
  refine start_ (n := 15) (S := fun w' => True) (ds := []) #[false, false, false, false, false, false, false, false, false, false, false, false, false, false, false] (by kernel_rfl) rfl rfl trivial (fun hHeld => ?_); refine with_tabW CParts.tab5 CParts.bits5 (fun HT_ HW_ => ?_)
  replace HH8 := Aside0.mk HH8.out.drew
  generalize w8.drew = w9 at HH8 ⊢
  have HB := Aside0.mk (Below.refl w9.heap.size w9)
  refine pure_ (i := 2) (N := some 57) (v := ?_) (a' := ?_) #[false, false, true, false, false, false, false, false, false, false, false, false, false, false, false] rfl rfl (any_of HT_.out (by kernel_rfl)) (fun _ _ _ h => h) (Or.inl ⟨by rfl, ?_⟩) ?_ ?_
  rotate_left
  · intro w'
    go_simp
    with_reducible rfl
  rotate_left
  · simp only [Act.put, List.setIfInBounds_toArray, List.set_cons_zero, List.set_cons_succ, i64_w, i32_w]
    rfl
  refine pure_ (i := 4) (N := some 59) (v := ?_) (a' := ?_) #[false, false, true, false, true, false, false, false, false, false, false, false, false, false, false] rfl rfl (any_of HT_.out (by kernel_rfl)) (fun _ _ _ h => h) (Or.inl ⟨by rfl, ?_⟩) ?_ ?_
  rotate_left
  · intro w'
    go_simp
    with_reducible rfl
  rotate_left
  · simp only [Act.put, List.setIfInBounds_toArray, List.set_cons_zero, List.set_cons_succ, i64_w, i32_w]
    rfl
  refine inv_at [0, 1, 3, 5, 6, 7, 8, 9, 10, 11, 12, 13, 14] (fun a0_ b a w' => ∃ (v56 : Value) (v58 : Value) (v60 : Value) (vy : Value) (vd : Value) (g14 : Nat) (m6_ : Value) (m7_ : Value) (m8_ : Value) (m9_ : Value) (m11_ : Value) (m13_ : Value), a = putSel a0_ b [(0, 55, .agg #[.int .i64 m, .slice A l.length c]), (1, 56, v56), (3, 58, v58), (5, 60, v60), (6, 61, m6_), (7, 54, m7_), (8, 62, m8_), (9, 63, m9_), (10, 64, .int .i64 0), (11, 14, m11_), (13, 15, m13_), (14, 16, .int .i64 0)] ∧ (Below w9.heap.size w9 w') ∧ (b 1 = true → b 3 = false → Kd.R k27 27 w' w9.heap.size (fun _ => True) v56 []) ∧ (b 3 = true → b 5 = false → Kd.R k27 27 w' w9.heap.size (fun _ => True) v58 la) ∧ (b 5 = true → b 6 = false → Kd.R k27 27 w' w9.heap.size (fun _ => True) v60 (la ++ lb)) ∧ (b 6 = true → Row k27 w' vy y) ∧ (b 6 = true → Row k27 w' vd all) ∧ (b 11 = true → b 12 = false → w'.heap[g14]? = some (.cells #[.int .i64 0, .slice none 0 0] 24 (0, 0))) ∧ (b 11 = true → w9.heap.size ≤ g14) ∧ (b 12 = true → w'.heap[g14]? = some (.cells #[.int .i64 my, vy] 24 (0, 0))) ∧ (b 6 = true → (m6_ : Value) = .tuple #[.agg #[.int .i64 my, vy], vd, .int .i64 0]) ∧ (b 7 = true → (m7_ : Value) = .tuple #[.agg #[.int .i64 my, vy], vd, .int .i64 0]) ∧ (b 8 = true → (m8_ : Value) = .agg #[.int .i64 my, vy]) ∧ (b 9 = true → (m9_ : Value) = vd) ∧ (b 11 = true → (m11_ : Value) = .pointer (some ⟨g14, 0, none⟩)) ∧ (b 13 = true → (m13_ : Value) = vd)) HT_.out HW_.out (by kernel_rfl) (by kernel_rfl) ?_ ?_ ?_
  · exact ⟨.bool false, .bool false, .bool false, .bool false, .bool false, 0, .bool false, .bool false, .bool false, .bool false, .bool false, .bool false, by simp only [putSel, Bool.false_eq_true, if_false], HB.out, fun h_ => absurd h_ (by decide), fun h_ => absurd h_ (by decide), fun h_ => absurd h_ (by decide), fun h_ => absurd h_ (by decide), fun h_ => absurd h_ (by decide), fun h_ => absurd h_ (by decide), fun h_ => absurd h_ (by decide), fun h_ => absurd h_ (by decide), fun h_ => absurd h_ (by decide), fun h_ => absurd h_ (by decide), fun h_ => absurd h_ (by decide), fun h_ => absurd h_ (by decide), fun h_ => absurd h_ (by decide), fun h_ => absurd h_ (by decide)⟩
  · skip
    clear HB
    refine steps_cons ?_ ?_
    · rintro b a w' ⟨v56, v58, v60, vy, vd, g14, m6_, m7_, m8_, m9_, m11_, m13_, ha, Q_HB, Q_R56, Q_R58, Q_R60, Q_RY, Q_RD, Q_BX, Q_BG, Q_BX2, Q_X6_, Q_X7_, Q_X8_, Q_X9_, Q_X11_, Q_X13_⟩ hb_ hon hoff
      refine ⟨_, rfl, fun K hK => ?_⟩
      have e4 : a.tmps[4]? = some (.pointer (some ⟨g, 0, none⟩)) := by rw [ha]; exact (putSel_off rfl).trans rfl
      replace ha := Aside0.mk ha
      have HB := Aside0.mk Q_HB
      have hcp0 : w'.cell? ⟨g, 0, none⟩ = some (.int .i64 m) := (blk_cell (show w'.heap[g]? = some (.cells #[.int .i64 m, .slice A l.length c] 24 (0, 0)) from (HH8.out.go HB.out).get 0 rfl) 0).trans rfl
      have hfp0 := blk_frozen (show w'.heap[g]? = some (.cells #[.int .i64 m, .slice A l.length c] 24 (0, 0)) from (HH8.out.go HB.out).get 0 rfl) 0
      have hcp1 : w'.cell? ⟨g, 1, none⟩ = some (.slice A l.length c) := (blk_cell (show w'.heap[g]? = some (.cells #[.int .i64 m, .slice A l.length c] 24 (0, 0)) from (HH8.out.go HB.out).get 0 rfl) 1).trans rfl
      have hfp1 := blk_frozen (show w'.heap[g]? = some (.cells #[.int .i64 m, .slice A l.length c] 24 (0, 0)) from (HH8.out.go HB.out).get 0 rfl) 1
      refine value_ (w1 := w') (v := .agg #[.int .i64 m, .slice A l.length c]) (by rfl) rfl ?_ ?_
      · go_simp
        (try simp only [i64_w])
        try rfl
      refine hK.out _ _ ⟨v56, v58, v60, vy, vd, g14, m6_, m7_, m8_, m9_, m11_, m13_, (by rw [ha.out]; exact putSel_upk 0 hb_ rfl rfl rfl), Q_HB, Q_R56, Q_R58, Q_R60, fun h0_ => absurd ((hoff 6 (by kernel_rfl)).symm.trans h0_) (by decide), fun h0_ => absurd ((hoff 6 (by kernel_rfl)).symm.trans h0_) (by decide), Q_BX, Q_BG, fun h0_ => absurd ((hoff 12 (by kernel_rfl)).symm.trans h0_) (by decide), fun h0_ => absurd ((hoff 6 (by kernel_rfl)).symm.trans h0_) (by decide), fun h0_ => absurd ((hoff 7 (by kernel_rfl)).symm.trans h0_) (by decide), fun h0_ => absurd ((hoff 8 (by kernel_rfl)).symm.trans h0_) (by decide), fun h0_ => absurd ((hoff 9 (by kernel_rfl)).symm.trans h0_) (by decide), Q_X11_, fun h0_ => absurd ((hoff 13 (by kernel_rfl)).symm.trans h0_) (by decide)⟩
    refine steps_cons ?_ ?_
    · rintro b a w' ⟨v56, v58, v60, vy, vd, g14, m6_, m7_, m8_, m9_, m11_, m13_, ha, Q_HB, Q_R56, Q_R58, Q_R60, Q_RY, Q_RD, Q_BX, Q_BG, Q_BX2, Q_X6_, Q_X7_, Q_X8_, Q_X9_, Q_X11_, Q_X13_⟩ hb_ hon hoff
      refine ⟨_, rfl, fun K hK => ?_⟩
      replace ha := Aside0.mk ha
      have HB := Aside0.mk Q_HB
      refine Kd.R_lit_step k27 w9.heap.size 27 (w0 := w9) (by rfl) (N := 56) rfl (xs := []) (inner := []) (ok := fun _ => True) (okp := fun _ => True) ?hr ?hp (fun _ hk => hk) trivial HB.out HB.out.size (by simp) ?_
      case hr => first | (go_simp; done) | (go_simp; rfl)
      case hp => exact (Reps.none _ _)
      intro v_ w_ h_ hb_1 hg_ hn_
      have hbel := below_of_grown hg_
      refine hK.out _ _ ⟨v_, v58, v60, vy, vd, g14, m6_, m7_, m8_, m9_, m11_, m13_, (by rw [ha.out]; exact putSel_upk 1 hb_ rfl rfl rfl), hb_1, fun _ _ => h_, fun h0_ _ => absurd ((hoff 3 (by kernel_rfl)).symm.trans h0_) (by decide), fun h0_ _ => absurd ((hoff 5 (by kernel_rfl)).symm.trans h0_) (by decide), fun h0_ => absurd ((hoff 6 (by kernel_rfl)).symm.trans h0_) (by decide), fun h0_ => absurd ((hoff 6 (by kernel_rfl)).symm.trans h0_) (by decide), fun h0_ h1_ => blk_below (Q_BX h0_ h1_) hbel, Q_BG, fun h0_ => absurd ((hoff 12 (by kernel_rfl)).symm.trans h0_) (by decide), fun h0_ => absurd ((hoff 6 (by kernel_rfl)).symm.trans h0_) (by decide), fun h0_ => absurd ((hoff 7 (by kernel_rfl)).symm.trans h0_) (by decide), fun h0_ => absurd ((hoff 8 (by kernel_rfl)).symm.trans h0_) (by decide), fun h0_ => absurd ((hoff 9 (by kernel_rfl)).symm.trans h0_) (by decide), Q_X11_, fun h0_ => absurd ((hoff 13 (by kernel_rfl)).symm.trans h0_) (by decide)⟩
    refine steps_cons ?_ ?_
    · rintro b a w' ⟨v56, v58, v60, vy, vd, g14, m6_, m7_, m8_, m9_, m11_, m13_, ha, Q_HB, Q_R56, Q_R58, Q_R60, Q_RY, Q_RD, Q_BX, Q_BG, Q_BX2, Q_X6_, Q_X7_, Q_X8_, Q_X9_, Q_X11_, Q_X13_⟩ hb_ hon hoff
      refine ⟨_, rfl, fun K hK => ?_⟩
      have e56 : a.tmps[56]? = some (v56) := by rw [ha]; exact putSel_on (e := (1, 56, v56)) 1 rfl rfl (hon 1 (by kernel_rfl)) rfl
      have e57 : a.tmps[57]? = some (.slice A1 la.length c1) := by rw [ha]; exact (putSel_off rfl).trans rfl
      replace ha := Aside0.mk ha
      have HB := Aside0.mk Q_HB
      have R56 := Aside0.mk (Q_R56 (hon 1 (by kernel_rfl)) hb_)
      refine Kd.R_append_rows_step k27 (w0 := w9) w9.heap.size (by rfl) (.tmp 56) (.tmp 57) 22 27 (.agg #[.int .i64 0, .string (⟨#[]⟩ : ByteArray), .bool false]) 32 rfl Try.underlying22 info27 rfl (by decide) (by decide) v56 [] la A1 la.length c1 (fun _ => True) (fun _ => False) (eval_of e56) (eval_of e57) R56.out (Kd.C_below HC1.out (HH8.out.go HB.out).below) (fun x cs h => by rw [k27_open h]; exact k27_mkM _ _ _ x) (fun _ h => h.elim) (fun _ _ => trivial) HB.out HB.out.size (by first | (simp; omega) | omega) ?_
      intro v_ w_ h_ hb_1 hg_ hn_
      refine hK.out _ _ ⟨v56, v_, v60, vy, vd, g14, m6_, m7_, m8_, m9_, m11_, m13_, (by rw [ha.out]; exact putSel_upk 2 hb_ rfl rfl rfl), hb_1, fun _ h1_ => absurd ((up_self b 3).symm.trans h1_) (by decide), fun _ _ => (by simpa using h_), fun h0_ _ => absurd ((hoff 5 (by kernel_rfl)).symm.trans h0_) (by decide), fun h0_ => absurd ((hoff 6 (by kernel_rfl)).symm.trans h0_) (by decide), fun h0_ => absurd ((hoff 6 (by kernel_rfl)).symm.trans h0_) (by decide), fun h0_ h1_ => blk_grown (Q_BX h0_ h1_) hg_ (Kd.R_ne R56.out (Q_BX h0_ h1_) (by decide)), Q_BG, fun h0_ => absurd ((hoff 12 (by kernel_rfl)).symm.trans h0_) (by decide), fun h0_ => absurd ((hoff 6 (by kernel_rfl)).symm.trans h0_) (by decide), fun h0_ => absurd ((hoff 7 (by kernel_rfl)).symm.trans h0_) (by decide), fun h0_ => absurd ((hoff 8 (by kernel_rfl)).symm.trans h0_) (by decide), fun h0_ => absurd ((hoff 9 (by kernel_rfl)).symm.trans h0_) (by decide), Q_X11_, fun h0_ => absurd ((hoff 13 (by kernel_rfl)).symm.trans h0_) (by decide)⟩
    refine steps_cons ?_ ?_
    · rintro b a w' ⟨v56, v58, v60, vy, vd, g14, m6_, m7_, m8_, m9_, m11_, m13_, ha, Q_HB, Q_R56, Q_R58, Q_R60, Q_RY, Q_RD, Q_BX, Q_BG, Q_BX2, Q_X6_, Q_X7_, Q_X8_, Q_X9_, Q_X11_, Q_X13_⟩ hb_ hon hoff
      refine ⟨_, rfl, fun K hK => ?_⟩
      have e58 : a.tmps[58]? = some (v58) := by rw [ha]; exact putSel_on (e := (3, 58, v58)) 2 rfl rfl (hon 3 (by kernel_rfl)) rfl
      have e59 : a.tmps[59]? = some (.slice A2 lb.length c2) := by rw [ha]; exact (putSel_off rfl).trans rfl
      replace ha := Aside0.mk ha
      have HB := Aside0.mk Q_HB
      have R58 := Aside0.mk (Q_R58 (hon 3 (by kernel_rfl)) hb_)
      refine Kd.R_append_rows_step k27 (w0 := w9) w9.heap.size (by rfl) (.tmp 58) (.tmp 59) 22 27 (.agg #[.int .i64 0, .string (⟨#[]⟩ : ByteArray), .bool false]) 32 rfl Try.underlying22 info27 rfl (by decide) (by decide) v58 la lb A2 lb.length c2 (fun _ => True) (fun _ => False) (eval_of e58) (eval_of e59) R58.out (Kd.C_below HC2.out (HH8.out.go HB.out).below) (fun x cs h => by rw [k27_open h]; exact k27_mkM _ _ _ x) (fun _ h => h.elim) (fun _ _ => trivial) HB.out HB.out.size (by first | omega | (simp; omega)) ?_
      intro v_ w_ h_ hb_1 hg_ hn_
      refine hK.out _ _ ⟨v56, v58, v_, vy, vd, g14, m6_, m7_, m8_, m9_, m11_, m13_, (by rw [ha.out]; exact putSel_upk 3 hb_ rfl rfl rfl), hb_1, fun _ h1_ => absurd ((hon 3 (by kernel_rfl)).symm.trans h1_) (by decide), fun _ h1_ => absurd ((up_self b 5).symm.trans h1_) (by decide), fun _ _ => h_, fun h0_ => absurd ((hoff 6 (by kernel_rfl)).symm.trans h0_) (by decide), fun h0_ => absurd ((hoff 6 (by kernel_rfl)).symm.trans h0_) (by decide), fun h0_ h1_ => blk_grown (Q_BX h0_ h1_) hg_ (Kd.R_ne R58.out (Q_BX h0_ h1_) (by decide)), Q_BG, fun h0_ => absurd ((hoff 12 (by kernel_rfl)).symm.trans h0_) (by decide), fun h0_ => absurd ((hoff 6 (by kernel_rfl)).symm.trans h0_) (by decide), fun h0_ => absurd ((hoff 7 (by kernel_rfl)).symm.trans h0_) (by decide), fun h0_ => absurd ((hoff 8 (by kernel_rfl)).symm.trans h0_) (by decide), fun h0_ => absurd ((hoff 9 (by kernel_rfl)).symm.trans h0_) (by decide), Q_X11_, fun h0_ => absurd ((hoff 13 (by kernel_rfl)).symm.trans h0_) (by decide)⟩
    refine steps_cons ?_ ?_
    · rintro b a w' ⟨v56, v58, v60, vy, vd, g14, m6_, m7_, m8_, m9_, m11_, m13_, ha, Q_HB, Q_R56, Q_R58, Q_R60, Q_RY, Q_RD, Q_BX, Q_BG, Q_BX2, Q_X6_, Q_X7_, Q_X8_, Q_X9_, Q_X11_, Q_X13_⟩ hb_ hon hoff
      refine ⟨_, rfl, fun K hK => ?_⟩
      have e55 : a.tmps[55]? = some (.agg #[.int .i64 m, .slice A l.length c]) := by rw [ha]; exact putSel_on (e := (0, 55, .agg #[.int .i64 m, .slice A l.length c])) 0 rfl rfl (hon 0 (by kernel_rfl)) rfl
      have e60 : a.tmps[60]? = some (v60) := by rw [ha]; exact putSel_on (e := (5, 60, v60)) 3 rfl rfl (hon 5 (by kernel_rfl)) rfl
      replace ha := Aside0.mk ha
      have HB := Aside0.mk Q_HB
      have R60 := Aside0.mk (Q_R60 (hon 5 (by kernel_rfl)) hb_)
      obtain ⟨A60, c60, e60_⟩ := Kd.R_slice R60.out
      subst e60_
      refine goes_ Try.func13 rfl rfl #[.agg #[.int .i64 m, .slice A l.length c], .slice A60 (la ++ lb).length c60] (by rfl) rfl rfl (by first | (simp only [List.map_toArray, List.map_cons, List.map_nil, Act.eval, Array.getD_eq_getD_getElem?, Option.getD_some, e55, e60]; done) | (simp only [List.map_toArray, List.map_cons, List.map_nil, Act.eval, Array.getD_eq_getD_getElem?, Option.getD_some, e55, e60]; rfl)) ?_
      refine (put_c k m A c l A60 c60 (la ++ lb) my y all 0 w' (Kd.C_below HC.out (HH8.out.go HB.out).below) hc (Kd.R_reads' R60.out).2.2 (Kd.R_reads' R60.out).2.1 HP.out.put3).mono ?_
      rintro e_ w4_ ⟨vy_, vd_, rfl, hY_, hD_, hbel⟩
      refine ⟨_, rfl, ?_⟩
      refine hK.out _ _ ⟨v56, v58, (.slice A60 (la ++ lb).length c60), vy_, vd_, g14, (.tuple #[.agg #[.int .i64 my, vy_], vd_, .int .i64 0]), m7_, m8_, m9_, m11_, m13_, (by rw [ha.out]; exact putSel_upk 4 hb_ rfl rfl rfl), below_step HB.out hbel, fun _ h1_ => absurd ((hon 3 (by kernel_rfl)).symm.trans h1_) (by decide), fun _ h1_ => absurd ((hon 5 (by kernel_rfl)).symm.trans h1_) (by decide), fun _ h1_ => absurd ((up_self b 6).symm.trans h1_) (by decide), fun _ => hY_, fun _ => hD_, fun h0_ h1_ => blk_below (Q_BX h0_ h1_) hbel, Q_BG, fun h0_ => absurd ((hoff 12 (by kernel_rfl)).symm.trans h0_) (by decide), fun _ => rfl, fun h0_ => absurd ((hoff 7 (by kernel_rfl)).symm.trans h0_) (by decide), fun h0_ => absurd ((hoff 8 (by kernel_rfl)).symm.trans h0_) (by decide), fun h0_ => absurd ((hoff 9 (by kernel_rfl)).symm.trans h0_) (by decide), Q_X11_, fun h0_ => absurd ((hoff 13 (by kernel_rfl)).symm.trans h0_) (by decide)⟩
    refine steps_cons ?_ ?_
    · rintro b a w' ⟨v56, v58, v60, vy, vd, g14, m6_, m7_, m8_, m9_, m11_, m13_, ha, Q_HB, Q_R56, Q_R58, Q_R60, Q_RY, Q_RD, Q_BX, Q_BG, Q_BX2, Q_X6_, Q_X7_, Q_X8_, Q_X9_, Q_X11_, Q_X13_⟩ hb_ hon hoff
      refine ⟨_, rfl, fun K hK => ?_⟩
      have e61 : a.tmps[61]? = some (m6_) := by rw [ha]; exact putSel_on (e := (6, 61, m6_)) 4 rfl rfl (hon 6 (by kernel_rfl)) rfl
      rw [Q_X6_ (hon 6 (by kernel_rfl))] at e61
      replace ha := Aside0.mk ha
      have HB := Aside0.mk Q_HB
      have RY := Aside0.mk (Q_RY (hon 6 (by kernel_rfl)))
      have RD := Aside0.mk (Q_RD (hon 6 (by kernel_rfl)))
      refine value_ (w1 := w') (v := .tuple #[.agg #[.int .i64 my, vy], vd, .int .i64 0]) (by rfl) rfl ?_ ?_
      · go_simp
        (try simp only [i64_w])
        try rfl
      refine hK.out _ _ ⟨v56, v58, v60, vy, vd, g14, m6_, (.tuple #[.agg #[.int .i64 my, vy], vd, .int .i64 0]), m8_, m9_, m11_, m13_, (by rw [ha.out]; exact putSel_upk 5 hb_ rfl rfl rfl), Q_HB, fun _ h1_ => absurd ((hon 3 (by kernel_rfl)).symm.trans h1_) (by decide), fun _ h1_ => absurd ((hon 5 (by kernel_rfl)).symm.trans h1_) (by decide), fun _ h1_ => absurd ((hon 6 (by kernel_rfl)).symm.trans h1_) (by decide), Q_RY, Q_RD, Q_BX, Q_BG, fun h0_ => absurd ((hoff 12 (by kernel_rfl)).symm.trans h0_) (by decide), Q_X6_, fun _ => rfl, fun h0_ => absurd ((hoff 8 (by kernel_rfl)).symm.trans h0_) (by decide), fun h0_ => absurd ((hoff 9 (by kernel_rfl)).symm.trans h0_) (by decide), Q_X11_, fun h0_ => absurd ((hoff 13 (by kernel_rfl)).symm.trans h0_) (by decide)⟩
    refine steps_cons ?_ ?_
    · rintro b a w' ⟨v56, v58, v60, vy, vd, g14, m6_, m7_, m8_, m9_, m11_, m13_, ha, Q_HB, Q_R56, Q_R58, Q_R60, Q_RY, Q_RD, Q_BX, Q_BG, Q_BX2, Q_X6_, Q_X7_, Q_X8_, Q_X9_, Q_X11_, Q_X13_⟩ hb_ hon hoff
      refine ⟨_, rfl, fun K hK => ?_⟩
      have e54 : a.tmps[54]? = some (m7_) := by rw [ha]; exact putSel_on (e := (7, 54, m7_)) 5 rfl rfl (hon 7 (by kernel_rfl)) rfl
      rw [Q_X7_ (hon 7 (by kernel_rfl))] at e54
      replace ha := Aside0.mk ha
      have HB := Aside0.mk Q_HB
      have RY := Aside0.mk (Q_RY (hon 6 (by kernel_rfl)))
      have RD := Aside0.mk (Q_RD (hon 6 (by kernel_rfl)))
      refine value_ (w1 := w') (v := .agg #[.int .i64 my, vy]) (by rfl) rfl ?_ ?_
      · go_simp
        (try simp only [i64_w])
        try rfl
      refine hK.out _ _ ⟨v56, v58, v60, vy, vd, g14, m6_, m7_, (.agg #[.int .i64 my, vy]), m9_, m11_, m13_, (by rw [ha.out]; exact putSel_upk 6 hb_ rfl rfl rfl), Q_HB, fun _ h1_ => absurd ((hon 3 (by kernel_rfl)).symm.trans h1_) (by decide), fun _ h1_ => absurd ((hon 5 (by kernel_rfl)).symm.trans h1_) (by decide), fun _ h1_ => absurd ((hon 6 (by kernel_rfl)).symm.trans h1_) (by decide), Q_RY, Q_RD, Q_BX, Q_BG, fun h0_ => absurd ((hoff 12 (by kernel_rfl)).symm.trans h0_) (by decide), Q_X6_, Q_X7_, fun _ => rfl, Q_X9_, Q_X11_, fun h0_ => absurd ((hoff 13 (by kernel_rfl)).symm.trans h0_) (by decide)⟩
    refine steps_cons ?_ ?_
    · rintro b a w' ⟨v56, v58, v60, vy, vd, g14, m6_, m7_, m8_, m9_, m11_, m13_, ha, Q_HB, Q_R56, Q_R58, Q_R60, Q_RY, Q_RD, Q_BX, Q_BG, Q_BX2, Q_X6_, Q_X7_, Q_X8_, Q_X9_, Q_X11_, Q_X13_⟩ hb_ hon hoff
      refine ⟨_, rfl, fun K hK => ?_⟩
      have e54 : a.tmps[54]? = some (m7_) := by rw [ha]; exact putSel_on (e := (7, 54, m7_)) 5 rfl rfl (hon 7 (by kernel_rfl)) rfl
      rw [Q_X7_ (hon 7 (by kernel_rfl))] at e54
      replace ha := Aside0.mk ha
      have HB := Aside0.mk Q_HB
      have RY := Aside0.mk (Q_RY (hon 6 (by kernel_rfl)))
      have RD := Aside0.mk (Q_RD (hon 6 (by kernel_rfl)))
      refine value_ (w1 := w') (v := vd) (by rfl) rfl ?_ ?_
      · go_simp
        (try simp only [i64_w])
        try rfl
      refine hK.out _ _ ⟨v56, v58, v60, vy, vd, g14, m6_, m7_, m8_, (vd), m11_, m13_, (by rw [ha.out]; exact putSel_upk 7 hb_ rfl rfl rfl), Q_HB, fun _ h1_ => absurd ((hon 3 (by kernel_rfl)).symm.trans h1_) (by decide), fun _ h1_ => absurd ((hon 5 (by kernel_rfl)).symm.trans h1_) (by decide), fun _ h1_ => absurd ((hon 6 (by kernel_rfl)).symm.trans h1_) (by decide), Q_RY, Q_RD, Q_BX, Q_BG, Q_BX2, Q_X6_, Q_X7_, Q_X8_, fun _ => rfl, Q_X11_, fun h0_ => absurd ((hoff 13 (by kernel_rfl)).symm.trans h0_) (by decide)⟩
    refine steps_cons ?_ ?_
    · rintro b a w' ⟨v56, v58, v60, vy, vd, g14, m6_, m7_, m8_, m9_, m11_, m13_, ha, Q_HB, Q_R56, Q_R58, Q_R60, Q_RY, Q_RD, Q_BX, Q_BG, Q_BX2, Q_X6_, Q_X7_, Q_X8_, Q_X9_, Q_X11_, Q_X13_⟩ hb_ hon hoff
      refine ⟨_, rfl, fun K hK => ?_⟩
      have e54 : a.tmps[54]? = some (m7_) := by rw [ha]; exact putSel_on (e := (7, 54, m7_)) 5 rfl rfl (hon 7 (by kernel_rfl)) rfl
      rw [Q_X7_ (hon 7 (by kernel_rfl))] at e54
      replace ha := Aside0.mk ha
      have HB := Aside0.mk Q_HB
      have RY := Aside0.mk (Q_RY (hon 6 (by kernel_rfl)))
      have RD := Aside0.mk (Q_RD (hon 6 (by kernel_rfl)))
      refine value_ (w1 := w') (v := .int .i64 0) (by rfl) rfl ?_ ?_
      · go_simp
        (try simp only [i64_w])
        try rfl
      refine hK.out _ _ ⟨v56, v58, v60, vy, vd, g14, m6_, m7_, m8_, m9_, m11_, m13_, (by rw [ha.out]; exact putSel_upk 8 hb_ rfl rfl rfl), Q_HB, fun _ h1_ => absurd ((hon 3 (by kernel_rfl)).symm.trans h1_) (by decide), fun _ h1_ => absurd ((hon 5 (by kernel_rfl)).symm.trans h1_) (by decide), fun _ h1_ => absurd ((hon 6 (by kernel_rfl)).symm.trans h1_) (by decide), Q_RY, Q_RD, Q_BX, Q_BG, Q_BX2, Q_X6_, Q_X7_, Q_X8_, Q_X9_, Q_X11_, Q_X13_⟩
    refine steps_cons ?_ ?_
    · rintro b a w' ⟨v56, v58, v60, vy, vd, g14, m6_, m7_, m8_, m9_, m11_, m13_, ha, Q_HB, Q_R56, Q_R58, Q_R60, Q_RY, Q_RD, Q_BX, Q_BG, Q_BX2, Q_X6_, Q_X7_, Q_X8_, Q_X9_, Q_X11_, Q_X13_⟩ hb_ hon hoff
      refine ⟨_, rfl, fun K hK => ?_⟩
      replace ha := Aside0.mk ha
      have HB := Aside0.mk Q_HB
      refine box_step (by rfl) (N := 14) rfl (cs := #[.int .i64 0, .slice none 0 0]) (t := 24) ?hr ?_
      case hr => first | (go_simp; done) | (go_simp; rfl)
      intro g_ hge w4_ hbox hbel
      refine hK.out _ _ ⟨v56, v58, v60, vy, vd, g_, m6_, m7_, m8_, m9_, (.pointer (some ⟨g_, 0, none⟩)), m13_, (by rw [ha.out]; exact putSel_upk 9 hb_ rfl rfl rfl), below_step HB.out hbel, fun h0_ h1_ => Kd.R_below (Q_R56 h0_ h1_) hbel, fun h0_ h1_ => Kd.R_below (Q_R58 h0_ h1_) hbel, fun h0_ h1_ => Kd.R_below (Q_R60 h0_ h1_) hbel, fun h0_ => (Q_RY h0_).go hbel, fun h0_ => (Q_RD h0_).go hbel, fun _ _ => hbox, fun _ => (by rw [hge]; exact HB.out.size), fun h0_ => absurd ((hoff 12 (by kernel_rfl)).symm.trans h0_) (by decide), Q_X6_, Q_X7_, Q_X8_, Q_X9_, fun _ => rfl, fun h0_ => absurd ((hoff 13 (by kernel_rfl)).symm.trans h0_) (by decide)⟩
    refine steps_cons ?_ ?_
    · rintro b a w' ⟨v56, v58, v60, vy, vd, g14, m6_, m7_, m8_, m9_, m11_, m13_, ha, Q_HB, Q_R56, Q_R58, Q_R60, Q_RY, Q_RD, Q_BX, Q_BG, Q_BX2, Q_X6_, Q_X7_, Q_X8_, Q_X9_, Q_X11_, Q_X13_⟩ hb_ hon hoff
      refine ⟨_, rfl, fun K hK => ?_⟩
      have e14 : a.tmps[14]? = some (m11_) := by rw [ha]; exact putSel_on (e := (11, 14, m11_)) 9 rfl rfl (hon 11 (by kernel_rfl)) rfl
      rw [Q_X11_ (hon 11 (by kernel_rfl))] at e14
      have e62 : a.tmps[62]? = some (m8_) := by rw [ha]; exact putSel_on (e := (8, 62, m8_)) 6 rfl rfl (hon 8 (by kernel_rfl)) rfl
      rw [Q_X8_ (hon 8 (by kernel_rfl))] at e62
      replace ha := Aside0.mk ha
      have HB := Aside0.mk Q_HB
      have RY := Aside0.mk (Q_RY (hon 6 (by kernel_rfl)))
      have RD := Aside0.mk (Q_RD (hon 6 (by kernel_rfl)))
      have BX := Aside0.mk (Q_BX (hon 11 (by kernel_rfl)) hb_)
      have BG := Aside0.mk (Q_BG (hon 11 (by kernel_rfl)))
      obtain ⟨B5, b5, ey_, hb5, hB5⟩ := RY.out
      subst ey_
      have hcp0 : w'.cell? ⟨g14, 0, none⟩ = some (.int .i64 0) := (blk_cell (show w'.heap[g14]? = some (.cells #[.int .i64 0, .slice none 0 0] 24 (0, 0)) from BX.out) 0).trans rfl
      have hfp0 := blk_frozen (show w'.heap[g14]? = some (.cells #[.int .i64 0, .slice none 0 0] 24 (0, 0)) from BX.out) 0
      have hcp1 : w'.cell? ⟨g14, 1, none⟩ = some (.slice none 0 0) := (blk_cell (show w'.heap[g14]? = some (.cells #[.int .i64 0, .slice none 0 0] 24 (0, 0)) from BX.out) 1).trans rfl
      have hfp1 := blk_frozen (show w'.heap[g14]? = some (.cells #[.int .i64 0, .slice none 0 0] 24 (0, 0)) from BX.out) 1
      have SS := sets2 BX.out (.int .i64 my) (.slice B5 y.length b5)
      refine skip_ (by rfl) rfl (w1 := ((w'.setCell ⟨g14, 0, none⟩ (.int .i64 my)).setCell ⟨g14, 1, none⟩ (.slice B5 y.length b5))) ?hr ?_
      case hr => first | (go_simp; done) | (go_simp; rfl)
      refine hK.out _ _ ⟨v56, v58, v60, (.slice B5 y.length b5), vd, g14, m6_, m7_, m8_, m9_, m11_, m13_, (by rw [ha.out]; exact putSel_none (v := undef) rfl), SS.below w9 HB.out BG.out, fun _ h1_ => absurd ((hon 3 (by kernel_rfl)).symm.trans h1_) (by decide), fun _ h1_ => absurd ((hon 5 (by kernel_rfl)).symm.trans h1_) (by decide), fun _ h1_ => absurd ((hon 6 (by kernel_rfl)).symm.trans h1_) (by decide), fun _ => ⟨B5, b5, rfl, hb5, C_sets hB5 BX.out SS⟩, fun _ => RD.out.sets BX.out SS, fun _ h1_ => absurd ((up_self b 12).symm.trans h1_) (by decide), Q_BG, fun _ => SS.box, Q_X6_, Q_X7_, Q_X8_, Q_X9_, Q_X11_, fun h0_ => absurd ((hoff 13 (by kernel_rfl)).symm.trans h0_) (by decide)⟩
    refine steps_cons ?_ ?_
    · rintro b a w' ⟨v56, v58, v60, vy, vd, g14, m6_, m7_, m8_, m9_, m11_, m13_, ha, Q_HB, Q_R56, Q_R58, Q_R60, Q_RY, Q_RD, Q_BX, Q_BG, Q_BX2, Q_X6_, Q_X7_, Q_X8_, Q_X9_, Q_X11_, Q_X13_⟩ hb_ hon hoff
      refine ⟨_, rfl, fun K hK => ?_⟩
      have e63 : a.tmps[63]? = some (m9_) := by rw [ha]; exact putSel_on (e := (9, 63, m9_)) 7 rfl rfl (hon 9 (by kernel_rfl)) rfl
      rw [Q_X9_ (hon 9 (by kernel_rfl))] at e63
      replace ha := Aside0.mk ha
      have HB := Aside0.mk Q_HB
      have RY := Aside0.mk (Q_RY (hon 6 (by kernel_rfl)))
      have RD := Aside0.mk (Q_RD (hon 6 (by kernel_rfl)))
      have BG := Aside0.mk (Q_BG (hon 11 (by kernel_rfl)))
      have BX2 := Aside0.mk (Q_BX2 (hon 12 (by kernel_rfl)))
      refine value_ (w1 := w') (v := vd) (by rfl) rfl ?_ ?_
      · go_simp
        (try simp only [i64_w])
        try rfl
      refine hK.out _ _ ⟨v56, v58, v60, vy, vd, g14, m6_, m7_, m8_, m9_, m11_, (vd), (by rw [ha.out]; exact putSel_upk 10 hb_ rfl rfl rfl), Q_HB, fun _ h1_ => absurd ((hon 3 (by kernel_rfl)).symm.trans h1_) (by decide), fun _ h1_ => absurd ((hon 5 (by kernel_rfl)).symm.trans h1_) (by decide), fun _ h1_ => absurd ((hon 6 (by kernel_rfl)).symm.trans h1_) (by decide), Q_RY, Q_RD, fun _ h1_ => absurd ((hon 12 (by kernel_rfl)).symm.trans h1_) (by decide), Q_BG, Q_BX2, Q_X6_, Q_X7_, Q_X8_, Q_X9_, Q_X11_, fun _ => rfl⟩
    refine steps_cons ?_ ?_
    · rintro b a w' ⟨v56, v58, v60, vy, vd, g14, m6_, m7_, m8_, m9_, m11_, m13_, ha, Q_HB, Q_R56, Q_R58, Q_R60, Q_RY, Q_RD, Q_BX, Q_BG, Q_BX2, Q_X6_, Q_X7_, Q_X8_, Q_X9_, Q_X11_, Q_X13_⟩ hb_ hon hoff
      refine ⟨_, rfl, fun K hK => ?_⟩
      have e64 : a.tmps[64]? = some (.int .i64 0) := by rw [ha]; exact putSel_on (e := (10, 64, .int .i64 0)) 8 rfl rfl (hon 10 (by kernel_rfl)) rfl
      replace ha := Aside0.mk ha
      have HB := Aside0.mk Q_HB
      have RY := Aside0.mk (Q_RY (hon 6 (by kernel_rfl)))
      have RD := Aside0.mk (Q_RD (hon 6 (by kernel_rfl)))
      have BG := Aside0.mk (Q_BG (hon 11 (by kernel_rfl)))
      have BX2 := Aside0.mk (Q_BX2 (hon 12 (by kernel_rfl)))
      refine value_ (w1 := w') (v := .int .i64 0) (by rfl) rfl ?_ ?_
      · go_simp
        (try simp only [i64_w])
        try rfl
      refine hK.out _ _ ⟨v56, v58, v60, vy, vd, g14, m6_, m7_, m8_, m9_, m11_, m13_, (by rw [ha.out]; exact putSel_upk 11 hb_ rfl rfl rfl), Q_HB, fun _ h1_ => absurd ((hon 3 (by kernel_rfl)).symm.trans h1_) (by decide), fun _ h1_ => absurd ((hon 5 (by kernel_rfl)).symm.trans h1_) (by decide), fun _ h1_ => absurd ((hon 6 (by kernel_rfl)).symm.trans h1_) (by decide), Q_RY, Q_RD, fun _ h1_ => absurd ((hon 12 (by kernel_rfl)).symm.trans h1_) (by decide), Q_BG, Q_BX2, Q_X6_, Q_X7_, Q_X8_, Q_X9_, Q_X11_, Q_X13_⟩
    exact steps_nil
  · rintro b a w' hall ⟨v56, v58, v60, vy, vd, g14, m6_, m7_, m8_, m9_, m11_, m13_, ha, Q_HB, Q_R56, Q_R58, Q_R60, Q_RY, Q_RD, Q_BX, Q_BG, Q_BX2, Q_X6_, Q_X7_, Q_X8_, Q_X9_, Q_X11_, Q_X13_⟩
    clear HB
    have hb0_ := hall 0 (by kernel_rfl)
    have hb1_ := hall 1 (by kernel_rfl)
    have hb3_ := hall 3 (by kernel_rfl)
    have hb5_ := hall 5 (by kernel_rfl)
    have hb6_ := hall 6 (by kernel_rfl)
    have hb7_ := hall 7 (by kernel_rfl)
    have hb8_ := hall 8 (by kernel_rfl)
    have hb9_ := hall 9 (by kernel_rfl)
    have hb10_ := hall 10 (by kernel_rfl)
    have hb11_ := hall 11 (by kernel_rfl)
    have hb12_ := hall 12 (by kernel_rfl)
    have hb13_ := hall 13 (by kernel_rfl)
    have hb14_ := hall 14 (by kernel_rfl)
    subst ha
    obtain rfl := Q_X6_ hb6_
    obtain rfl := Q_X7_ hb7_
    obtain rfl := Q_X8_ hb8_
    obtain rfl := Q_X9_ hb9_
    obtain rfl := Q_X11_ hb11_
    obtain rfl := Q_X13_ hb13_
    simp only [putSel, hb0_, hb1_, hb3_, hb5_, hb6_, hb7_, hb8_, hb9_, hb10_, hb11_, hb12_, hb13_, hb14_, if_true, Act.put, List.setIfInBounds_toArray, List.set_cons_zero, List.set_cons_succ]
    have HB := Aside0.mk Q_HB
    clear Q_HB
    clear Q_R56
    clear Q_R58
    clear Q_R60
    have RY := Aside0.mk (Q_RY hb6_)
    clear Q_RY
    have RD := Aside0.mk (Q_RD hb6_)
    clear Q_RD
    clear Q_BX
    have BG := Aside0.mk (Q_BG hb11_)
    clear Q_BG
    have BX2 := Aside0.mk (Q_BX2 hb12_)
    clear Q_BX2
    clear hall hb0_ hb1_ hb3_ hb5_ hb6_ hb7_ hb8_ hb9_ hb10_ hb11_ hb12_ hb13_ hb14_
    obtain ⟨B5, b5, e5_, hb5, hB5⟩ := RY.out
    subst e5_
    obtain ⟨D5, d5, e5_, hd5, hD5⟩ := RD.out
    subst e5_
    have HH9 := Aside0.mk ((((HH8.out.go HB.out).add (fun w_ => w_.heap[g14]? = some (.cells #[.int .i64 my, .slice B5 y.length b5] 24 (0, 0))) BX2.out (keeps_box _ _)).add (fun w_ => Kd.C k27 w_ B5 y.length y) hB5 (keeps_C k27 _ _)).add (fun w_ => Kd.C k27 w_ D5 all.length all) hD5 (keeps_C k27 _ _))
    clear HB RY RD BG BX2 HH8 hB5 hD5
    have hcq0 : w'.cell? ⟨g, 0, none⟩ = some (.int .i64 m) := (blk_cell (show w'.heap[g]? = some (.cells #[.int .i64 m, .slice A l.length c] 24 (0, 0)) from HH9.out.get 0 rfl) 0).trans rfl
    have hfq0 := blk_frozen (show w'.heap[g]? = some (.cells #[.int .i64 m, .slice A l.length c] 24 (0, 0)) from HH9.out.get 0 rfl) 0
    have hcq1 : w'.cell? ⟨g, 1, none⟩ = some (.slice A l.length c) := (blk_cell (show w'.heap[g]? = some (.cells #[.int .i64 m, .slice A l.length c] 24 (0, 0)) from HH9.out.get 0 rfl) 1).trans rfl
    have hfq1 := blk_frozen (show w'.heap[g]? = some (.cells #[.int .i64 m, .slice A l.length c] 24 (0, 0)) from HH9.out.get 0 rfl) 1
    go_upto_region 7 with (first | ((with_reducible refine gate_dst (N := 68) rfl ?_); (try (refine gate_guard (by rfl) ?_; dsimp only)); refine goesL_ (some 68) rfl rfl Try.func10 (by kernel_rfl) rfl #[.agg #[.int .i64 m, .slice A l.length c], .int .i64 at_] rfl (by (try simp only [List.map_toArray, List.map_cons, List.map_nil]); first | done | rfl | (simp only [List.length_drop, List.length_take]; rfl)) ?_; (with_reducible refine (get_c k m A c l at_ mz z i0 i1 i2 ok w' (Kd.C_below HC.out HH9.out.below) hc HP.out.get).mono ?_); rintro e w11 ⟨_, rfl, ⟨B6, b6, rfl, hb6, hB6⟩, hb⟩; refine ⟨_, rfl, ?_⟩; have HH11 := Aside0.mk ((HH9.out.go hb).add (fun w_ => Kd.C k27 w_ B6 z.length z) hB6 (keeps_C k27 _ _)); clear hb hB6) | ((with_reducible refine gate_dst (N := 17) rfl ?_); refine box_event ?hg (N := 17) ?hd (cs := #[.int .i64 0, .slice none 0 0]) (t := 24) ?hr ?_; (case hd => rfl); (case hg => rfl); (case hr => first | (go_simp; done) | (go_simp; rfl)); intro g17 hg w12 hbox hb; have BZ := Aside0.mk hbox; have GE := Aside0.mk (Nat.le_of_eq hg.symm : w11.heap.size ≤ g17); have BL := Aside0.mk hb; clear hbox hb hg) | ((with_reducible refine gate_dst (N := 18) rfl ?_); refine box_event ?hg (N := 18) ?hd (cs := #[.int .i64 0, .string (⟨#[]⟩ : ByteArray), .bool false]) (t := 27) ?hr ?_; (case hd => rfl); (case hg => rfl); (case hr => first | (go_simp; done) | (go_simp; rfl)); intro g18 hg w13 hbox hb; have BY := Aside0.mk (blk_below BZ.out hb); have BI := Aside0.mk hbox; have GI := Aside0.mk (Nat.le_of_eq hg.symm : w12.heap.size ≤ g18); have NE := Aside0.mk (Nat.ne_of_lt (Nat.lt_of_lt_of_le (blk_lt BZ.out) GI.out)); have BM := Aside0.mk (below_step BL.out hb); have GJ := Aside0.mk (Nat.le_trans BL.out.size GI.out); clear hbox hb hg; have hcr0 : w13.cell? ⟨g17, 0, none⟩ = some (.int .i64 0) := (blk_cell (show w13.heap[g17]? = some (.cells #[.int .i64 0, .slice none 0 0] 24 (0, 0)) from BY.out) 0).trans rfl; have hfr0 := blk_frozen (show w13.heap[g17]? = some (.cells #[.int .i64 0, .slice none 0 0] 24 (0, 0)) from BY.out) 0; have hcr1 : w13.cell? ⟨g17, 1, none⟩ = some (.slice none 0 0) := (blk_cell (show w13.heap[g17]? = some (.cells #[.int .i64 0, .slice none 0 0] 24 (0, 0)) from BY.out) 1).trans rfl; have hfr1 := blk_frozen (show w13.heap[g17]? = some (.cells #[.int .i64 0, .slice none 0 0] 24 (0, 0)) from BY.out) 1; have hcs0 : w13.cell? ⟨g18, 0, none⟩ = some (.int .i64 0) := (blk_cell (show w13.heap[g18]? = some (.cells #[.int .i64 0, .string (⟨#[]⟩ : ByteArray), .bool false] 27 (0, 0)) from BI.out) 0).trans rfl; have hfs0 := blk_frozen (show w13.heap[g18]? = some (.cells #[.int .i64 0, .string (⟨#[]⟩ : ByteArray), .bool false] 27 (0, 0)) from BI.out) 0; have hcs1 : w13.cell? ⟨g18, 1, none⟩ = some (.string (⟨#[]⟩ : ByteArray)) := (blk_cell (show w13.heap[g18]? = some (.cells #[.int .i64 0, .string (⟨#[]⟩ : ByteArray), .bool false] 27 (0, 0)) from BI.out) 1).trans rfl; have hfs1 := blk_frozen (show w13.heap[g18]? = some (.cells #[.int .i64 0, .string (⟨#[]⟩ : ByteArray), .bool false] 27 (0, 0)) from BI.out) 1; have hcs2 : w13.cell? ⟨g18, 2, none⟩ = some (.bool false) := (blk_cell (show w13.heap[g18]? = some (.cells #[.int .i64 0, .string (⟨#[]⟩ : ByteArray), .bool false] 27 (0, 0)) from BI.out) 2).trans rfl; have hfs2 := blk_frozen (show w13.heap[g18]? = some (.cells #[.int .i64 0, .string (⟨#[]⟩ : ByteArray), .bool false] 27 (0, 0)) from BI.out) 2; ) | ((with_reducible refine gate_store (t := 24) (p := 17) rfl ?_); refine store_event (t := 24) (p := 17) (v := ?vo_w14) (w1 := ((w13.setCell ⟨g17, 0, none⟩ (.int .i64 mz)).setCell ⟨g17, 1, none⟩ (.slice B6 z.length b6))) ?hg ?ho ?hn ?hr ?_; (case ho => rfl); (case hg => rfl); (case hn => rfl); (case hr => first | (go_simp; done) | (go_simp; rfl)); intro w14 hw; have SS : Sets w13 w14 g17 (.cells #[.int .i64 mz, .slice B6 z.length b6] 24 (0, 0)) := (by rw [hw]; exact sets2 BY.out _ _); have BY2 := Aside0.mk SS.box; have BI2 := Aside0.mk (box_sets BI.out SS NE.out.symm); have BM2 := Aside0.mk (SS.below w11 BM.out GE.out); clear SS hw; have hct0 : w14.cell? ⟨g18, 0, none⟩ = some (.int .i64 0) := (blk_cell (show w14.heap[g18]? = some (.cells #[.int .i64 0, .string (⟨#[]⟩ : ByteArray), .bool false] 27 (0, 0)) from BI2.out) 0).trans rfl; have hft0 := blk_frozen (show w14.heap[g18]? = some (.cells #[.int .i64 0, .string (⟨#[]⟩ : ByteArray), .bool false] 27 (0, 0)) from BI2.out) 0; have hct1 : w14.cell? ⟨g18, 1, none⟩ = some (.string (⟨#[]⟩ : ByteArray)) := (blk_cell (show w14.heap[g18]? = some (.cells #[.int .i64 0, .string (⟨#[]⟩ : ByteArray), .bool false] 27 (0, 0)) from BI2.out) 1).trans rfl; have hft1 := blk_frozen (show w14.heap[g18]? = some (.cells #[.int .i64 0, .string (⟨#[]⟩ : ByteArray), .bool false] 27 (0, 0)) from BI2.out) 1; have hct2 : w14.cell? ⟨g18, 2, none⟩ = some (.bool false) := (blk_cell (show w14.heap[g18]? = some (.cells #[.int .i64 0, .string (⟨#[]⟩ : ByteArray), .bool false] 27 (0, 0)) from BI2.out) 2).trans rfl; have hft2 := blk_frozen (show w14.heap[g18]? = some (.cells #[.int .i64 0, .string (⟨#[]⟩ : ByteArray), .bool false] 27 (0, 0)) from BI2.out) 2; ) | ((with_reducible refine gate_store (t := 27) (p := 18) rfl ?_); refine store_event (t := 27) (p := 18) (v := ?vo_w15) (w1 := (((w14.setCell ⟨g18, 0, none⟩ (.int .i64 i0)).setCell ⟨g18, 1, none⟩ (.string i1)).setCell ⟨g18, 2, none⟩ (.bool i2))) ?hg ?ho ?hn ?hr ?_; (case ho => rfl); (case hg => rfl); (case hn => rfl); (case hr => first | (go_simp; done) | (go_simp; rfl)); intro w15 hw; have SS : Sets w14 w15 g18 (.cells #[.int .i64 i0, .string i1, .bool i2] 27 (0, 0)) := (by rw [hw]; exact sets3 BI2.out _ _ _); have HH15 : Aside0 (Held w w15 [fun w_ => w_.heap[g]? = some (.cells #[.int .i64 m, .slice A l.length c] 24 (0, 0)), fun w_ => Kd.C k27 w_ D1 out.length out, fun w_ => Kd.C k27 w_ D2 more.length more, fun w_ => Kd.C k27 w_ B2 x2.length x2, fun w_ => w_.heap[g9]? = some (.cells #[.int .i64 m2, .slice B2 x2.length b2] 24 (0, 0)), fun w_ => w_.heap[g14]? = some (.cells #[.int .i64 my, .slice B5 y.length b5] 24 (0, 0)), fun w_ => Kd.C k27 w_ B5 y.length y, fun w_ => Kd.C k27 w_ D5 all.length all, fun w_ => Kd.C k27 w_ B6 z.length z, fun w_ => w_.heap[g17]? = some (.cells #[.int .i64 mz, .slice B6 z.length b6] 24 (0, 0)), fun w_ => w_.heap[g18]? = some (.cells #[.int .i64 i0, .string i1, .bool i2] 27 (0, 0))]) := Aside0.mk (((HH11.out.go (SS.below w11 BM2.out GJ.out)).add (fun w_ => w_.heap[g17]? = some (.cells #[.int .i64 mz, .slice B6 z.length b6] 24 (0, 0))) (box_sets BY2.out SS NE.out) (keeps_box _ _)).add (fun w_ => w_.heap[g18]? = some (.cells #[.int .i64 i0, .string i1, .bool i2] 27 (0, 0))) SS.box (keeps_box _ _)); clear SS hw))
    clear HH9 HH11 BZ GE BL BY BI GI NE BM GJ BY2 BI2 BM2
    go_cut [111] (fun v111 wc => v111 = .bool false ∧ Aside0 (Held w wc [fun w_ => w_.heap[g]? = some (.cells #[.int .i64 m, .slice A l.length c] 24 (0, 0)), fun w_ => Kd.C k27 w_ D1 out.length out, fun w_ => Kd.C k27 w_ D2 more.length more, fun w_ => Kd.C k27 w_ B2 x2.length x2, fun w_ => w_.heap[g9]? = some (.cells #[.int .i64 m2, .slice B2 x2.length b2] 24 (0, 0)), fun w_ => w_.heap[g14]? = some (.cells #[.int .i64 my, .slice B5 y.length b5] 24 (0, 0)), fun w_ => Kd.C k27 w_ B5 y.length y, fun w_ => Kd.C k27 w_ D5 all.length all, fun w_ => Kd.C k27 w_ B6 z.length z, fun w_ => w_.heap[g17]? = some (.cells #[.int .i64 mz, .slice B6 z.length b6] 24 (0, 0)), fun w_ => w_.heap[g18]? = some (.cells #[.int .i64 i0, .string i1, .bool i2] 27 (0, 0))]))
    case first =>
      cases ok
      case false =>
        obtain ⟨mc, rc, hmc, hsm⟩ := HP.out.miss rfl
        have HMC := Aside0.mk hmc
        have HSM := Aside0.mk hsm
        clear hmc hsm
        refine start_ (n := 40) (S := fun w' => True) (ds := []) #[false, false, false, false, false, false, false, false, false, false, false, false, false, false, false, false, false, false, false, false, false, false, false, false, false, false, false, false, false, false, false, false, false, false, false, false, false, false, false, false] (by kernel_rfl) rfl rfl trivial (fun hHeld => ?_); refine with_tabW CParts.tab7 CParts.bits7 (fun HT_ HW_ => ?_)
        replace HH15 := Aside0.mk HH15.out.drew
        generalize w15.drew = w16 at HH15 ⊢
        have HB := Aside0.mk (Below.refl w16.heap.size w16)
        refine inv_at [0, 1, 2, 3, 4, 5, 6, 7, 8, 9, 10, 11, 12, 13, 14, 15, 16, 17, 18, 19, 20, 21, 22, 23, 24, 25, 26, 27, 28, 29, 30, 31, 32, 33, 34, 35, 36, 37, 38, 39] (fun a0_ b a w' => ∃ (vr : Value) (m30_ : Value), a = putSel a0_ b [(0, 72, .bool false), (1, 73, .bool false), (2, 74, undef), (3, 75, undef), (4, 76, undef), (5, 77, undef), (6, 78, undef), (7, 79, undef), (8, 80, undef), (9, 81, undef), (10, 82, undef), (11, 83, undef), (12, 84, undef), (13, 85, undef), (14, 86, undef), (15, 87, undef), (16, 88, undef), (17, 89, undef), (18, 90, undef), (19, 91, undef), (20, 92, undef), (21, 93, undef), (22, 94, undef), (23, 95, .bool false), (24, 96, .bool false), (25, 97, .bool false), (26, 98, .bool true), (27, 99, .bool true), (28, 100, .agg #[.int .i64 mz, .slice B6 z.length b6]), (29, 101, .agg #[.int .i64 m, .slice A l.length c]), (30, 102, m30_), (31, 103, .bool true), (32, 104, .bool false), (33, 105, .bool false), (34, 106, .bool false), (35, 107, .bool false), (36, 108, .agg #[.int .i64 mz, .slice B6 z.length b6]), (37, 109, .bool true), (38, 110, .bool false), (39, 111, .bool false)] ∧ (Below w16.heap.size w16 w') ∧ (b 30 = true → b 31 = false → Kd.R k33 33 w' w16.heap.size (fun _ => True) vr rc) ∧ (b 30 = true → (m30_ : Value) = .agg #[.int .i64 mc, vr])) HT_.out HW_.out (by kernel_rfl) (by kernel_rfl) ?_ ?_ ?_
        · exact ⟨.bool false, .bool false, by simp only [putSel, Bool.false_eq_true, if_false], HB.out, fun h_ => absurd h_ (by decide), fun h_ => absurd h_ (by decide)⟩
        · skip
          clear HB
          refine steps_cons ?_ ?_
          · rintro b a w' ⟨vr, m30_, ha, Q_HB, Q_RR, Q_X30_⟩ hb_ hon hoff
            refine ⟨_, rfl, fun K hK => ?_⟩
            have e19 : a.tmps[19]? = some (.bool false) := by rw [ha]; exact (putSel_off rfl).trans rfl
            replace ha := Aside0.mk ha
            have HB := Aside0.mk Q_HB
            refine value_ (w1 := w') (v := .bool false) (by rfl) rfl ?_ ?_
            · go_simp
              (try simp only [i64_w])
              try rfl
            refine hK.out _ _ ⟨vr, m30_, (by rw [ha.out]; exact putSel_upk 0 hb_ rfl rfl rfl), Q_HB, fun h0_ _ => absurd ((hoff 30 (by kernel_rfl)).symm.trans h0_) (by decide), fun h0_ => absurd ((hoff 30 (by kernel_rfl)).symm.trans h0_) (by decide)⟩
          refine steps_cons ?_ ?_
          · rintro b a w' ⟨vr, m30_, ha, Q_HB, Q_RR, Q_X30_⟩ hb_ hon hoff
            refine ⟨_, rfl, fun K hK => ?_⟩
            have e72 : a.tmps[72]? = some (.bool false) := by rw [ha]; exact putSel_on (e := (0, 72, .bool false)) 0 rfl rfl (hon 0 (by kernel_rfl)) rfl
            replace ha := Aside0.mk ha
            have HB := Aside0.mk Q_HB
            refine value_ (w1 := w') (v := .bool false) (by rfl) rfl ?_ ?_
            · go_simp
              (try simp only [i64_w])
              try rfl
            refine hK.out _ _ ⟨vr, m30_, (by rw [ha.out]; exact putSel_upk 1 hb_ rfl rfl rfl), Q_HB, fun h0_ _ => absurd ((hoff 30 (by kernel_rfl)).symm.trans h0_) (by decide), fun h0_ => absurd ((hoff 30 (by kernel_rfl)).symm.trans h0_) (by decide)⟩
          refine steps_cons ?_ ?_
          · rintro b a w' ⟨vr, m30_, ha, Q_HB, Q_RR, Q_X30_⟩ hb_ hon hoff
            refine ⟨_, rfl, fun K hK => ?_⟩
            have e73 : a.tmps[73]? = some (.bool false) := by rw [ha]; exact putSel_on (e := (1, 73, .bool false)) 1 rfl rfl (hon 1 (by kernel_rfl)) rfl
            replace ha := Aside0.mk ha
            have HB := Aside0.mk Q_HB
            refine off_ (wanted_off rfl rfl rfl (e73.trans (by first | rfl | (simp [*]; done)))) ?_
            refine hK.out _ _ ⟨vr, m30_, (by rw [ha.out]; exact putSel_upk 2 hb_ rfl rfl rfl), Q_HB, fun h0_ _ => absurd ((hoff 30 (by kernel_rfl)).symm.trans h0_) (by decide), fun h0_ => absurd ((hoff 30 (by kernel_rfl)).symm.trans h0_) (by decide)⟩
          refine steps_cons ?_ ?_
          · rintro b a w' ⟨vr, m30_, ha, Q_HB, Q_RR, Q_X30_⟩ hb_ hon hoff
            refine ⟨_, rfl, fun K hK => ?_⟩
            have e73 : a.tmps[73]? = some (.bool false) := by rw [ha]; exact putSel_on (e := (1, 73, .bool false)) 1 rfl rfl (hon 1 (by kernel_rfl)) rfl
            replace ha := Aside0.mk ha
            have HB := Aside0.mk Q_HB
            refine off_ (wanted_off rfl rfl rfl (e73.trans (by first | rfl | (simp [*]; done)))) ?_
            refine hK.out _ _ ⟨vr, m30_, (by rw [ha.out]; exact putSel_upk 3 hb_ rfl rfl rfl), Q_HB, fun h0_ _ => absurd ((hoff 30 (by kernel_rfl)).symm.trans h0_) (by decide), fun h0_ => absurd ((hoff 30 (by kernel_rfl)).symm.trans h0_) (by decide)⟩
          refine steps_cons ?_ ?_
          · rintro b a w' ⟨vr, m30_, ha, Q_HB, Q_RR, Q_X30_⟩ hb_ hon hoff
            refine ⟨_, rfl, fun K hK => ?_⟩
            have e73 : a.tmps[73]? = some (.bool false) := by rw [ha]; exact putSel_on (e := (1, 73, .bool false)) 1 rfl rfl (hon 1 (by kernel_rfl)) rfl
            replace ha := Aside0.mk ha
            have HB := Aside0.mk Q_HB
            refine off_ (wanted_off rfl rfl rfl (e73.trans (by first | rfl | (simp [*]; done)))) ?_
            refine hK.out _ _ ⟨vr, m30_, (by rw [ha.out]; exact putSel_upk 4 hb_ rfl rfl rfl), Q_HB, fun h0_ _ => absurd ((hoff 30 (by kernel_rfl)).symm.trans h0_) (by decide), fun h0_ => absurd ((hoff 30 (by kernel_rfl)).symm.trans h0_) (by decide)⟩
          refine steps_cons ?_ ?_
          · rintro b a w' ⟨vr, m30_, ha, Q_HB, Q_RR, Q_X30_⟩ hb_ hon hoff
            refine ⟨_, rfl, fun K hK => ?_⟩
            have e73 : a.tmps[73]? = some (.bool false) := by rw [ha]; exact putSel_on (e := (1, 73, .bool false)) 1 rfl rfl (hon 1 (by kernel_rfl)) rfl
            replace ha := Aside0.mk ha
            have HB := Aside0.mk Q_HB
            refine off_ (wanted_off rfl rfl rfl (e73.trans (by first | rfl | (simp [*]; done)))) ?_
            refine hK.out _ _ ⟨vr, m30_, (by rw [ha.out]; exact putSel_upk 5 hb_ rfl rfl rfl), Q_HB, fun h0_ _ => absurd ((hoff 30 (by kernel_rfl)).symm.trans h0_) (by decide), fun h0_ => absurd ((hoff 30 (by kernel_rfl)).symm.trans h0_) (by decide)⟩
          refine steps_cons ?_ ?_
          · rintro b a w' ⟨vr, m30_, ha, Q_HB, Q_RR, Q_X30_⟩ hb_ hon hoff
            refine ⟨_, rfl, fun K hK => ?_⟩
            have e73 : a.tmps[73]? = some (.bool false) := by rw [ha]; exact putSel_on (e := (1, 73, .bool false)) 1 rfl rfl (hon 1 (by kernel_rfl)) rfl
            replace ha := Aside0.mk ha
            have HB := Aside0.mk Q_HB
            refine off_ (wanted_off rfl rfl rfl (e73.trans (by first | rfl | (simp [*]; done)))) ?_
            refine hK.out _ _ ⟨vr, m30_, (by rw [ha.out]; exact putSel_upk 6 hb_ rfl rfl rfl), Q_HB, fun h0_ _ => absurd ((hoff 30 (by kernel_rfl)).symm.trans h0_) (by decide), fun h0_ => absurd ((hoff 30 (by kernel_rfl)).symm.trans h0_) (by decide)⟩
          refine steps_cons ?_ ?_
          · rintro b a w' ⟨vr, m30_, ha, Q_HB, Q_RR, Q_X30_⟩ hb_ hon hoff
            refine ⟨_, rfl, fun K hK => ?_⟩
            have e73 : a.tmps[73]? = some (.bool false) := by rw [ha]; exact putSel_on (e := (1, 73, .bool false)) 1 rfl rfl (hon 1 (by kernel_rfl)) rfl
            replace ha := Aside0.mk ha
            have HB := Aside0.mk Q_HB
            refine off_ (wanted_off rfl rfl rfl (e73.trans (by first | rfl | (simp [*]; done)))) ?_
            refine hK.out _ _ ⟨vr, m30_, (by rw [ha.out]; exact putSel_upk 7 hb_ rfl rfl rfl), Q_HB, fun h0_ _ => absurd ((hoff 30 (by kernel_rfl)).symm.trans h0_) (by decide), fun h0_ => absurd ((hoff 30 (by kernel_rfl)).symm.trans h0_) (by decide)⟩
          refine steps_cons ?_ ?_
          · rintro b a w' ⟨vr, m30_, ha, Q_HB, Q_RR, Q_X30_⟩ hb_ hon hoff
            refine ⟨_, rfl, fun K hK => ?_⟩
            have e73 : a.tmps[73]? = some (.bool false) := by rw [ha]; exact putSel_on (e := (1, 73, .bool false)) 1 rfl rfl (hon 1 (by kernel_rfl)) rfl
            replace ha := Aside0.mk ha
            have HB := Aside0.mk Q_HB
            refine off_ (wanted_off rfl rfl rfl (e73.trans (by first | rfl | (simp [*]; done)))) ?_
            refine hK.out _ _ ⟨vr, m30_, (by rw [ha.out]; exact putSel_upk 8 hb_ rfl rfl rfl), Q_HB, fun h0_ _ => absurd ((hoff 30 (by kernel_rfl)).symm.trans h0_) (by decide), fun h0_ => absurd ((hoff 30 (by kernel_rfl)).symm.trans h0_) (by decide)⟩
          refine steps_cons ?_ ?_
          · rintro b a w' ⟨vr, m30_, ha, Q_HB, Q_RR, Q_X30_⟩ hb_ hon hoff
            refine ⟨_, rfl, fun K hK => ?_⟩
            have e73 : a.tmps[73]? = some (.bool false) := by rw [ha]; exact putSel_on (e := (1, 73, .bool false)) 1 rfl rfl (hon 1 (by kernel_rfl)) rfl
            replace ha := Aside0.mk ha
            have HB := Aside0.mk Q_HB
            refine off_ (wanted_off rfl rfl rfl (e73.trans (by first | rfl | (simp [*]; done)))) ?_
            refine hK.out _ _ ⟨vr, m30_, (by rw [ha.out]; exact putSel_upk 9 hb_ rfl rfl rfl), Q_HB, fun h0_ _ => absurd ((hoff 30 (by kernel_rfl)).symm.trans h0_) (by decide), fun h0_ => absurd ((hoff 30 (by kernel_rfl)).symm.trans h0_) (by decide)⟩
          refine steps_cons ?_ ?_
          · rintro b a w' ⟨vr, m30_, ha, Q_HB, Q_RR, Q_X30_⟩ hb_ hon hoff
            refine ⟨_, rfl, fun K hK => ?_⟩
            have e81 : a.tmps[81]? = some (undef) := by rw [ha]; exact putSel_on (e := (9, 81, undef)) 9 rfl rfl (hon 9 (by kernel_rfl)) rfl
            replace ha := Aside0.mk ha
            have HB := Aside0.mk Q_HB
            refine off_ (wanted_undef rfl rfl rfl (e81.trans (by first | rfl | (simp [*]; done)))) ?_
            refine hK.out _ _ ⟨vr, m30_, (by rw [ha.out]; exact putSel_upk 10 hb_ rfl rfl rfl), Q_HB, fun h0_ _ => absurd ((hoff 30 (by kernel_rfl)).symm.trans h0_) (by decide), fun h0_ => absurd ((hoff 30 (by kernel_rfl)).symm.trans h0_) (by decide)⟩
          refine steps_cons ?_ ?_
          · rintro b a w' ⟨vr, m30_, ha, Q_HB, Q_RR, Q_X30_⟩ hb_ hon hoff
            refine ⟨_, rfl, fun K hK => ?_⟩
            have e81 : a.tmps[81]? = some (undef) := by rw [ha]; exact putSel_on (e := (9, 81, undef)) 9 rfl rfl (hon 9 (by kernel_rfl)) rfl
            replace ha := Aside0.mk ha
            have HB := Aside0.mk Q_HB
            refine off_ (wanted_undef rfl rfl rfl (e81.trans (by first | rfl | (simp [*]; done)))) ?_
            refine hK.out _ _ ⟨vr, m30_, (by rw [ha.out]; exact putSel_upk 11 hb_ rfl rfl rfl), Q_HB, fun h0_ _ => absurd ((hoff 30 (by kernel_rfl)).symm.trans h0_) (by decide), fun h0_ => absurd ((hoff 30 (by kernel_rfl)).symm.trans h0_) (by decide)⟩
          refine steps_cons ?_ ?_
          · rintro b a w' ⟨vr, m30_, ha, Q_HB, Q_RR, Q_X30_⟩ hb_ hon hoff
            refine ⟨_, rfl, fun K hK => ?_⟩
            have e81 : a.tmps[81]? = some (undef) := by rw [ha]; exact putSel_on (e := (9, 81, undef)) 9 rfl rfl (hon 9 (by kernel_rfl)) rfl
            replace ha := Aside0.mk ha
            have HB := Aside0.mk Q_HB
            refine off_ (wanted_undef rfl rfl rfl (e81.trans (by first | rfl | (simp [*]; done)))) ?_
            refine hK.out _ _ ⟨vr, m30_, (by rw [ha.out]; exact putSel_upk 12 hb_ rfl rfl rfl), Q_HB, fun h0_ _ => absurd ((hoff 30 (by kernel_rfl)).symm.trans h0_) (by decide), fun h0_ => absurd ((hoff 30 (by kernel_rfl)).symm.trans h0_) (by decide)⟩
          refine steps_cons ?_ ?_
          · rintro b a w' ⟨vr, m30_, ha, Q_HB, Q_RR, Q_X30_⟩ hb_ hon hoff
            refine ⟨_, rfl, fun K hK => ?_⟩
            have e81 : a.tmps[81]? = some (undef) := by rw [ha]; exact putSel_on (e := (9, 81, undef)) 9 rfl rfl (hon 9 (by kernel_rfl)) rfl
            replace ha := Aside0.mk ha
            have HB := Aside0.mk Q_HB
            refine off_ (wanted_undef rfl rfl rfl (e81.trans (by first | rfl | (simp [*]; done)))) ?_
            refine hK.out _ _ ⟨vr, m30_, (by rw [ha.out]; exact putSel_upk 13 hb_ rfl rfl rfl), Q_HB, fun h0_ _ => absurd ((hoff 30 (by kernel_rfl)).symm.trans h0_) (by decide), fun h0_ => absurd ((hoff 30 (by kernel_rfl)).symm.trans h0_) (by decide)⟩
          refine steps_cons ?_ ?_
          · rintro b a w' ⟨vr, m30_, ha, Q_HB, Q_RR, Q_X30_⟩ hb_ hon hoff
            refine ⟨_, rfl, fun K hK => ?_⟩
            have e81 : a.tmps[81]? = some (undef) := by rw [ha]; exact putSel_on (e := (9, 81, undef)) 9 rfl rfl (hon 9 (by kernel_rfl)) rfl
            replace ha := Aside0.mk ha
            have HB := Aside0.mk Q_HB
            refine off_ (wanted_undef rfl rfl rfl (e81.trans (by first | rfl | (simp [*]; done)))) ?_
            refine hK.out _ _ ⟨vr, m30_, (by rw [ha.out]; exact putSel_upk 14 hb_ rfl rfl rfl), Q_HB, fun h0_ _ => absurd ((hoff 30 (by kernel_rfl)).symm.trans h0_) (by decide), fun h0_ => absurd ((hoff 30 (by kernel_rfl)).symm.trans h0_) (by decide)⟩
          refine steps_cons ?_ ?_
          · rintro b a w' ⟨vr, m30_, ha, Q_HB, Q_RR, Q_X30_⟩ hb_ hon hoff
            refine ⟨_, rfl, fun K hK => ?_⟩
            have e81 : a.tmps[81]? = some (undef) := by rw [ha]; exact putSel_on (e := (9, 81, undef)) 9 rfl rfl (hon 9 (by kernel_rfl)) rfl
            replace ha := Aside0.mk ha
            have HB := Aside0.mk Q_HB
            refine off_ (wanted_undef rfl rfl rfl (e81.trans (by first | rfl | (simp [*]; done)))) ?_
            refine hK.out _ _ ⟨vr, m30_, (by rw [ha.out]; exact putSel_upk 15 hb_ rfl rfl rfl), Q_HB, fun h0_ _ => absurd ((hoff 30 (by kernel_rfl)).symm.trans h0_) (by decide), fun h0_ => absurd ((hoff 30 (by kernel_rfl)).symm.trans h0_) (by decide)⟩
          refine steps_cons ?_ ?_
          · rintro b a w' ⟨vr, m30_, ha, Q_HB, Q_RR, Q_X30_⟩ hb_ hon hoff
            refine ⟨_, rfl, fun K hK => ?_⟩
            have e73 : a.tmps[73]? = some (.bool false) := by rw [ha]; exact putSel_on (e := (1, 73, .bool false)) 1 rfl rfl (hon 1 (by kernel_rfl)) rfl
            replace ha := Aside0.mk ha
            have HB := Aside0.mk Q_HB
            refine off_ (wanted_off rfl rfl rfl (e73.trans (by first | rfl | (simp [*]; done)))) ?_
            refine hK.out _ _ ⟨vr, m30_, (by rw [ha.out]; exact putSel_upk 16 hb_ rfl rfl rfl), Q_HB, fun h0_ _ => absurd ((hoff 30 (by kernel_rfl)).symm.trans h0_) (by decide), fun h0_ => absurd ((hoff 30 (by kernel_rfl)).symm.trans h0_) (by decide)⟩
          refine steps_cons ?_ ?_
          · rintro b a w' ⟨vr, m30_, ha, Q_HB, Q_RR, Q_X30_⟩ hb_ hon hoff
            refine ⟨_, rfl, fun K hK => ?_⟩
            have e73 : a.tmps[73]? = some (.bool false) := by rw [ha]; exact putSel_on (e := (1, 73, .bool false)) 1 rfl rfl (hon 1 (by kernel_rfl)) rfl
            replace ha := Aside0.mk ha
            have HB := Aside0.mk Q_HB
            refine off_ (wanted_off rfl rfl rfl (e73.trans (by first | rfl | (simp [*]; done)))) ?_
            refine hK.out _ _ ⟨vr, m30_, (by rw [ha.out]; exact putSel_upk 17 hb_ rfl rfl rfl), Q_HB, fun h0_ _ => absurd ((hoff 30 (by kernel_rfl)).symm.trans h0_) (by decide), fun h0_ => absurd ((hoff 30 (by kernel_rfl)).symm.trans h0_) (by decide)⟩
          refine steps_cons ?_ ?_
          · rintro b a w' ⟨vr, m30_, ha, Q_HB, Q_RR, Q_X30_⟩ hb_ hon hoff
            refine ⟨_, rfl, fun K hK => ?_⟩
            have e89 : a.tmps[89]? = some (undef) := by rw [ha]; exact putSel_on (e := (17, 89, undef)) 17 rfl rfl (hon 17 (by kernel_rfl)) rfl
            replace ha := Aside0.mk ha
            have HB := Aside0.mk Q_HB
            refine off_ (wanted_undef rfl rfl rfl (e89.trans (by first | rfl | (simp [*]; done)))) ?_
            refine hK.out _ _ ⟨vr, m30_, (by rw [ha.out]; exact putSel_upk 18 hb_ rfl rfl rfl), Q_HB, fun h0_ _ => absurd ((hoff 30 (by kernel_rfl)).symm.trans h0_) (by decide), fun h0_ => absurd ((hoff 30 (by kernel_rfl)).symm.trans h0_) (by decide)⟩
          refine steps_cons ?_ ?_
          · rintro b a w' ⟨vr, m30_, ha, Q_HB, Q_RR, Q_X30_⟩ hb_ hon hoff
            refine ⟨_, rfl, fun K hK => ?_⟩
            have e89 : a.tmps[89]? = some (undef) := by rw [ha]; exact putSel_on (e := (17, 89, undef)) 17 rfl rfl (hon 17 (by kernel_rfl)) rfl
            replace ha := Aside0.mk ha
            have HB := Aside0.mk Q_HB
            refine off_ (wanted_undef rfl rfl rfl (e89.trans (by first | rfl | (simp [*]; done)))) ?_
            refine hK.out _ _ ⟨vr, m30_, (by rw [ha.out]; exact putSel_upk 19 hb_ rfl rfl rfl), Q_HB, fun h0_ _ => absurd ((hoff 30 (by kernel_rfl)).symm.trans h0_) (by decide), fun h0_ => absurd ((hoff 30 (by kernel_rfl)).symm.trans h0_) (by decide)⟩
          refine steps_cons ?_ ?_
          · rintro b a w' ⟨vr, m30_, ha, Q_HB, Q_RR, Q_X30_⟩ hb_ hon hoff
            refine ⟨_, rfl, fun K hK => ?_⟩
            have e89 : a.tmps[89]? = some (undef) := by rw [ha]; exact putSel_on (e := (17, 89, undef)) 17 rfl rfl (hon 17 (by kernel_rfl)) rfl
            replace ha := Aside0.mk ha
            have HB := Aside0.mk Q_HB
            refine off_ (wanted_undef rfl rfl rfl (e89.trans (by first | rfl | (simp [*]; done)))) ?_
            refine hK.out _ _ ⟨vr, m30_, (by rw [ha.out]; exact putSel_upk 20 hb_ rfl rfl rfl), Q_HB, fun h0_ _ => absurd ((hoff 30 (by kernel_rfl)).symm.trans h0_) (by decide), fun h0_ => absurd ((hoff 30 (by kernel_rfl)).symm.trans h0_) (by decide)⟩
          refine steps_cons ?_ ?_
          · rintro b a w' ⟨vr, m30_, ha, Q_HB, Q_RR, Q_X30_⟩ hb_ hon hoff
            refine ⟨_, rfl, fun K hK => ?_⟩
            have e89 : a.tmps[89]? = some (undef) := by rw [ha]; exact putSel_on (e := (17, 89, undef)) 17 rfl rfl (hon 17 (by kernel_rfl)) rfl
            replace ha := Aside0.mk ha
            have HB := Aside0.mk Q_HB
            refine off_ (wanted_undef rfl rfl rfl (e89.trans (by first | rfl | (simp [*]; done)))) ?_
            refine hK.out _ _ ⟨vr, m30_, (by rw [ha.out]; exact putSel_upk 21 hb_ rfl rfl rfl), Q_HB, fun h0_ _ => absurd ((hoff 30 (by kernel_rfl)).symm.trans h0_) (by decide), fun h0_ => absurd ((hoff 30 (by kernel_rfl)).symm.trans h0_) (by decide)⟩
          refine steps_cons ?_ ?_
          · rintro b a w' ⟨vr, m30_, ha, Q_HB, Q_RR, Q_X30_⟩ hb_ hon hoff
            refine ⟨_, rfl, fun K hK => ?_⟩
            have e73 : a.tmps[73]? = some (.bool false) := by rw [ha]; exact putSel_on (e := (1, 73, .bool false)) 1 rfl rfl (hon 1 (by kernel_rfl)) rfl
            replace ha := Aside0.mk ha
            have HB := Aside0.mk Q_HB
            refine off_ (wanted_off rfl rfl rfl (e73.trans (by first | rfl | (simp [*]; done)))) ?_
            refine hK.out _ _ ⟨vr, m30_, (by rw [ha.out]; exact putSel_upk 22 hb_ rfl rfl rfl), Q_HB, fun h0_ _ => absurd ((hoff 30 (by kernel_rfl)).symm.trans h0_) (by decide), fun h0_ => absurd ((hoff 30 (by kernel_rfl)).symm.trans h0_) (by decide)⟩
          refine steps_cons ?_ ?_
          · rintro b a w' ⟨vr, m30_, ha, Q_HB, Q_RR, Q_X30_⟩ hb_ hon hoff
            refine ⟨_, rfl, fun K hK => ?_⟩
            have e73 : a.tmps[73]? = some (.bool false) := by rw [ha]; exact putSel_on (e := (1, 73, .bool false)) 1 rfl rfl (hon 1 (by kernel_rfl)) rfl
            have e94 : a.tmps[94]? = some (undef) := by rw [ha]; exact putSel_on (e := (22, 94, undef)) 22 rfl rfl (hon 22 (by kernel_rfl)) rfl
            replace ha := Aside0.mk ha
            have HB := Aside0.mk Q_HB
            refine value_ (w1 := w') (v := .bool false) (by rfl) rfl ?_ ?_
            · go_simp
              (try simp only [i64_w])
              try rfl
            refine hK.out _ _ ⟨vr, m30_, (by rw [ha.out]; exact putSel_upk 23 hb_ rfl rfl rfl), Q_HB, fun h0_ _ => absurd ((hoff 30 (by kernel_rfl)).symm.trans h0_) (by decide), fun h0_ => absurd ((hoff 30 (by kernel_rfl)).symm.trans h0_) (by decide)⟩
          refine steps_cons ?_ ?_
          · rintro b a w' ⟨vr, m30_, ha, Q_HB, Q_RR, Q_X30_⟩ hb_ hon hoff
            refine ⟨_, rfl, fun K hK => ?_⟩
            have e95 : a.tmps[95]? = some (.bool false) := by rw [ha]; exact putSel_on (e := (23, 95, .bool false)) 23 rfl rfl (hon 23 (by kernel_rfl)) rfl
            replace ha := Aside0.mk ha
            have HB := Aside0.mk Q_HB
            refine value_ (w1 := w') (v := .bool false) (by rfl) rfl ?_ ?_
            · go_simp
              (try simp only [i64_w])
              try rfl
            refine hK.out _ _ ⟨vr, m30_, (by rw [ha.out]; exact putSel_upk 24 hb_ rfl rfl rfl), Q_HB, fun h0_ _ => absurd ((hoff 30 (by kernel_rfl)).symm.trans h0_) (by decide), fun h0_ => absurd ((hoff 30 (by kernel_rfl)).symm.trans h0_) (by decide)⟩
          refine steps_cons ?_ ?_
          · rintro b a w' ⟨vr, m30_, ha, Q_HB, Q_RR, Q_X30_⟩ hb_ hon hoff
            refine ⟨_, rfl, fun K hK => ?_⟩
            have e19 : a.tmps[19]? = some (.bool false) := by rw [ha]; exact (putSel_off rfl).trans rfl
            have e96 : a.tmps[96]? = some (.bool false) := by rw [ha]; exact putSel_on (e := (24, 96, .bool false)) 24 rfl rfl (hon 24 (by kernel_rfl)) rfl
            replace ha := Aside0.mk ha
            have HB := Aside0.mk Q_HB
            refine value_ (w1 := w') (v := .bool false) (wanted_on rfl rfl rfl (e96.trans (by first | rfl | (simp [*]; done)))) rfl ?_ ?_
            · go_simp
              (try simp only [i64_w])
              try rfl
            refine hK.out _ _ ⟨vr, m30_, (by rw [ha.out]; exact putSel_upk 25 hb_ rfl rfl rfl), Q_HB, fun h0_ _ => absurd ((hoff 30 (by kernel_rfl)).symm.trans h0_) (by decide), fun h0_ => absurd ((hoff 30 (by kernel_rfl)).symm.trans h0_) (by decide)⟩
          refine steps_cons ?_ ?_
          · rintro b a w' ⟨vr, m30_, ha, Q_HB, Q_RR, Q_X30_⟩ hb_ hon hoff
            refine ⟨_, rfl, fun K hK => ?_⟩
            have e97 : a.tmps[97]? = some (.bool false) := by rw [ha]; exact putSel_on (e := (25, 97, .bool false)) 25 rfl rfl (hon 25 (by kernel_rfl)) rfl
            have e96 : a.tmps[96]? = some (.bool false) := by rw [ha]; exact putSel_on (e := (24, 96, .bool false)) 24 rfl rfl (hon 24 (by kernel_rfl)) rfl
            replace ha := Aside0.mk ha
            have HB := Aside0.mk Q_HB
            refine value_ (w1 := w') (v := .bool true) (wanted_on rfl rfl rfl (e96.trans (by first | rfl | (simp [*]; done)))) rfl ?_ ?_
            · go_simp
              (try simp only [i64_w])
              try rfl
            refine hK.out _ _ ⟨vr, m30_, (by rw [ha.out]; exact putSel_upk 26 hb_ rfl rfl rfl), Q_HB, fun h0_ _ => absurd ((hoff 30 (by kernel_rfl)).symm.trans h0_) (by decide), fun h0_ => absurd ((hoff 30 (by kernel_rfl)).symm.trans h0_) (by decide)⟩
          refine steps_cons ?_ ?_
          · rintro b a w' ⟨vr, m30_, ha, Q_HB, Q_RR, Q_X30_⟩ hb_ hon hoff
            refine ⟨_, rfl, fun K hK => ?_⟩
            have e98 : a.tmps[98]? = some (.bool true) := by rw [ha]; exact putSel_on (e := (26, 98, .bool true)) 26 rfl rfl (hon 26 (by kernel_rfl)) rfl
            have e96 : a.tmps[96]? = some (.bool false) := by rw [ha]; exact putSel_on (e := (24, 96, .bool false)) 24 rfl rfl (hon 24 (by kernel_rfl)) rfl
            replace ha := Aside0.mk ha
            have HB := Aside0.mk Q_HB
            refine value_ (w1 := w') (v := .bool true) (wanted_on rfl rfl rfl (e96.trans (by first | rfl | (simp [*]; done)))) rfl ?_ ?_
            · go_simp
              (try simp only [i64_w])
              try rfl
            refine hK.out _ _ ⟨vr, m30_, (by rw [ha.out]; exact putSel_upk 27 hb_ rfl rfl rfl), Q_HB, fun h0_ _ => absurd ((hoff 30 (by kernel_rfl)).symm.trans h0_) (by decide), fun h0_ => absurd ((hoff 30 (by kernel_rfl)).symm.trans h0_) (by decide)⟩
          refine steps_cons ?_ ?_
          · rintro b a w' ⟨vr, m30_, ha, Q_HB, Q_RR, Q_X30_⟩ hb_ hon hoff
            refine ⟨_, rfl, fun K hK => ?_⟩
            have e17 : a.tmps[17]? = some (.pointer (some ⟨g17, 0, none⟩)) := by rw [ha]; exact (putSel_off rfl).trans rfl
            have e99 : a.tmps[99]? = some (.bool true) := by rw [ha]; exact putSel_on (e := (27, 99, .bool true)) 27 rfl rfl (hon 27 (by kernel_rfl)) rfl
            replace ha := Aside0.mk ha
            have HB := Aside0.mk Q_HB
            have hcp0 : w'.cell? ⟨g17, 0, none⟩ = some (.int .i64 mz) := (blk_cell (show w'.heap[g17]? = some (.cells #[.int .i64 mz, .slice B6 z.length b6] 24 (0, 0)) from (HH15.out.go HB.out).get 9 rfl) 0).trans rfl
            have hfp0 := blk_frozen (show w'.heap[g17]? = some (.cells #[.int .i64 mz, .slice B6 z.length b6] 24 (0, 0)) from (HH15.out.go HB.out).get 9 rfl) 0
            have hcp1 : w'.cell? ⟨g17, 1, none⟩ = some (.slice B6 z.length b6) := (blk_cell (show w'.heap[g17]? = some (.cells #[.int .i64 mz, .slice B6 z.length b6] 24 (0, 0)) from (HH15.out.go HB.out).get 9 rfl) 1).trans rfl
            have hfp1 := blk_frozen (show w'.heap[g17]? = some (.cells #[.int .i64 mz, .slice B6 z.length b6] 24 (0, 0)) from (HH15.out.go HB.out).get 9 rfl) 1
            refine value_ (w1 := w') (v := .agg #[.int .i64 mz, .slice B6 z.length b6]) (wanted_on rfl rfl rfl (e99.trans (by first | rfl | (simp [*]; done)))) rfl ?_ ?_
            · go_simp
              (try simp only [i64_w])
              try rfl
            refine hK.out _ _ ⟨vr, m30_, (by rw [ha.out]; exact putSel_upk 28 hb_ rfl rfl rfl), Q_HB, Q_RR, Q_X30_⟩
          refine steps_cons ?_ ?_
          · rintro b a w' ⟨vr, m30_, ha, Q_HB, Q_RR, Q_X30_⟩ hb_ hon hoff
            refine ⟨_, rfl, fun K hK => ?_⟩
            have e4 : a.tmps[4]? = some (.pointer (some ⟨g, 0, none⟩)) := by rw [ha]; exact (putSel_off rfl).trans rfl
            have e99 : a.tmps[99]? = some (.bool true) := by rw [ha]; exact putSel_on (e := (27, 99, .bool true)) 27 rfl rfl (hon 27 (by kernel_rfl)) rfl
            replace ha := Aside0.mk ha
            have HB := Aside0.mk Q_HB
            have hcp0 : w'.cell? ⟨g, 0, none⟩ = some (.int .i64 m) := (blk_cell (show w'.heap[g]? = some (.cells #[.int .i64 m, .slice A l.length c] 24 (0, 0)) from (HH15.out.go HB.out).get 0 rfl) 0).trans rfl
            have hfp0 := blk_frozen (show w'.heap[g]? = some (.cells #[.int .i64 m, .slice A l.length c] 24 (0, 0)) from (HH15.out.go HB.out).get 0 rfl) 0
            have hcp1 : w'.cell? ⟨g, 1, none⟩ = some (.slice A l.length c) := (blk_cell (show w'.heap[g]? = some (.cells #[.int .i64 m, .slice A l.length c] 24 (0, 0)) from (HH15.out.go HB.out).get 0 rfl) 1).trans rfl
            have hfp1 := blk_frozen (show w'.heap[g]? = some (.cells #[.int .i64 m, .slice A l.length c] 24 (0, 0)) from (HH15.out.go HB.out).get 0 rfl) 1
            refine value_ (w1 := w') (v := .agg #[.int .i64 m, .slice A l.length c]) (wanted_on rfl rfl rfl (e99.trans (by first | rfl | (simp [*]; done)))) rfl ?_ ?_
            · go_simp
              (try simp only [i64_w])
              try rfl
            refine hK.out _ _ ⟨vr, m30_, (by rw [ha.out]; exact putSel_upk 29 hb_ rfl rfl rfl), Q_HB, fun h0_ _ => absurd ((hoff 30 (by kernel_rfl)).symm.trans h0_) (by decide), fun h0_ => absurd ((hoff 30 (by kernel_rfl)).symm.trans h0_) (by decide)⟩
          refine steps_cons ?_ ?_
          · rintro b a w' ⟨vr, m30_, ha, Q_HB, Q_RR, Q_X30_⟩ hb_ hon hoff
            refine ⟨_, rfl, fun K hK => ?_⟩
            have e101 : a.tmps[101]? = some (.agg #[.int .i64 m, .slice A l.length c]) := by rw [ha]; exact putSel_on (e := (29, 101, .agg #[.int .i64 m, .slice A l.length c])) 29 rfl rfl (hon 29 (by kernel_rfl)) rfl
            have e99 : a.tmps[99]? = some (.bool true) := by rw [ha]; exact putSel_on (e := (27, 99, .bool true)) 27 rfl rfl (hon 27 (by kernel_rfl)) rfl
            replace ha := Aside0.mk ha
            have HB := Aside0.mk Q_HB
            refine goes_ Try.func12 rfl rfl #[.agg #[.int .i64 m, .slice A l.length c]] (wanted_on rfl rfl rfl (e99.trans (by first | rfl | (simp [*]; done)))) rfl rfl (by first | (simp only [List.map_toArray, List.map_cons, List.map_nil, Act.eval, Array.getD_eq_getD_getElem?, Option.getD_some, e101, e99]; done) | (simp only [List.map_toArray, List.map_cons, List.map_nil, Act.eval, Array.getD_eq_getD_getElem?, Option.getD_some, e101, e99]; rfl)) ?_
            refine (weirkeeperlaw14_ref.calls k m A c l mc rc w' (Kd.C_below HC.out (HH15.out.go HB.out).below) hc HMC.out).mono ?_
            rintro e_ w4_ ⟨vr_, rfl, hR_, hbel⟩
            refine ⟨_, rfl, ?_⟩
            refine hK.out _ _ ⟨vr_, (.agg #[.int .i64 mc, vr_]), (by rw [ha.out]; exact putSel_upk 30 hb_ rfl rfl rfl), below_step HB.out hbel, fun _ _ => Kd.R_lower hR_ HB.out.size, fun _ => rfl⟩
          refine steps_cons ?_ ?_
          · rintro b a w' ⟨vr, m30_, ha, Q_HB, Q_RR, Q_X30_⟩ hb_ hon hoff
            refine ⟨_, rfl, fun K hK => ?_⟩
            have e100 : a.tmps[100]? = some (.agg #[.int .i64 mz, .slice B6 z.length b6]) := by rw [ha]; exact putSel_on (e := (28, 100, .agg #[.int .i64 mz, .slice B6 z.length b6])) 28 rfl rfl (hon 28 (by kernel_rfl)) rfl
            have e102 : a.tmps[102]? = some (m30_) := by rw [ha]; exact putSel_on (e := (30, 102, m30_)) 30 rfl rfl (hon 30 (by kernel_rfl)) rfl
            rw [Q_X30_ (hon 30 (by kernel_rfl))] at e102
            have e99 : a.tmps[99]? = some (.bool true) := by rw [ha]; exact putSel_on (e := (27, 99, .bool true)) 27 rfl rfl (hon 27 (by kernel_rfl)) rfl
            replace ha := Aside0.mk ha
            have HB := Aside0.mk Q_HB
            have RR := Aside0.mk (Q_RR (hon 30 (by kernel_rfl)) hb_)
            obtain ⟨Ar, cr, er_⟩ := Kd.R_slice RR.out
            subst er_
            refine goes_ Try.func18 rfl rfl #[.agg #[.int .i64 mz, .slice B6 z.length b6], .agg #[.int .i64 mc, .slice Ar rc.length cr]] (wanted_on rfl rfl rfl (e99.trans (by first | rfl | (simp [*]; done)))) rfl rfl (by first | (simp only [List.map_toArray, List.map_cons, List.map_nil, Act.eval, Array.getD_eq_getD_getElem?, Option.getD_some, e100, e102, e99]; done) | (simp only [List.map_toArray, List.map_cons, List.map_nil, Act.eval, Array.getD_eq_getD_getElem?, Option.getD_some, e100, e102, e99]; rfl)) ?_
            refine (weirkeeperlaw14_same.calls k mz B6 b6 z mc Ar cr rc true w' (show Kd.C k27 w' B6 z.length z from (HH15.out.go HB.out).get 8 rfl) hb6 (Kd.R_reads' RR.out).2.2 (Kd.R_reads' RR.out).2.1 HSM.out).mono ?_
            rintro e_ w4_ ⟨rfl, hbel⟩
            refine ⟨_, rfl, ?_⟩
            refine hK.out _ _ ⟨(.slice Ar rc.length cr), m30_, (by rw [ha.out]; exact putSel_upk 31 hb_ rfl rfl rfl), below_step HB.out hbel, fun _ h1_ => absurd ((up_self b 31).symm.trans h1_) (by decide), Q_X30_⟩
          refine steps_cons ?_ ?_
          · rintro b a w' ⟨vr, m30_, ha, Q_HB, Q_RR, Q_X30_⟩ hb_ hon hoff
            refine ⟨_, rfl, fun K hK => ?_⟩
            have e103 : a.tmps[103]? = some (.bool true) := by rw [ha]; exact putSel_on (e := (31, 103, .bool true)) 31 rfl rfl (hon 31 (by kernel_rfl)) rfl
            have e99 : a.tmps[99]? = some (.bool true) := by rw [ha]; exact putSel_on (e := (27, 99, .bool true)) 27 rfl rfl (hon 27 (by kernel_rfl)) rfl
            replace ha := Aside0.mk ha
            have HB := Aside0.mk Q_HB
            refine value_ (w1 := w') (v := .bool false) (wanted_on rfl rfl rfl (e99.trans (by first | rfl | (simp [*]; done)))) rfl ?_ ?_
            · go_simp
              (try simp only [i64_w])
              try rfl
            refine hK.out _ _ ⟨vr, m30_, (by rw [ha.out]; exact putSel_upk 32 hb_ rfl rfl rfl), Q_HB, fun _ h1_ => absurd ((hon 31 (by kernel_rfl)).symm.trans h1_) (by decide), Q_X30_⟩
          refine steps_cons ?_ ?_
          · rintro b a w' ⟨vr, m30_, ha, Q_HB, Q_RR, Q_X30_⟩ hb_ hon hoff
            refine ⟨_, rfl, fun K hK => ?_⟩
            have e99 : a.tmps[99]? = some (.bool true) := by rw [ha]; exact putSel_on (e := (27, 99, .bool true)) 27 rfl rfl (hon 27 (by kernel_rfl)) rfl
            have e104 : a.tmps[104]? = some (.bool false) := by rw [ha]; exact putSel_on (e := (32, 104, .bool false)) 32 rfl rfl (hon 32 (by kernel_rfl)) rfl
            have e96 : a.tmps[96]? = some (.bool false) := by rw [ha]; exact putSel_on (e := (24, 96, .bool false)) 24 rfl rfl (hon 24 (by kernel_rfl)) rfl
            replace ha := Aside0.mk ha
            have HB := Aside0.mk Q_HB
            refine value_ (w1 := w') (v := .bool false) (wanted_on rfl rfl rfl (e96.trans (by first | rfl | (simp [*]; done)))) rfl ?_ ?_
            · go_simp
              (try simp only [i64_w])
              try rfl
            refine hK.out _ _ ⟨vr, m30_, (by rw [ha.out]; exact putSel_upk 33 hb_ rfl rfl rfl), Q_HB, fun _ h1_ => absurd ((hon 31 (by kernel_rfl)).symm.trans h1_) (by decide), Q_X30_⟩
          refine steps_cons ?_ ?_
          · rintro b a w' ⟨vr, m30_, ha, Q_HB, Q_RR, Q_X30_⟩ hb_ hon hoff
            refine ⟨_, rfl, fun K hK => ?_⟩
            have e96 : a.tmps[96]? = some (.bool false) := by rw [ha]; exact putSel_on (e := (24, 96, .bool false)) 24 rfl rfl (hon 24 (by kernel_rfl)) rfl
            have e105 : a.tmps[105]? = some (.bool false) := by rw [ha]; exact putSel_on (e := (33, 105, .bool false)) 33 rfl rfl (hon 33 (by kernel_rfl)) rfl
            replace ha := Aside0.mk ha
            have HB := Aside0.mk Q_HB
            refine value_ (w1 := w') (v := .bool false) (by rfl) rfl ?_ ?_
            · go_simp
              (try simp only [i64_w])
              try rfl
            refine hK.out _ _ ⟨vr, m30_, (by rw [ha.out]; exact putSel_upk 34 hb_ rfl rfl rfl), Q_HB, fun _ h1_ => absurd ((hon 31 (by kernel_rfl)).symm.trans h1_) (by decide), Q_X30_⟩
          refine steps_cons ?_ ?_
          · rintro b a w' ⟨vr, m30_, ha, Q_HB, Q_RR, Q_X30_⟩ hb_ hon hoff
            refine ⟨_, rfl, fun K hK => ?_⟩
            have e106 : a.tmps[106]? = some (.bool false) := by rw [ha]; exact putSel_on (e := (34, 106, .bool false)) 34 rfl rfl (hon 34 (by kernel_rfl)) rfl
            replace ha := Aside0.mk ha
            have HB := Aside0.mk Q_HB
            refine value_ (w1 := w') (v := .bool false) (by rfl) rfl ?_ ?_
            · go_simp
              (try simp only [i64_w])
              try rfl
            refine hK.out _ _ ⟨vr, m30_, (by rw [ha.out]; exact putSel_upk 35 hb_ rfl rfl rfl), Q_HB, fun _ h1_ => absurd ((hon 31 (by kernel_rfl)).symm.trans h1_) (by decide), Q_X30_⟩
          refine steps_cons ?_ ?_
          · rintro b a w' ⟨vr, m30_, ha, Q_HB, Q_RR, Q_X30_⟩ hb_ hon hoff
            refine ⟨_, rfl, fun K hK => ?_⟩
            have e17 : a.tmps[17]? = some (.pointer (some ⟨g17, 0, none⟩)) := by rw [ha]; exact (putSel_off rfl).trans rfl
            have e107 : a.tmps[107]? = some (.bool false) := by rw [ha]; exact putSel_on (e := (35, 107, .bool false)) 35 rfl rfl (hon 35 (by kernel_rfl)) rfl
            replace ha := Aside0.mk ha
            have HB := Aside0.mk Q_HB
            have hcp0 : w'.cell? ⟨g17, 0, none⟩ = some (.int .i64 mz) := (blk_cell (show w'.heap[g17]? = some (.cells #[.int .i64 mz, .slice B6 z.length b6] 24 (0, 0)) from (HH15.out.go HB.out).get 9 rfl) 0).trans rfl
            have hfp0 := blk_frozen (show w'.heap[g17]? = some (.cells #[.int .i64 mz, .slice B6 z.length b6] 24 (0, 0)) from (HH15.out.go HB.out).get 9 rfl) 0
            have hcp1 : w'.cell? ⟨g17, 1, none⟩ = some (.slice B6 z.length b6) := (blk_cell (show w'.heap[g17]? = some (.cells #[.int .i64 mz, .slice B6 z.length b6] 24 (0, 0)) from (HH15.out.go HB.out).get 9 rfl) 1).trans rfl
            have hfp1 := blk_frozen (show w'.heap[g17]? = some (.cells #[.int .i64 mz, .slice B6 z.length b6] 24 (0, 0)) from (HH15.out.go HB.out).get 9 rfl) 1
            refine value_ (w1 := w') (v := .agg #[.int .i64 mz, .slice B6 z.length b6]) (wanted_on rfl rfl rfl (e107.trans (by first | rfl | (simp [*]; done)))) rfl ?_ ?_
            · go_simp
              (try simp only [i64_w])
              try rfl
            refine hK.out _ _ ⟨vr, m30_, (by rw [ha.out]; exact putSel_upk 36 hb_ rfl rfl rfl), Q_HB, fun _ h1_ => absurd ((hon 31 (by kernel_rfl)).symm.trans h1_) (by decide), Q_X30_⟩
          refine steps_cons ?_ ?_
          · rintro b a w' ⟨vr, m30_, ha, Q_HB, Q_RR, Q_X30_⟩ hb_ hon hoff
            refine ⟨_, rfl, fun K hK => ?_⟩
            have e108 : a.tmps[108]? = some (.agg #[.int .i64 mz, .slice B6 z.length b6]) := by rw [ha]; exact putSel_on (e := (36, 108, .agg #[.int .i64 mz, .slice B6 z.length b6])) 36 rfl rfl (hon 36 (by kernel_rfl)) rfl
            have e107 : a.tmps[107]? = some (.bool false) := by rw [ha]; exact putSel_on (e := (35, 107, .bool false)) 35 rfl rfl (hon 35 (by kernel_rfl)) rfl
            replace ha := Aside0.mk ha
            have HB := Aside0.mk Q_HB
            refine goes_ Try.func19 rfl rfl #[.agg #[.int .i64 mz, .slice B6 z.length b6]] (wanted_on rfl rfl rfl (e107.trans (by first | rfl | (simp [*]; done)))) rfl rfl (by first | (simp only [List.map_toArray, List.map_cons, List.map_nil, Act.eval, Array.getD_eq_getD_getElem?, Option.getD_some, e108, e107]; done) | (simp only [List.map_toArray, List.map_cons, List.map_nil, Act.eval, Array.getD_eq_getD_getElem?, Option.getD_some, e108, e107]; rfl)) ?_
            refine (cache_Right.calls k mz B6 b6 z true w' (show Kd.C k27 w' B6 z.length z from (HH15.out.go HB.out).get 8 rfl) hb6 HP.out.right).mono ?_
            rintro e_ w4_ ⟨rfl, hbel⟩
            refine ⟨_, rfl, ?_⟩
            refine hK.out _ _ ⟨vr, m30_, (by rw [ha.out]; exact putSel_upk 37 hb_ rfl rfl rfl), below_step HB.out hbel, fun _ h1_ => absurd ((hon 31 (by kernel_rfl)).symm.trans h1_) (by decide), Q_X30_⟩
          refine steps_cons ?_ ?_
          · rintro b a w' ⟨vr, m30_, ha, Q_HB, Q_RR, Q_X30_⟩ hb_ hon hoff
            refine ⟨_, rfl, fun K hK => ?_⟩
            have e109 : a.tmps[109]? = some (.bool true) := by rw [ha]; exact putSel_on (e := (37, 109, .bool true)) 37 rfl rfl (hon 37 (by kernel_rfl)) rfl
            have e107 : a.tmps[107]? = some (.bool false) := by rw [ha]; exact putSel_on (e := (35, 107, .bool false)) 35 rfl rfl (hon 35 (by kernel_rfl)) rfl
            replace ha := Aside0.mk ha
            have HB := Aside0.mk Q_HB
            refine value_ (w1 := w') (v := .bool false) (wanted_on rfl rfl rfl (e107.trans (by first | rfl | (simp [*]; done)))) rfl ?_ ?_
            · go_simp
              (try simp only [i64_w])
              try rfl
            refine hK.out _ _ ⟨vr, m30_, (by rw [ha.out]; exact putSel_upk 38 hb_ rfl rfl rfl), Q_HB, fun _ h1_ => absurd ((hon 31 (by kernel_rfl)).symm.trans h1_) (by decide), Q_X30_⟩
          refine steps_cons ?_ ?_
          · rintro b a w' ⟨vr, m30_, ha, Q_HB, Q_RR, Q_X30_⟩ hb_ hon hoff
            refine ⟨_, rfl, fun K hK => ?_⟩
            have e107 : a.tmps[107]? = some (.bool false) := by rw [ha]; exact putSel_on (e := (35, 107, .bool false)) 35 rfl rfl (hon 35 (by kernel_rfl)) rfl
            have e110 : a.tmps[110]? = some (.bool false) := by rw [ha]; exact putSel_on (e := (38, 110, .bool false)) 38 rfl rfl (hon 38 (by kernel_rfl)) rfl
            replace ha := Aside0.mk ha
            have HB := Aside0.mk Q_HB
            refine value_ (w1 := w') (v := .bool false) (by rfl) rfl ?_ ?_
            · go_simp
              (try simp only [i64_w])
              try rfl
            refine hK.out _ _ ⟨vr, m30_, (by rw [ha.out]; exact putSel_upk 39 hb_ rfl rfl rfl), Q_HB, fun _ h1_ => absurd ((hon 31 (by kernel_rfl)).symm.trans h1_) (by decide), Q_X30_⟩
          exact steps_nil
        · rintro b a w' hall ⟨vr, m30_, ha, Q_HB, Q_RR, Q_X30_⟩
          clear HB
          have hb0_ := hall 0 (by kernel_rfl)
          have hb1_ := hall 1 (by kernel_rfl)
          have hb2_ := hall 2 (by kernel_rfl)
          have hb3_ := hall 3 (by kernel_rfl)
          have hb4_ := hall 4 (by kernel_rfl)
          have hb5_ := hall 5 (by kernel_rfl)
          have hb6_ := hall 6 (by kernel_rfl)
          have hb7_ := hall 7 (by kernel_rfl)
          have hb8_ := hall 8 (by kernel_rfl)
          have hb9_ := hall 9 (by kernel_rfl)
          have hb10_ := hall 10 (by kernel_rfl)
          have hb11_ := hall 11 (by kernel_rfl)
          have hb12_ := hall 12 (by kernel_rfl)
          have hb13_ := hall 13 (by kernel_rfl)
          have hb14_ := hall 14 (by kernel_rfl)
          have hb15_ := hall 15 (by kernel_rfl)
          have hb16_ := hall 16 (by kernel_rfl)
          have hb17_ := hall 17 (by kernel_rfl)
          have hb18_ := hall 18 (by kernel_rfl)
          have hb19_ := hall 19 (by kernel_rfl)
          have hb20_ := hall 20 (by kernel_rfl)
          have hb21_ := hall 21 (by kernel_rfl)
          have hb22_ := hall 22 (by kernel_rfl)
          have hb23_ := hall 23 (by kernel_rfl)
          have hb24_ := hall 24 (by kernel_rfl)
          have hb25_ := hall 25 (by kernel_rfl)
          have hb26_ := hall 26 (by kernel_rfl)
          have hb27_ := hall 27 (by kernel_rfl)
          have hb28_ := hall 28 (by kernel_rfl)
          have hb29_ := hall 29 (by kernel_rfl)
          have hb30_ := hall 30 (by kernel_rfl)
          have hb31_ := hall 31 (by kernel_rfl)
          have hb32_ := hall 32 (by kernel_rfl)
          have hb33_ := hall 33 (by kernel_rfl)
          have hb34_ := hall 34 (by kernel_rfl)
          have hb35_ := hall 35 (by kernel_rfl)
          have hb36_ := hall 36 (by kernel_rfl)
          have hb37_ := hall 37 (by kernel_rfl)
          have hb38_ := hall 38 (by kernel_rfl)
          have hb39_ := hall 39 (by kernel_rfl)
          subst ha
          obtain rfl := Q_X30_ hb30_
          simp only [putSel, hb0_, hb1_, hb2_, hb3_, hb4_, hb5_, hb6_, hb7_, hb8_, hb9_, hb10_, hb11_, hb12_, hb13_, hb14_, hb15_, hb16_, hb17_, hb18_, hb19_, hb20_, hb21_, hb22_, hb23_, hb24_, hb25_, hb26_, hb27_, hb28_, hb29_, hb30_, hb31_, hb32_, hb33_, hb34_, hb35_, hb36_, hb37_, hb38_, hb39_, if_true, Act.put, List.setIfInBounds_toArray, List.set_cons_zero, List.set_cons_succ]
          have HB := Aside0.mk Q_HB
          clear Q_HB
          clear Q_RR
          clear hall hb0_ hb1_ hb2_ hb3_ hb4_ hb5_ hb6_ hb7_ hb8_ hb9_ hb10_ hb11_ hb12_ hb13_ hb14_ hb15_ hb16_ hb17_ hb18_ hb19_ hb20_ hb21_ hb22_ hb23_ hb24_ hb25_ hb26_ hb27_ hb28_ hb29_ hb30_ hb31_ hb32_ hb33_ hb34_ hb35_ hb36_ hb37_ hb38_ hb39_
          go_wp2
          go_meet
          case rel => exact ⟨rfl, ⟨HH15.out.go HB.out⟩⟩
      case true =>
        obtain ⟨hlz, hlz0, hrd, rfl⟩ := HP.out.hit rfl
        obtain ⟨ad, hA, _⟩ := at_T27 (show Kd.C k27 w15 B6 z.length z from HH15.out.get 8 rfl) 0 (by omega) (by omega)
        subst hA
        have LZ := Aside0.mk hlz
        have LZ0 := Aside0.mk hlz0
        have HRD := Aside0.mk hrd
        clear hlz hlz0 hrd
        refine start_ (n := 40) (S := fun w' => True) (ds := []) #[false, false, false, false, false, false, false, false, false, false, false, false, false, false, false, false, false, false, false, false, false, false, false, false, false, false, false, false, false, false, false, false, false, false, false, false, false, false, false, false] (by kernel_rfl) rfl rfl trivial (fun hHeld => ?_); refine with_tabW CParts.tab7 CParts.bits7 (fun HT_ HW_ => ?_)
        replace HH15 := Aside0.mk HH15.out.drew
        generalize w15.drew = w16 at HH15 ⊢
        have HB := Aside0.mk (Below.refl w16.heap.size w16)
        refine inv_at [0, 1, 2, 3, 4, 5, 6, 7, 8, 9, 10, 11, 12, 13, 14, 15, 16, 17, 18, 19, 20, 21, 22, 23, 24, 25, 26, 27, 28, 29, 30, 31, 32, 33, 34, 35, 36, 37, 38, 39] (fun a0_ b a w' => a = putSel a0_ b [(0, 72, .bool true), (1, 73, .bool true), (2, 74, .pointer (some ⟨g17, 1, none⟩)), (3, 75, .slice (some ad) z.length b6), (4, 76, .int .i64 (z.length : Int)), (5, 77, .pointer (some ⟨g, 1, none⟩)), (6, 78, .slice A l.length c), (7, 79, .int .i64 (z.length : Int)), (8, 80, .bool false), (9, 81, .bool false), (10, 82, .pointer (some ⟨g17, 1, none⟩)), (11, 83, .slice (some ad) z.length b6), (12, 84, .pointer (some (ad.add ((0 : Int).toNat * 3)))), (13, 85, .agg #[.int .i64 i0, .string i1, .bool i2]), (14, 86, .agg #[.int .i64 i0, .string i1, .bool i2]), (15, 87, .bool false), (16, 88, .bool false), (17, 89, .bool false), (18, 90, .pointer (some ⟨g18, 0, none⟩)), (19, 91, .int .i64 i0), (20, 92, .int .i64 i0), (21, 93, .bool false), (22, 94, .bool false), (23, 95, .bool false), (24, 96, .bool false), (25, 97, .bool true), (26, 98, .bool false), (27, 99, .bool false), (28, 100, undef), (29, 101, undef), (30, 102, undef), (31, 103, undef), (32, 104, undef), (33, 105, .bool false), (34, 106, .bool false), (35, 107, .bool false), (36, 108, .agg #[.int .i64 mz, .slice (some ad) z.length b6]), (37, 109, .bool true), (38, 110, .bool false), (39, 111, .bool false)] ∧ (Below w16.heap.size w16 w')) HT_.out HW_.out (by kernel_rfl) (by kernel_rfl) ?_ ?_ ?_
        · exact ⟨by simp only [putSel, Bool.false_eq_true, if_false], HB.out⟩
        · skip
          clear HB
          refine steps_cons ?_ ?_
          · rintro b a w' ⟨ha, Q_HB⟩ hb_ hon hoff
            refine ⟨_, rfl, fun K hK => ?_⟩
            have e19 : a.tmps[19]? = some (.bool true) := by rw [ha]; exact (putSel_off rfl).trans rfl
            replace ha := Aside0.mk ha
            have HB := Aside0.mk Q_HB
            refine value_ (w1 := w') (v := .bool true) (by rfl) rfl ?_ ?_
            · go_simp
              (try simp only [i64_w])
              try rfl
            refine hK.out _ _ ⟨(by rw [ha.out]; exact putSel_upk 0 hb_ rfl rfl rfl), Q_HB⟩
          refine steps_cons ?_ ?_
          · rintro b a w' ⟨ha, Q_HB⟩ hb_ hon hoff
            refine ⟨_, rfl, fun K hK => ?_⟩
            have e72 : a.tmps[72]? = some (.bool true) := by rw [ha]; exact putSel_on (e := (0, 72, .bool true)) 0 rfl rfl (hon 0 (by kernel_rfl)) rfl
            replace ha := Aside0.mk ha
            have HB := Aside0.mk Q_HB
            refine value_ (w1 := w') (v := .bool true) (by rfl) rfl ?_ ?_
            · go_simp
              (try simp only [i64_w])
              try rfl
            refine hK.out _ _ ⟨(by rw [ha.out]; exact putSel_upk 1 hb_ rfl rfl rfl), Q_HB⟩
          refine steps_cons ?_ ?_
          · rintro b a w' ⟨ha, Q_HB⟩ hb_ hon hoff
            refine ⟨_, rfl, fun K hK => ?_⟩
            have e17 : a.tmps[17]? = some (.pointer (some ⟨g17, 0, none⟩)) := by rw [ha]; exact (putSel_off rfl).trans rfl
            have e73 : a.tmps[73]? = some (.bool true) := by rw [ha]; exact putSel_on (e := (1, 73, .bool true)) 1 rfl rfl (hon 1 (by kernel_rfl)) rfl
            replace ha := Aside0.mk ha
            have HB := Aside0.mk Q_HB
            refine value_ (w1 := w') (v := .pointer (some ⟨g17, 1, none⟩)) (wanted_on rfl rfl rfl (e73.trans (by first | rfl | (simp [*]; done)))) rfl ?_ ?_
            · go_simp
              (try simp only [i64_w])
              try rfl
            refine hK.out _ _ ⟨(by rw [ha.out]; exact putSel_upk 2 hb_ rfl rfl rfl), Q_HB⟩
          refine steps_cons ?_ ?_
          · rintro b a w' ⟨ha, Q_HB⟩ hb_ hon hoff
            refine ⟨_, rfl, fun K hK => ?_⟩
            have e74 : a.tmps[74]? = some (.pointer (some ⟨g17, 1, none⟩)) := by rw [ha]; exact putSel_on (e := (2, 74, .pointer (some ⟨g17, 1, none⟩))) 2 rfl rfl (hon 2 (by kernel_rfl)) rfl
            have e73 : a.tmps[73]? = some (.bool true) := by rw [ha]; exact putSel_on (e := (1, 73, .bool true)) 1 rfl rfl (hon 1 (by kernel_rfl)) rfl
            replace ha := Aside0.mk ha
            have HB := Aside0.mk Q_HB
            have hcp0 : w'.cell? ⟨g17, 0, none⟩ = some (.int .i64 mz) := (blk_cell (show w'.heap[g17]? = some (.cells #[.int .i64 mz, .slice (some ad) z.length b6] 24 (0, 0)) from (HH15.out.go HB.out).get 9 rfl) 0).trans rfl
            have hfp0 := blk_frozen (show w'.heap[g17]? = some (.cells #[.int .i64 mz, .slice (some ad) z.length b6] 24 (0, 0)) from (HH15.out.go HB.out).get 9 rfl) 0
            have hcp1 : w'.cell? ⟨g17, 1, none⟩ = some (.slice (some ad) z.length b6) := (blk_cell (show w'.heap[g17]? = some (.cells #[.int .i64 mz, .slice (some ad) z.length b6] 24 (0, 0)) from (HH15.out.go HB.out).get 9 rfl) 1).trans rfl
            have hfp1 := blk_frozen (show w'.heap[g17]? = some (.cells #[.int .i64 mz, .slice (some ad) z.length b6] 24 (0, 0)) from (HH15.out.go HB.out).get 9 rfl) 1
            refine value_ (w1 := w') (v := .slice (some ad) z.length b6) (wanted_on rfl rfl rfl (e73.trans (by first | rfl | (simp [*]; done)))) rfl ?_ ?_
            · go_simp
              (try simp only [i64_w])
              try rfl
            refine hK.out _ _ ⟨(by rw [ha.out]; exact putSel_upk 3 hb_ rfl rfl rfl), Q_HB⟩
          refine steps_cons ?_ ?_
          · rintro b a w' ⟨ha, Q_HB⟩ hb_ hon hoff
            refine ⟨_, rfl, fun K hK => ?_⟩
            have e75 : a.tmps[75]? = some (.slice (some ad) z.length b6) := by rw [ha]; exact putSel_on (e := (3, 75, .slice (some ad) z.length b6)) 3 rfl rfl (hon 3 (by kernel_rfl)) rfl
            have e73 : a.tmps[73]? = some (.bool true) := by rw [ha]; exact putSel_on (e := (1, 73, .bool true)) 1 rfl rfl (hon 1 (by kernel_rfl)) rfl
            replace ha := Aside0.mk ha
            have HB := Aside0.mk Q_HB
            refine value_ (w1 := w') (v := .int .i64 (z.length : Int)) (wanted_on rfl rfl rfl (e73.trans (by first | rfl | (simp [*]; done)))) rfl ?_ ?_
            · go_simp
              (try simp only [i64_w])
              try rfl
            refine hK.out _ _ ⟨(by rw [ha.out]; exact putSel_upk 4 hb_ rfl rfl rfl), Q_HB⟩
          refine steps_cons ?_ ?_
          · rintro b a w' ⟨ha, Q_HB⟩ hb_ hon hoff
            refine ⟨_, rfl, fun K hK => ?_⟩
            have e4 : a.tmps[4]? = some (.pointer (some ⟨g, 0, none⟩)) := by rw [ha]; exact (putSel_off rfl).trans rfl
            have e73 : a.tmps[73]? = some (.bool true) := by rw [ha]; exact putSel_on (e := (1, 73, .bool true)) 1 rfl rfl (hon 1 (by kernel_rfl)) rfl
            replace ha := Aside0.mk ha
            have HB := Aside0.mk Q_HB
            refine value_ (w1 := w') (v := .pointer (some ⟨g, 1, none⟩)) (wanted_on rfl rfl rfl (e73.trans (by first | rfl | (simp [*]; done)))) rfl ?_ ?_
            · go_simp
              (try simp only [i64_w])
              try rfl
            refine hK.out _ _ ⟨(by rw [ha.out]; exact putSel_upk 5 hb_ rfl rfl rfl), Q_HB⟩
          refine steps_cons ?_ ?_
          · rintro b a w' ⟨ha, Q_HB⟩ hb_ hon hoff
            refine ⟨_, rfl, fun K hK => ?_⟩
            have e77 : a.tmps[77]? = some (.pointer (some ⟨g, 1, none⟩)) := by rw [ha]; exact putSel_on (e := (5, 77, .pointer (some ⟨g, 1, none⟩))) 5 rfl rfl (hon 5 (by kernel_rfl)) rfl
            have e73 : a.tmps[73]? = some (.bool true) := by rw [ha]; exact putSel_on (e := (1, 73, .bool true)) 1 rfl rfl (hon 1 (by kernel_rfl)) rfl
            replace ha := Aside0.mk ha
            have HB := Aside0.mk Q_HB
            have hcp0 : w'.cell? ⟨g, 0, none⟩ = some (.int .i64 m) := (blk_cell (show w'.heap[g]? = some (.cells #[.int .i64 m, .slice A l.length c] 24 (0, 0)) from (HH15.out.go HB.out).get 0 rfl) 0).trans rfl
            have hfp0 := blk_frozen (show w'.heap[g]? = some (.cells #[.int .i64 m, .slice A l.length c] 24 (0, 0)) from (HH15.out.go HB.out).get 0 rfl) 0
            have hcp1 : w'.cell? ⟨g, 1, none⟩ = some (.slice A l.length c) := (blk_cell (show w'.heap[g]? = some (.cells #[.int .i64 m, .slice A l.length c] 24 (0, 0)) from (HH15.out.go HB.out).get 0 rfl) 1).trans rfl
            have hfp1 := blk_frozen (show w'.heap[g]? = some (.cells #[.int .i64 m, .slice A l.length c] 24 (0, 0)) from (HH15.out.go HB.out).get 0 rfl) 1
            refine value_ (w1 := w') (v := .slice A l.length c) (wanted_on rfl rfl rfl (e73.trans (by first | rfl | (simp [*]; done)))) rfl ?_ ?_
            · go_simp
              (try simp only [i64_w])
              try rfl
            refine hK.out _ _ ⟨(by rw [ha.out]; exact putSel_upk 6 hb_ rfl rfl rfl), Q_HB⟩
          refine steps_cons ?_ ?_
          · rintro b a w' ⟨ha, Q_HB⟩ hb_ hon hoff
            refine ⟨_, rfl, fun K hK => ?_⟩
            have e78 : a.tmps[78]? = some (.slice A l.length c) := by rw [ha]; exact putSel_on (e := (6, 78, .slice A l.length c)) 6 rfl rfl (hon 6 (by kernel_rfl)) rfl
            have e73 : a.tmps[73]? = some (.bool true) := by rw [ha]; exact putSel_on (e := (1, 73, .bool true)) 1 rfl rfl (hon 1 (by kernel_rfl)) rfl
            replace ha := Aside0.mk ha
            have HB := Aside0.mk Q_HB
            rw [← LZ.out] at e78
            refine value_ (w1 := w') (v := .int .i64 (z.length : Int)) (wanted_on rfl rfl rfl (e73.trans (by first | rfl | (simp [*]; done)))) rfl ?_ ?_
            · go_simp
              (try simp only [i64_w])
              try rfl
            refine hK.out _ _ ⟨(by rw [ha.out]; exact putSel_upk 7 hb_ rfl rfl rfl), Q_HB⟩
          refine steps_cons ?_ ?_
          · rintro b a w' ⟨ha, Q_HB⟩ hb_ hon hoff
            refine ⟨_, rfl, fun K hK => ?_⟩
            have e76 : a.tmps[76]? = some (.int .i64 (z.length : Int)) := by rw [ha]; exact putSel_on (e := (4, 76, .int .i64 (z.length : Int))) 4 rfl rfl (hon 4 (by kernel_rfl)) rfl
            have e79 : a.tmps[79]? = some (.int .i64 (z.length : Int)) := by rw [ha]; exact putSel_on (e := (7, 79, .int .i64 (z.length : Int))) 7 rfl rfl (hon 7 (by kernel_rfl)) rfl
            have e73 : a.tmps[73]? = some (.bool true) := by rw [ha]; exact putSel_on (e := (1, 73, .bool true)) 1 rfl rfl (hon 1 (by kernel_rfl)) rfl
            replace ha := Aside0.mk ha
            have HB := Aside0.mk Q_HB
            refine value_ (w1 := w') (v := .bool false) (wanted_on rfl rfl rfl (e73.trans (by first | rfl | (simp [*]; done)))) rfl ?_ ?_
            · go_simp
              first | done | rfl | (simp; done)
            refine hK.out _ _ ⟨(by rw [ha.out]; exact putSel_upk 8 hb_ rfl rfl rfl), HB.out⟩
          refine steps_cons ?_ ?_
          · rintro b a w' ⟨ha, Q_HB⟩ hb_ hon hoff
            refine ⟨_, rfl, fun K hK => ?_⟩
            have e80 : a.tmps[80]? = some (.bool false) := by rw [ha]; exact putSel_on (e := (8, 80, .bool false)) 8 rfl rfl (hon 8 (by kernel_rfl)) rfl
            have e73 : a.tmps[73]? = some (.bool true) := by rw [ha]; exact putSel_on (e := (1, 73, .bool true)) 1 rfl rfl (hon 1 (by kernel_rfl)) rfl
            replace ha := Aside0.mk ha
            have HB := Aside0.mk Q_HB
            refine value_ (w1 := w') (v := .bool false) (wanted_on rfl rfl rfl (e73.trans (by first | rfl | (simp [*]; done)))) rfl ?_ ?_
            · go_simp
              (try simp only [i64_w])
              try rfl
            refine hK.out _ _ ⟨(by rw [ha.out]; exact putSel_upk 9 hb_ rfl rfl rfl), Q_HB⟩
          refine steps_cons ?_ ?_
          · rintro b a w' ⟨ha, Q_HB⟩ hb_ hon hoff
            refine ⟨_, rfl, fun K hK => ?_⟩
            have e17 : a.tmps[17]? = some (.pointer (some ⟨g17, 0, none⟩)) := by rw [ha]; exact (putSel_off rfl).trans rfl
            have e81 : a.tmps[81]? = some (.bool false) := by rw [ha]; exact putSel_on (e := (9, 81, .bool false)) 9 rfl rfl (hon 9 (by kernel_rfl)) rfl
            replace ha := Aside0.mk ha
            have HB := Aside0.mk Q_HB
            refine value_ (w1 := w') (v := .pointer (some ⟨g17, 1, none⟩)) (wanted_on rfl rfl rfl (e81.trans (by first | rfl | (simp [*]; done)))) rfl ?_ ?_
            · go_simp
              (try simp only [i64_w])
              try rfl
            refine hK.out _ _ ⟨(by rw [ha.out]; exact putSel_upk 10 hb_ rfl rfl rfl), Q_HB⟩
          refine steps_cons ?_ ?_
          · rintro b a w' ⟨ha, Q_HB⟩ hb_ hon hoff
            refine ⟨_, rfl, fun K hK => ?_⟩
            have e82 : a.tmps[82]? = some (.pointer (some ⟨g17, 1, none⟩)) := by rw [ha]; exact putSel_on (e := (10, 82, .pointer (some ⟨g17, 1, none⟩))) 10 rfl rfl (hon 10 (by kernel_rfl)) rfl
            have e81 : a.tmps[81]? = some (.bool false) := by rw [ha]; exact putSel_on (e := (9, 81, .bool false)) 9 rfl rfl (hon 9 (by kernel_rfl)) rfl
            replace ha := Aside0.mk ha
            have HB := Aside0.mk Q_HB
            have hcp0 : w'.cell? ⟨g17, 0, none⟩ = some (.int .i64 mz) := (blk_cell (show w'.heap[g17]? = some (.cells #[.int .i64 mz, .slice (some ad) z.length b6] 24 (0, 0)) from (HH15.out.go HB.out).get 9 rfl) 0).trans rfl
            have hfp0 := blk_frozen (show w'.heap[g17]? = some (.cells #[.int .i64 mz, .slice (some ad) z.length b6] 24 (0, 0)) from (HH15.out.go HB.out).get 9 rfl) 0
            have hcp1 : w'.cell? ⟨g17, 1, none⟩ = some (.slice (some ad) z.length b6) := (blk_cell (show w'.heap[g17]? = some (.cells #[.int .i64 mz, .slice (some ad) z.length b6] 24 (0, 0)) from (HH15.out.go HB.out).get 9 rfl) 1).trans rfl
            have hfp1 := blk_frozen (show w'.heap[g17]? = some (.cells #[.int .i64 mz, .slice (some ad) z.length b6] 24 (0, 0)) from (HH15.out.go HB.out).get 9 rfl) 1
            refine value_ (w1 := w') (v := .slice (some ad) z.length b6) (wanted_on rfl rfl rfl (e81.trans (by first | rfl | (simp [*]; done)))) rfl ?_ ?_
            · go_simp
              (try simp only [i64_w])
              try rfl
            refine hK.out _ _ ⟨(by rw [ha.out]; exact putSel_upk 11 hb_ rfl rfl rfl), Q_HB⟩
          refine steps_cons ?_ ?_
          · rintro b a w' ⟨ha, Q_HB⟩ hb_ hon hoff
            refine ⟨_, rfl, fun K hK => ?_⟩
            have e83 : a.tmps[83]? = some (.slice (some ad) z.length b6) := by rw [ha]; exact putSel_on (e := (11, 83, .slice (some ad) z.length b6)) 11 rfl rfl (hon 11 (by kernel_rfl)) rfl
            have e81 : a.tmps[81]? = some (.bool false) := by rw [ha]; exact putSel_on (e := (9, 81, .bool false)) 9 rfl rfl (hon 9 (by kernel_rfl)) rfl
            replace ha := Aside0.mk ha
            have HB := Aside0.mk Q_HB
            have hz0_ := LZ0.out
            refine value_ (w1 := w') (v := .pointer (some (ad.add ((0 : Int).toNat * 3)))) (wanted_on rfl rfl rfl (e81.trans (by first | rfl | (simp [*]; done)))) rfl ?_ ?_
            · go_simp
              (try simp only [i64_w])
              first | rfl | (simp; done) | (intro h_; omega) | omega | skip
            refine hK.out _ _ ⟨(by rw [ha.out]; exact putSel_upk 12 hb_ rfl rfl rfl), HB.out⟩
          refine steps_cons ?_ ?_
          · rintro b a w' ⟨ha, Q_HB⟩ hb_ hon hoff
            refine ⟨_, rfl, fun K hK => ?_⟩
            have e84 : a.tmps[84]? = some (.pointer (some (ad.add ((0 : Int).toNat * 3)))) := by rw [ha]; exact putSel_on (e := (12, 84, .pointer (some (ad.add ((0 : Int).toNat * 3))))) 12 rfl rfl (hon 12 (by kernel_rfl)) rfl
            have e81 : a.tmps[81]? = some (.bool false) := by rw [ha]; exact putSel_on (e := (9, 81, .bool false)) 9 rfl rfl (hon 9 (by kernel_rfl)) rfl
            replace ha := Aside0.mk ha
            have HB := Aside0.mk Q_HB
            obtain ⟨ad_, hA_, hx0_, hx1_, hx2_⟩ := at_T27 (show Kd.C k27 w' (some ad) z.length z from (HH15.out.go HB.out).get 8 rfl) 0 (by omega) (by have := LZ0.out; omega)
            injection hA_ with hA_
            subst hA_
            rw [HRD.out] at hx0_ hx1_ hx2_
            simp only [Int.toNat_zero, Nat.zero_mul, add_nil] at hx0_ hx1_ hx2_
            refine value_ (w1 := w') (v := .agg #[.int .i64 i0, .string i1, .bool i2]) (wanted_on rfl rfl rfl (e81.trans (by first | rfl | (simp [*]; done)))) rfl ?_ ?_
            · go_simp
              (try simp only [i64_w])
              try rfl
            refine hK.out _ _ ⟨(by rw [ha.out]; exact putSel_upk 13 hb_ rfl rfl rfl), Q_HB⟩
          refine steps_cons ?_ ?_
          · rintro b a w' ⟨ha, Q_HB⟩ hb_ hon hoff
            refine ⟨_, rfl, fun K hK => ?_⟩
            have e18 : a.tmps[18]? = some (.pointer (some ⟨g18, 0, none⟩)) := by rw [ha]; exact (putSel_off rfl).trans rfl
            have e81 : a.tmps[81]? = some (.bool false) := by rw [ha]; exact putSel_on (e := (9, 81, .bool false)) 9 rfl rfl (hon 9 (by kernel_rfl)) rfl
            replace ha := Aside0.mk ha
            have HB := Aside0.mk Q_HB
            have hcp0 : w'.cell? ⟨g18, 0, none⟩ = some (.int .i64 i0) := (blk_cell (show w'.heap[g18]? = some (.cells #[.int .i64 i0, .string i1, .bool i2] 27 (0, 0)) from (HH15.out.go HB.out).get 10 rfl) 0).trans rfl
            have hfp0 := blk_frozen (show w'.heap[g18]? = some (.cells #[.int .i64 i0, .string i1, .bool i2] 27 (0, 0)) from (HH15.out.go HB.out).get 10 rfl) 0
            have hcp1 : w'.cell? ⟨g18, 1, none⟩ = some (.string i1) := (blk_cell (show w'.heap[g18]? = some (.cells #[.int .i64 i0, .string i1, .bool i2] 27 (0, 0)) from (HH15.out.go HB.out).get 10 rfl) 1).trans rfl
            have hfp1 := blk_frozen (show w'.heap[g18]? = some (.cells #[.int .i64 i0, .string i1, .bool i2] 27 (0, 0)) from (HH15.out.go HB.out).get 10 rfl) 1
            have hcp2 : w'.cell? ⟨g18, 2, none⟩ = some (.bool i2) := (blk_cell (show w'.heap[g18]? = some (.cells #[.int .i64 i0, .string i1, .bool i2] 27 (0, 0)) from (HH15.out.go HB.out).get 10 rfl) 2).trans rfl
            have hfp2 := blk_frozen (show w'.heap[g18]? = some (.cells #[.int .i64 i0, .string i1, .bool i2] 27 (0, 0)) from (HH15.out.go HB.out).get 10 rfl) 2
            refine value_ (w1 := w') (v := .agg #[.int .i64 i0, .string i1, .bool i2]) (wanted_on rfl rfl rfl (e81.trans (by first | rfl | (simp [*]; done)))) rfl ?_ ?_
            · go_simp
              (try simp only [i64_w])
              try rfl
            refine hK.out _ _ ⟨(by rw [ha.out]; exact putSel_upk 14 hb_ rfl rfl rfl), Q_HB⟩
          refine steps_cons ?_ ?_
          · rintro b a w' ⟨ha, Q_HB⟩ hb_ hon hoff
            refine ⟨_, rfl, fun K hK => ?_⟩
            have e85 : a.tmps[85]? = some (.agg #[.int .i64 i0, .string i1, .bool i2]) := by rw [ha]; exact putSel_on (e := (13, 85, .agg #[.int .i64 i0, .string i1, .bool i2])) 13 rfl rfl (hon 13 (by kernel_rfl)) rfl
            have e86 : a.tmps[86]? = some (.agg #[.int .i64 i0, .string i1, .bool i2]) := by rw [ha]; exact putSel_on (e := (14, 86, .agg #[.int .i64 i0, .string i1, .bool i2])) 14 rfl rfl (hon 14 (by kernel_rfl)) rfl
            have e81 : a.tmps[81]? = some (.bool false) := by rw [ha]; exact putSel_on (e := (9, 81, .bool false)) 9 rfl rfl (hon 9 (by kernel_rfl)) rfl
            replace ha := Aside0.mk ha
            have HB := Aside0.mk Q_HB
            refine value_ (w1 := w') (v := .bool false) (wanted_on rfl rfl rfl (e81.trans (by first | rfl | (simp [*]; done)))) rfl ?_ ?_
            · go_simp
              first | done | rfl | (simp; done)
            refine hK.out _ _ ⟨(by rw [ha.out]; exact putSel_upk 15 hb_ rfl rfl rfl), HB.out⟩
          refine steps_cons ?_ ?_
          · rintro b a w' ⟨ha, Q_HB⟩ hb_ hon hoff
            refine ⟨_, rfl, fun K hK => ?_⟩
            have e81 : a.tmps[81]? = some (.bool false) := by rw [ha]; exact putSel_on (e := (9, 81, .bool false)) 9 rfl rfl (hon 9 (by kernel_rfl)) rfl
            have e87 : a.tmps[87]? = some (.bool false) := by rw [ha]; exact putSel_on (e := (15, 87, .bool false)) 15 rfl rfl (hon 15 (by kernel_rfl)) rfl
            have e73 : a.tmps[73]? = some (.bool true) := by rw [ha]; exact putSel_on (e := (1, 73, .bool true)) 1 rfl rfl (hon 1 (by kernel_rfl)) rfl
            replace ha := Aside0.mk ha
            have HB := Aside0.mk Q_HB
            refine value_ (w1 := w') (v := .bool false) (wanted_on rfl rfl rfl (e73.trans (by first | rfl | (simp [*]; done)))) rfl ?_ ?_
            · go_simp
              (try simp only [i64_w])
              try rfl
            refine hK.out _ _ ⟨(by rw [ha.out]; exact putSel_upk 16 hb_ rfl rfl rfl), Q_HB⟩
          refine steps_cons ?_ ?_
          · rintro b a w' ⟨ha, Q_HB⟩ hb_ hon hoff
            refine ⟨_, rfl, fun K hK => ?_⟩
            have e88 : a.tmps[88]? = some (.bool false) := by rw [ha]; exact putSel_on (e := (16, 88, .bool false)) 16 rfl rfl (hon 16 (by kernel_rfl)) rfl
            have e73 : a.tmps[73]? = some (.bool true) := by rw [ha]; exact putSel_on (e := (1, 73, .bool true)) 1 rfl rfl (hon 1 (by kernel_rfl)) rfl
            replace ha := Aside0.mk ha
            have HB := Aside0.mk Q_HB
            refine value_ (w1 := w') (v := .bool false) (wanted_on rfl rfl rfl (e73.trans (by first | rfl | (simp [*]; done)))) rfl ?_ ?_
            · go_simp
              (try simp only [i64_w])
              try rfl
            refine hK.out _ _ ⟨(by rw [ha.out]; exact putSel_upk 17 hb_ rfl rfl rfl), Q_HB⟩
          refine steps_cons ?_ ?_
          · rintro b a w' ⟨ha, Q_HB⟩ hb_ hon hoff
            refine ⟨_, rfl, fun K hK => ?_⟩
            have e18 : a.tmps[18]? = some (.pointer (some ⟨g18, 0, none⟩)) := by rw [ha]; exact (putSel_off rfl).trans rfl
            have e89 : a.tmps[89]? = some (.bool false) := by rw [ha]; exact putSel_on (e := (17, 89, .bool false)) 17 rfl rfl (hon 17 (by kernel_rfl)) rfl
            replace ha := Aside0.mk ha
            have HB := Aside0.mk Q_HB
            refine value_ (w1 := w') (v := .pointer (some ⟨g18, 0, none⟩)) (wanted_on rfl rfl rfl (e89.trans (by first | rfl | (simp [*]; done)))) rfl ?_ ?_
            · go_simp
              (try simp only [i64_w])
              try rfl
            refine hK.out _ _ ⟨(by rw [ha.out]; exact putSel_upk 18 hb_ rfl rfl rfl), Q_HB⟩
          refine steps_cons ?_ ?_
          · rintro b a w' ⟨ha, Q_HB⟩ hb_ hon hoff
            refine ⟨_, rfl, fun K hK => ?_⟩
            have e90 : a.tmps[90]? = some (.pointer (some ⟨g18, 0, none⟩)) := by rw [ha]; exact putSel_on (e := (18, 90, .pointer (some ⟨g18, 0, none⟩))) 18 rfl rfl (hon 18 (by kernel_rfl)) rfl
            have e89 : a.tmps[89]? = some (.bool false) := by rw [ha]; exact putSel_on (e := (17, 89, .bool false)) 17 rfl rfl (hon 17 (by kernel_rfl)) rfl
            replace ha := Aside0.mk ha
            have HB := Aside0.mk Q_HB
            have hcp0 : w'.cell? ⟨g18, 0, none⟩ = some (.int .i64 i0) := (blk_cell (show w'.heap[g18]? = some (.cells #[.int .i64 i0, .string i1, .bool i2] 27 (0, 0)) from (HH15.out.go HB.out).get 10 rfl) 0).trans rfl
            have hfp0 := blk_frozen (show w'.heap[g18]? = some (.cells #[.int .i64 i0, .string i1, .bool i2] 27 (0, 0)) from (HH15.out.go HB.out).get 10 rfl) 0
            have hcp1 : w'.cell? ⟨g18, 1, none⟩ = some (.string i1) := (blk_cell (show w'.heap[g18]? = some (.cells #[.int .i64 i0, .string i1, .bool i2] 27 (0, 0)) from (HH15.out.go HB.out).get 10 rfl) 1).trans rfl
            have hfp1 := blk_frozen (show w'.heap[g18]? = some (.cells #[.int .i64 i0, .string i1, .bool i2] 27 (0, 0)) from (HH15.out.go HB.out).get 10 rfl) 1
            have hcp2 : w'.cell? ⟨g18, 2, none⟩ = some (.bool i2) := (blk_cell (show w'.heap[g18]? = some (.cells #[.int .i64 i0, .string i1, .bool i2] 27 (0, 0)) from (HH15.out.go HB.out).get 10 rfl) 2).trans rfl
            have hfp2 := blk_frozen (show w'.heap[g18]? = some (.cells #[.int .i64 i0, .string i1, .bool i2] 27 (0, 0)) from (HH15.out.go HB.out).get 10 rfl) 2
            refine value_ (w1 := w') (v := .int .i64 i0) (wanted_on rfl rfl rfl (e89.trans (by first | rfl | (simp [*]; done)))) rfl ?_ ?_
            · go_simp
              (try simp only [i64_w])
              try rfl
            refine hK.out _ _ ⟨(by rw [ha.out]; exact putSel_upk 19 hb_ rfl rfl rfl), Q_HB⟩
          refine steps_cons ?_ ?_
          · rintro b a w' ⟨ha, Q_HB⟩ hb_ hon hoff
            refine ⟨_, rfl, fun K hK => ?_⟩
            have e3 : a.tmps[3]? = some (.int .i64 i0) := by rw [ha]; exact (putSel_off rfl).trans rfl
            have e89 : a.tmps[89]? = some (.bool false) := by rw [ha]; exact putSel_on (e := (17, 89, .bool false)) 17 rfl rfl (hon 17 (by kernel_rfl)) rfl
            replace ha := Aside0.mk ha
            have HB := Aside0.mk Q_HB
            refine value_ (w1 := w') (v := .int .i64 i0) (wanted_on rfl rfl rfl (e89.trans (by first | rfl | (simp [*]; done)))) rfl ?_ ?_
            · go_simp
              (try simp only [i64_w])
              try rfl
            refine hK.out _ _ ⟨(by rw [ha.out]; exact putSel_upk 20 hb_ rfl rfl rfl), Q_HB⟩
          refine steps_cons ?_ ?_
          · rintro b a w' ⟨ha, Q_HB⟩ hb_ hon hoff
            refine ⟨_, rfl, fun K hK => ?_⟩
            have e91 : a.tmps[91]? = some (.int .i64 i0) := by rw [ha]; exact putSel_on (e := (19, 91, .int .i64 i0)) 19 rfl rfl (hon 19 (by kernel_rfl)) rfl
            have e92 : a.tmps[92]? = some (.int .i64 i0) := by rw [ha]; exact putSel_on (e := (20, 92, .int .i64 i0)) 20 rfl rfl (hon 20 (by kernel_rfl)) rfl
            have e89 : a.tmps[89]? = some (.bool false) := by rw [ha]; exact putSel_on (e := (17, 89, .bool false)) 17 rfl rfl (hon 17 (by kernel_rfl)) rfl
            replace ha := Aside0.mk ha
            have HB := Aside0.mk Q_HB
            refine value_ (w1 := w') (v := .bool false) (wanted_on rfl rfl rfl (e89.trans (by first | rfl | (simp [*]; done)))) rfl ?_ ?_
            · go_simp
              first | done | rfl | (simp; done)
            refine hK.out _ _ ⟨(by rw [ha.out]; exact putSel_upk 21 hb_ rfl rfl rfl), HB.out⟩
          refine steps_cons ?_ ?_
          · rintro b a w' ⟨ha, Q_HB⟩ hb_ hon hoff
            refine ⟨_, rfl, fun K hK => ?_⟩
            have e89 : a.tmps[89]? = some (.bool false) := by rw [ha]; exact putSel_on (e := (17, 89, .bool false)) 17 rfl rfl (hon 17 (by kernel_rfl)) rfl
            have e93 : a.tmps[93]? = some (.bool false) := by rw [ha]; exact putSel_on (e := (21, 93, .bool false)) 21 rfl rfl (hon 21 (by kernel_rfl)) rfl
            have e73 : a.tmps[73]? = some (.bool true) := by rw [ha]; exact putSel_on (e := (1, 73, .bool true)) 1 rfl rfl (hon 1 (by kernel_rfl)) rfl
            replace ha := Aside0.mk ha
            have HB := Aside0.mk Q_HB
            refine value_ (w1 := w') (v := .bool false) (wanted_on rfl rfl rfl (e73.trans (by first | rfl | (simp [*]; done)))) rfl ?_ ?_
            · go_simp
              (try simp only [i64_w])
              try rfl
            refine hK.out _ _ ⟨(by rw [ha.out]; exact putSel_upk 22 hb_ rfl rfl rfl), Q_HB⟩
          refine steps_cons ?_ ?_
          · rintro b a w' ⟨ha, Q_HB⟩ hb_ hon hoff
            refine ⟨_, rfl, fun K hK => ?_⟩
            have e73 : a.tmps[73]? = some (.bool true) := by rw [ha]; exact putSel_on (e := (1, 73, .bool true)) 1 rfl rfl (hon 1 (by kernel_rfl)) rfl
            have e94 : a.tmps[94]? = some (.bool false) := by rw [ha]; exact putSel_on (e := (22, 94, .bool false)) 22 rfl rfl (hon 22 (by kernel_rfl)) rfl
            replace ha := Aside0.mk ha
            have HB := Aside0.mk Q_HB
            refine value_ (w1 := w') (v := .bool false) (by rfl) rfl ?_ ?_
            · go_simp
              (try simp only [i64_w])
              try rfl
            refine hK.out _ _ ⟨(by rw [ha.out]; exact putSel_upk 23 hb_ rfl rfl rfl), Q_HB⟩
          refine steps_cons ?_ ?_
          · rintro b a w' ⟨ha, Q_HB⟩ hb_ hon hoff
            refine ⟨_, rfl, fun K hK => ?_⟩
            have e95 : a.tmps[95]? = some (.bool false) := by rw [ha]; exact putSel_on (e := (23, 95, .bool false)) 23 rfl rfl (hon 23 (by kernel_rfl)) rfl
            replace ha := Aside0.mk ha
            have HB := Aside0.mk Q_HB
            refine value_ (w1 := w') (v := .bool false) (by rfl) rfl ?_ ?_
            · go_simp
              (try simp only [i64_w])
              try rfl
            refine hK.out _ _ ⟨(by rw [ha.out]; exact putSel_upk 24 hb_ rfl rfl rfl), Q_HB⟩
          refine steps_cons ?_ ?_
          · rintro b a w' ⟨ha, Q_HB⟩ hb_ hon hoff
            refine ⟨_, rfl, fun K hK => ?_⟩
            have e19 : a.tmps[19]? = some (.bool true) := by rw [ha]; exact (putSel_off rfl).trans rfl
            have e96 : a.tmps[96]? = some (.bool false) := by rw [ha]; exact putSel_on (e := (24, 96, .bool false)) 24 rfl rfl (hon 24 (by kernel_rfl)) rfl
            replace ha := Aside0.mk ha
            have HB := Aside0.mk Q_HB
            refine value_ (w1 := w') (v := .bool true) (wanted_on rfl rfl rfl (e96.trans (by first | rfl | (simp [*]; done)))) rfl ?_ ?_
            · go_simp
              (try simp only [i64_w])
              try rfl
            refine hK.out _ _ ⟨(by rw [ha.out]; exact putSel_upk 25 hb_ rfl rfl rfl), Q_HB⟩
          refine steps_cons ?_ ?_
          · rintro b a w' ⟨ha, Q_HB⟩ hb_ hon hoff
            refine ⟨_, rfl, fun K hK => ?_⟩
            have e97 : a.tmps[97]? = some (.bool true) := by rw [ha]; exact putSel_on (e := (25, 97, .bool true)) 25 rfl rfl (hon 25 (by kernel_rfl)) rfl
            have e96 : a.tmps[96]? = some (.bool false) := by rw [ha]; exact putSel_on (e := (24, 96, .bool false)) 24 rfl rfl (hon 24 (by kernel_rfl)) rfl
            replace ha := Aside0.mk ha
            have HB := Aside0.mk Q_HB
            refine value_ (w1 := w') (v := .bool false) (wanted_on rfl rfl rfl (e96.trans (by first | rfl | (simp [*]; done)))) rfl ?_ ?_
            · go_simp
              (try simp only [i64_w])
              try rfl
            refine hK.out _ _ ⟨(by rw [ha.out]; exact putSel_upk 26 hb_ rfl rfl rfl), Q_HB⟩
          refine steps_cons ?_ ?_
          · rintro b a w' ⟨ha, Q_HB⟩ hb_ hon hoff
            refine ⟨_, rfl, fun K hK => ?_⟩
            have e98 : a.tmps[98]? = some (.bool false) := by rw [ha]; exact putSel_on (e := (26, 98, .bool false)) 26 rfl rfl (hon 26 (by kernel_rfl)) rfl
            have e96 : a.tmps[96]? = some (.bool false) := by rw [ha]; exact putSel_on (e := (24, 96, .bool false)) 24 rfl rfl (hon 24 (by kernel_rfl)) rfl
            replace ha := Aside0.mk ha
            have HB := Aside0.mk Q_HB
            refine value_ (w1 := w') (v := .bool false) (wanted_on rfl rfl rfl (e96.trans (by first | rfl | (simp [*]; done)))) rfl ?_ ?_
            · go_simp
              (try simp only [i64_w])
              try rfl
            refine hK.out _ _ ⟨(by rw [ha.out]; exact putSel_upk 27 hb_ rfl rfl rfl), Q_HB⟩
          refine steps_cons ?_ ?_
          · rintro b a w' ⟨ha, Q_HB⟩ hb_ hon hoff
            refine ⟨_, rfl, fun K hK => ?_⟩
            have e99 : a.tmps[99]? = some (.bool false) := by rw [ha]; exact putSel_on (e := (27, 99, .bool false)) 27 rfl rfl (hon 27 (by kernel_rfl)) rfl
            replace ha := Aside0.mk ha
            have HB := Aside0.mk Q_HB
            refine off_ (wanted_off rfl rfl rfl (e99.trans (by first | rfl | (simp [*]; done)))) ?_
            refine hK.out _ _ ⟨(by rw [ha.out]; exact putSel_upk 28 hb_ rfl rfl rfl), Q_HB⟩
          refine steps_cons ?_ ?_
          · rintro b a w' ⟨ha, Q_HB⟩ hb_ hon hoff
            refine ⟨_, rfl, fun K hK => ?_⟩
            have e99 : a.tmps[99]? = some (.bool false) := by rw [ha]; exact putSel_on (e := (27, 99, .bool false)) 27 rfl rfl (hon 27 (by kernel_rfl)) rfl
            replace ha := Aside0.mk ha
            have HB := Aside0.mk Q_HB
            refine off_ (wanted_off rfl rfl rfl (e99.trans (by first | rfl | (simp [*]; done)))) ?_
            refine hK.out _ _ ⟨(by rw [ha.out]; exact putSel_upk 29 hb_ rfl rfl rfl), Q_HB⟩
          refine steps_cons ?_ ?_
          · rintro b a w' ⟨ha, Q_HB⟩ hb_ hon hoff
            refine ⟨_, rfl, fun K hK => ?_⟩
            have e99 : a.tmps[99]? = some (.bool false) := by rw [ha]; exact putSel_on (e := (27, 99, .bool false)) 27 rfl rfl (hon 27 (by kernel_rfl)) rfl
            replace ha := Aside0.mk ha
            have HB := Aside0.mk Q_HB
            refine off_ (wanted_off rfl rfl rfl (e99.trans (by first | rfl | (simp [*]; done)))) ?_
            refine hK.out _ _ ⟨(by rw [ha.out]; exact putSel_upk 30 hb_ rfl rfl rfl), Q_HB⟩
          refine steps_cons ?_ ?_
          · rintro b a w' ⟨ha, Q_HB⟩ hb_ hon hoff
            refine ⟨_, rfl, fun K hK => ?_⟩
            have e99 : a.tmps[99]? = some (.bool false) := by rw [ha]; exact putSel_on (e := (27, 99, .bool false)) 27 rfl rfl (hon 27 (by kernel_rfl)) rfl
            replace ha := Aside0.mk ha
            have HB := Aside0.mk Q_HB
            refine off_ (wanted_off rfl rfl rfl (e99.trans (by first | rfl | (simp [*]; done)))) ?_
            refine hK.out _ _ ⟨(by rw [ha.out]; exact putSel_upk 31 hb_ rfl rfl rfl), Q_HB⟩
          refine steps_cons ?_ ?_
          · rintro b a w' ⟨ha, Q_HB⟩ hb_ hon hoff
            refine ⟨_, rfl, fun K hK => ?_⟩
            have e99 : a.tmps[99]? = some (.bool false) := by rw [ha]; exact putSel_on (e := (27, 99, .bool false)) 27 rfl rfl (hon 27 (by kernel_rfl)) rfl
            replace ha := Aside0.mk ha
            have HB := Aside0.mk Q_HB
            refine off_ (wanted_off rfl rfl rfl (e99.trans (by first | rfl | (simp [*]; done)))) ?_
            refine hK.out _ _ ⟨(by rw [ha.out]; exact putSel_upk 32 hb_ rfl rfl rfl), Q_HB⟩
          refine steps_cons ?_ ?_
          · rintro b a w' ⟨ha, Q_HB⟩ hb_ hon hoff
            refine ⟨_, rfl, fun K hK => ?_⟩
            have e99 : a.tmps[99]? = some (.bool false) := by rw [ha]; exact putSel_on (e := (27, 99, .bool false)) 27 rfl rfl (hon 27 (by kernel_rfl)) rfl
            have e104 : a.tmps[104]? = some (undef) := by rw [ha]; exact putSel_on (e := (32, 104, undef)) 32 rfl rfl (hon 32 (by kernel_rfl)) rfl
            have e96 : a.tmps[96]? = some (.bool false) := by rw [ha]; exact putSel_on (e := (24, 96, .bool false)) 24 rfl rfl (hon 24 (by kernel_rfl)) rfl
            replace ha := Aside0.mk ha
            have HB := Aside0.mk Q_HB
            refine value_ (w1 := w') (v := .bool false) (wanted_on rfl rfl rfl (e96.trans (by first | rfl | (simp [*]; done)))) rfl ?_ ?_
            · go_simp
              (try simp only [i64_w])
              try rfl
            refine hK.out _ _ ⟨(by rw [ha.out]; exact putSel_upk 33 hb_ rfl rfl rfl), Q_HB⟩
          refine steps_cons ?_ ?_
          · rintro b a w' ⟨ha, Q_HB⟩ hb_ hon hoff
            refine ⟨_, rfl, fun K hK => ?_⟩
            have e96 : a.tmps[96]? = some (.bool false) := by rw [ha]; exact putSel_on (e := (24, 96, .bool false)) 24 rfl rfl (hon 24 (by kernel_rfl)) rfl
            have e105 : a.tmps[105]? = some (.bool false) := by rw [ha]; exact putSel_on (e := (33, 105, .bool false)) 33 rfl rfl (hon 33 (by kernel_rfl)) rfl
            replace ha := Aside0.mk ha
            have HB := Aside0.mk Q_HB
            refine value_ (w1 := w') (v := .bool false) (by rfl) rfl ?_ ?_
            · go_simp
              (try simp only [i64_w])
              try rfl
            refine hK.out _ _ ⟨(by rw [ha.out]; exact putSel_upk 34 hb_ rfl rfl rfl), Q_HB⟩
          refine steps_cons ?_ ?_
          · rintro b a w' ⟨ha, Q_HB⟩ hb_ hon hoff
            refine ⟨_, rfl, fun K hK => ?_⟩
            have e106 : a.tmps[106]? = some (.bool false) := by rw [ha]; exact putSel_on (e := (34, 106, .bool false)) 34 rfl rfl (hon 34 (by kernel_rfl)) rfl
            replace ha := Aside0.mk ha
            have HB := Aside0.mk Q_HB
            refine value_ (w1 := w') (v := .bool false) (by rfl) rfl ?_ ?_
            · go_simp
              (try simp only [i64_w])
              try rfl
            refine hK.out _ _ ⟨(by rw [ha.out]; exact putSel_upk 35 hb_ rfl rfl rfl), Q_HB⟩
          refine steps_cons ?_ ?_
          · rintro b a w' ⟨ha, Q_HB⟩ hb_ hon hoff
            refine ⟨_, rfl, fun K hK => ?_⟩
            have e17 : a.tmps[17]? = some (.pointer (some ⟨g17, 0, none⟩)) := by rw [ha]; exact (putSel_off rfl).trans rfl
            have e107 : a.tmps[107]? = some (.bool false) := by rw [ha]; exact putSel_on (e := (35, 107, .bool false)) 35 rfl rfl (hon 35 (by kernel_rfl)) rfl
            replace ha := Aside0.mk ha
            have HB := Aside0.mk Q_HB
            have hcp0 : w'.cell? ⟨g17, 0, none⟩ = some (.int .i64 mz) := (blk_cell (show w'.heap[g17]? = some (.cells #[.int .i64 mz, .slice (some ad) z.length b6] 24 (0, 0)) from (HH15.out.go HB.out).get 9 rfl) 0).trans rfl
            have hfp0 := blk_frozen (show w'.heap[g17]? = some (.cells #[.int .i64 mz, .slice (some ad) z.length b6] 24 (0, 0)) from (HH15.out.go HB.out).get 9 rfl) 0
            have hcp1 : w'.cell? ⟨g17, 1, none⟩ = some (.slice (some ad) z.length b6) := (blk_cell (show w'.heap[g17]? = some (.cells #[.int .i64 mz, .slice (some ad) z.length b6] 24 (0, 0)) from (HH15.out.go HB.out).get 9 rfl) 1).trans rfl
            have hfp1 := blk_frozen (show w'.heap[g17]? = some (.cells #[.int .i64 mz, .slice (some ad) z.length b6] 24 (0, 0)) from (HH15.out.go HB.out).get 9 rfl) 1
            refine value_ (w1 := w') (v := .agg #[.int .i64 mz, .slice (some ad) z.length b6]) (wanted_on rfl rfl rfl (e107.trans (by first | rfl | (simp [*]; done)))) rfl ?_ ?_
            · go_simp
              (try simp only [i64_w])
              try rfl
            refine hK.out _ _ ⟨(by rw [ha.out]; exact putSel_upk 36 hb_ rfl rfl rfl), Q_HB⟩
          refine steps_cons ?_ ?_
          · rintro b a w' ⟨ha, Q_HB⟩ hb_ hon hoff
            refine ⟨_, rfl, fun K hK => ?_⟩
            have e108 : a.tmps[108]? = some (.agg #[.int .i64 mz, .slice (some ad) z.length b6]) := by rw [ha]; exact putSel_on (e := (36, 108, .agg #[.int .i64 mz, .slice (some ad) z.length b6])) 36 rfl rfl (hon 36 (by kernel_rfl)) rfl
            have e107 : a.tmps[107]? = some (.bool false) := by rw [ha]; exact putSel_on (e := (35, 107, .bool false)) 35 rfl rfl (hon 35 (by kernel_rfl)) rfl
            replace ha := Aside0.mk ha
            have HB := Aside0.mk Q_HB
            refine goes_ Try.func19 rfl rfl #[.agg #[.int .i64 mz, .slice (some ad) z.length b6]] (wanted_on rfl rfl rfl (e107.trans (by first | rfl | (simp [*]; done)))) rfl rfl (by first | (simp only [List.map_toArray, List.map_cons, List.map_nil, Act.eval, Array.getD_eq_getD_getElem?, Option.getD_some, e108, e107]; done) | (simp only [List.map_toArray, List.map_cons, List.map_nil, Act.eval, Array.getD_eq_getD_getElem?, Option.getD_some, e108, e107]; rfl)) ?_
            refine (cache_Right.calls k mz (some ad) b6 z true w' (show Kd.C k27 w' (some ad) z.length z from (HH15.out.go HB.out).get 8 rfl) hb6 HP.out.right).mono ?_
            rintro e_ w4_ ⟨rfl, hbel⟩
            refine ⟨_, rfl, ?_⟩
            refine hK.out _ _ ⟨(by rw [ha.out]; exact putSel_upk 37 hb_ rfl rfl rfl), below_step HB.out hbel⟩
          refine steps_cons ?_ ?_
          · rintro b a w' ⟨ha, Q_HB⟩ hb_ hon hoff
            refine ⟨_, rfl, fun K hK => ?_⟩
            have e109 : a.tmps[109]? = some (.bool true) := by rw [ha]; exact putSel_on (e := (37, 109, .bool true)) 37 rfl rfl (hon 37 (by kernel_rfl)) rfl
            have e107 : a.tmps[107]? = some (.bool false) := by rw [ha]; exact putSel_on (e := (35, 107, .bool false)) 35 rfl rfl (hon 35 (by kernel_rfl)) rfl
            replace ha := Aside0.mk ha
            have HB := Aside0.mk Q_HB
            refine value_ (w1 := w') (v := .bool false) (wanted_on rfl rfl rfl (e107.trans (by first | rfl | (simp [*]; done)))) rfl ?_ ?_
            · go_simp
              (try simp only [i64_w])
              try rfl
            refine hK.out _ _ ⟨(by rw [ha.out]; exact putSel_upk 38 hb_ rfl rfl rfl), Q_HB⟩
          refine steps_cons ?_ ?_
          · rintro b a w' ⟨ha, Q_HB⟩ hb_ hon hoff
            refine ⟨_, rfl, fun K hK => ?_⟩
            have e107 : a.tmps[107]? = some (.bool false) := by rw [ha]; exact putSel_on (e := (35, 107, .bool false)) 35 rfl rfl (hon 35 (by kernel_rfl)) rfl
            have e110 : a.tmps[110]? = some (.bool false) := by rw [ha]; exact putSel_on (e := (38, 110, .bool false)) 38 rfl rfl (hon 38 (by kernel_rfl)) rfl
            replace ha := Aside0.mk ha
            have HB := Aside0.mk Q_HB
            refine value_ (w1 := w') (v := .bool false) (by rfl) rfl ?_ ?_
            · go_simp
              (try simp only [i64_w])
              try rfl
            refine hK.out _ _ ⟨(by rw [ha.out]; exact putSel_upk 39 hb_ rfl rfl rfl), Q_HB⟩
          exact steps_nil
        · rintro b a w' hall ⟨ha, Q_HB⟩
          clear HB
          have hb0_ := hall 0 (by kernel_rfl)
          have hb1_ := hall 1 (by kernel_rfl)
          have hb2_ := hall 2 (by kernel_rfl)
          have hb3_ := hall 3 (by kernel_rfl)
          have hb4_ := hall 4 (by kernel_rfl)
          have hb5_ := hall 5 (by kernel_rfl)
          have hb6_ := hall 6 (by kernel_rfl)
          have hb7_ := hall 7 (by kernel_rfl)
          have hb8_ := hall 8 (by kernel_rfl)
          have hb9_ := hall 9 (by kernel_rfl)
          have hb10_ := hall 10 (by kernel_rfl)
          have hb11_ := hall 11 (by kernel_rfl)
          have hb12_ := hall 12 (by kernel_rfl)
          have hb13_ := hall 13 (by kernel_rfl)
          have hb14_ := hall 14 (by kernel_rfl)
          have hb15_ := hall 15 (by kernel_rfl)
          have hb16_ := hall 16 (by kernel_rfl)
          have hb17_ := hall 17 (by kernel_rfl)
          have hb18_ := hall 18 (by kernel_rfl)
          have hb19_ := hall 19 (by kernel_rfl)
          have hb20_ := hall 20 (by kernel_rfl)
          have hb21_ := hall 21 (by kernel_rfl)
          have hb22_ := hall 22 (by kernel_rfl)
          have hb23_ := hall 23 (by kernel_rfl)
          have hb24_ := hall 24 (by kernel_rfl)
          have hb25_ := hall 25 (by kernel_rfl)
          have hb26_ := hall 26 (by kernel_rfl)
          have hb27_ := hall 27 (by kernel_rfl)
          have hb28_ := hall 28 (by kernel_rfl)
          have hb29_ := hall 29 (by kernel_rfl)
          have hb30_ := hall 30 (by kernel_rfl)
          have hb31_ := hall 31 (by kernel_rfl)
          have hb32_ := hall 32 (by kernel_rfl)
          have hb33_ := hall 33 (by kernel_rfl)
          have hb34_ := hall 34 (by kernel_rfl)
          have hb35_ := hall 35 (by kernel_rfl)
          have hb36_ := hall 36 (by kernel_rfl)
          have hb37_ := hall 37 (by kernel_rfl)
          have hb38_ := hall 38 (by kernel_rfl)
          have hb39_ := hall 39 (by kernel_rfl)
          subst ha
          simp only [putSel, hb0_, hb1_, hb2_, hb3_, hb4_, hb5_, hb6_, hb7_, hb8_, hb9_, hb10_, hb11_, hb12_, hb13_, hb14_, hb15_, hb16_, hb17_, hb18_, hb19_, hb20_, hb21_, hb22_, hb23_, hb24_, hb25_, hb26_, hb27_, hb28_, hb29_, hb30_, hb31_, hb32_, hb33_, hb34_, hb35_, hb36_, hb37_, hb38_, hb39_, if_true, Act.put, List.setIfInBounds_toArray, List.set_cons_zero, List.set_cons_succ]
          have HB := Aside0.mk Q_HB
          clear Q_HB
          clear hall hb0_ hb1_ hb2_ hb3_ hb4_ hb5_ hb6_ hb7_ hb8_ hb9_ hb10_ hb11_ hb12_ hb13_ hb14_ hb15_ hb16_ hb17_ hb18_ hb19_ hb20_ hb21_ hb22_ hb23_ hb24_ hb25_ hb26_ hb27_ hb28_ hb29_ hb30_ hb31_ hb32_ hb33_ hb34_ hb35_ hb36_ hb37_ hb38_ hb39_
          go_wp2
          go_meet
          case rel => exact ⟨rfl, ⟨HH15.out.go HB.out⟩⟩
    case rest =>
      obtain ⟨rfl, HH15⟩ := hcut
      go_wp2
      refine start_ (n := 27) (S := fun w' => True) (ds := []) #[false, false, false, false, false, false, false, false, false, false, false, false, false, false, false, false, false, false, false, false, false, false, false, false, false, false, false] (by kernel_rfl) rfl rfl trivial (fun hHeld => ?_); refine with_tabW CParts.tab9 CParts.bits9 (fun HT_ HW_ => ?_)
      replace HH15 := Aside0.mk HH15.out.drew
      generalize wc.drew = w17 at HH15 ⊢
      have HB := Aside0.mk (Below.refl w17.heap.size w17)
      refine pure_ (i := 0) (N := some 112) (v := ?_) (a' := ?_) #[true, false, false, false, false, false, false, false, false, false, false, false, false, false, false, false, false, false, false, false, false, false, false, false, false, false, false] rfl rfl (any_of HT_.out (by kernel_rfl)) (fun _ _ _ h => h) (Or.inl ⟨by rfl, ?_⟩) ?_ ?_
      rotate_left
      · intro w'
        go_simp
        with_reducible rfl
      rotate_left
      · simp only [Act.put, List.setIfInBounds_toArray, List.set_cons_zero, List.set_cons_succ, i64_w, i32_w]
        rfl
      refine inv_at [1, 2, 3, 4, 5, 6, 7, 8, 9, 10, 11, 12, 13, 14, 15, 16, 17, 18, 19, 20, 21, 22, 23, 24, 25, 26] (fun a0_ b a w' => ∃ (vr : Value) (v125 : Value) (v127 : Value) (v129 : Value) (v130 : Value) (v132 : Value) (m9_ : Value), a = putSel a0_ b [(1, 113, .bool true), (2, 114, .bool true), (3, 115, .int .i64 0), (4, 116, .bool true), (5, 117, .bool true), (6, 118, .bool true), (7, 119, .agg #[.int .i64 m2, .slice B2 x2.length b2]), (8, 120, .agg #[.int .i64 my, .slice B5 y.length b5]), (9, 121, m9_), (10, 122, .bool true), (11, 123, .bool true), (12, 124, .bool true), (13, 125, v125), (14, 126, .slice D1 out.length d1), (15, 127, v127), (16, 128, .slice D2 more.length d2), (17, 129, v129), (18, 130, v130), (19, 131, .slice D5 all.length d5), (20, 132, v132), (21, 133, .bool true), (22, 134, .bool true), (23, 135, .bool true), (24, 136, .bool true), (25, 137, .bool true), (26, 8, .bool true)] ∧ (Below w17.heap.size w17 w') ∧ (b 9 = true → b 10 = false → Kd.R k33 33 w' w17.heap.size (fun _ => True) vr ry) ∧ (b 13 = true → b 15 = false → Kd.R k27 27 w' w17.heap.size (fun _ => True) v125 []) ∧ (b 15 = true → b 17 = false → Kd.R k27 27 w' w17.heap.size (fun _ => True) v127 out) ∧ (b 17 = true → b 18 = false → Kd.R k27 27 w' w17.heap.size (fun _ => True) v129 (out ++ more)) ∧ (b 18 = true → b 21 = false → Kd.R k33 33 w' w17.heap.size (fun _ => True) v130 ro) ∧ (b 20 = true → b 21 = false → Kd.R k33 33 w' w17.heap.size (fun _ => True) v132 ra) ∧ (b 9 = true → (m9_ : Value) = .agg #[.int .i64 mr, vr])) HT_.out HW_.out (by kernel_rfl) (by kernel_rfl) ?_ ?_ ?_
      · exact ⟨.bool false, .bool false, .bool false, .bool false, .bool false, .bool false, .bool false, by simp only [putSel, Bool.false_eq_true, if_false], HB.out, fun h_ => absurd h_ (by decide), fun h_ => absurd h_ (by decide), fun h_ => absurd h_ (by decide), fun h_ => absurd h_ (by decide), fun h_ => absurd h_ (by decide), fun h_ => absurd h_ (by decide), fun h_ => absurd h_ (by decide)⟩
      · skip
        clear HB
        refine steps_cons ?_ ?_
        · rintro b a w' ⟨vr, v125, v127, v129, v130, v132, m9_, ha, Q_HB, Q_RR, Q_R125, Q_R127, Q_R129, Q_RS130, Q_RS132, Q_X9_⟩ hb_ hon hoff
          refine ⟨_, rfl, fun K hK => ?_⟩
          have e112 : a.tmps[112]? = some (.int .i64 0) := by rw [ha]; exact (putSel_off rfl).trans rfl
          replace ha := Aside0.mk ha
          have HB := Aside0.mk Q_HB
          refine value_ (w1 := w') (v := .bool true) (by rfl) rfl ?_ ?_
          · go_simp
            (try simp only [i64_w])
            try rfl
          refine hK.out _ _ ⟨vr, v125, v127, v129, v130, v132, m9_, (by rw [ha.out]; exact putSel_upk 0 hb_ rfl rfl rfl), Q_HB, fun h0_ _ => absurd ((hoff 9 (by kernel_rfl)).symm.trans h0_) (by decide), fun h0_ _ => absurd ((hoff 13 (by kernel_rfl)).symm.trans h0_) (by decide), fun h0_ _ => absurd ((hoff 15 (by kernel_rfl)).symm.trans h0_) (by decide), fun h0_ _ => absurd ((hoff 17 (by kernel_rfl)).symm.trans h0_) (by decide), fun h0_ _ => absurd ((hoff 18 (by kernel_rfl)).symm.trans h0_) (by decide), fun h0_ _ => absurd ((hoff 20 (by kernel_rfl)).symm.trans h0_) (by decide), fun h0_ => absurd ((hoff 9 (by kernel_rfl)).symm.trans h0_) (by decide)⟩
        refine steps_cons ?_ ?_
        · rintro b a w' ⟨vr, v125, v127, v129, v130, v132, m9_, ha, Q_HB, Q_RR, Q_R125, Q_R127, Q_R129, Q_RS130, Q_RS132, Q_X9_⟩ hb_ hon hoff
          refine ⟨_, rfl, fun K hK => ?_⟩
          have e113 : a.tmps[113]? = some (.bool true) := by rw [ha]; exact putSel_on (e := (1, 113, .bool true)) 0 rfl rfl (hon 1 (by kernel_rfl)) rfl
          replace ha := Aside0.mk ha
          have HB := Aside0.mk Q_HB
          refine value_ (w1 := w') (v := .bool true) (by rfl) rfl ?_ ?_
          · go_simp
            (try simp only [i64_w])
            try rfl
          refine hK.out _ _ ⟨vr, v125, v127, v129, v130, v132, m9_, (by rw [ha.out]; exact putSel_upk 1 hb_ rfl rfl rfl), Q_HB, fun h0_ _ => absurd ((hoff 9 (by kernel_rfl)).symm.trans h0_) (by decide), fun h0_ _ => absurd ((hoff 13 (by kernel_rfl)).symm.trans h0_) (by decide), fun h0_ _ => absurd ((hoff 15 (by kernel_rfl)).symm.trans h0_) (by decide), fun h0_ _ => absurd ((hoff 17 (by kernel_rfl)).symm.trans h0_) (by decide), fun h0_ _ => absurd ((hoff 18 (by kernel_rfl)).symm.trans h0_) (by decide), fun h0_ _ => absurd ((hoff 20 (by kernel_rfl)).symm.trans h0_) (by decide), fun h0_ => absurd ((hoff 9 (by kernel_rfl)).symm.trans h0_) (by decide)⟩
        refine steps_cons ?_ ?_
        · rintro b a w' ⟨vr, v125, v127, v129, v130, v132, m9_, ha, Q_HB, Q_RR, Q_R125, Q_R127, Q_R129, Q_RS130, Q_RS132, Q_X9_⟩ hb_ hon hoff
          refine ⟨_, rfl, fun K hK => ?_⟩
          have e16 : a.tmps[16]? = some (.int .i64 0) := by rw [ha]; exact (putSel_off rfl).trans rfl
          have e114 : a.tmps[114]? = some (.bool true) := by rw [ha]; exact putSel_on (e := (2, 114, .bool true)) 1 rfl rfl (hon 2 (by kernel_rfl)) rfl
          replace ha := Aside0.mk ha
          have HB := Aside0.mk Q_HB
          refine value_ (w1 := w') (v := .int .i64 0) (wanted_on rfl rfl rfl (e114.trans (by first | rfl | (simp [*]; done)))) rfl ?_ ?_
          · go_simp
            (try simp only [i64_w])
            try rfl
          refine hK.out _ _ ⟨vr, v125, v127, v129, v130, v132, m9_, (by rw [ha.out]; exact putSel_upk 2 hb_ rfl rfl rfl), Q_HB, fun h0_ _ => absurd ((hoff 9 (by kernel_rfl)).symm.trans h0_) (by decide), fun h0_ _ => absurd ((hoff 13 (by kernel_rfl)).symm.trans h0_) (by decide), fun h0_ _ => absurd ((hoff 15 (by kernel_rfl)).symm.trans h0_) (by decide), fun h0_ _ => absurd ((hoff 17 (by kernel_rfl)).symm.trans h0_) (by decide), fun h0_ _ => absurd ((hoff 18 (by kernel_rfl)).symm.trans h0_) (by decide), fun h0_ _ => absurd ((hoff 20 (by kernel_rfl)).symm.trans h0_) (by decide), fun h0_ => absurd ((hoff 9 (by kernel_rfl)).symm.trans h0_) (by decide)⟩
        refine steps_cons ?_ ?_
        · rintro b a w' ⟨vr, v125, v127, v129, v130, v132, m9_, ha, Q_HB, Q_RR, Q_R125, Q_R127, Q_R129, Q_RS130, Q_RS132, Q_X9_⟩ hb_ hon hoff
          refine ⟨_, rfl, fun K hK => ?_⟩
          have e115 : a.tmps[115]? = some (.int .i64 0) := by rw [ha]; exact putSel_on (e := (3, 115, .int .i64 0)) 2 rfl rfl (hon 3 (by kernel_rfl)) rfl
          have e114 : a.tmps[114]? = some (.bool true) := by rw [ha]; exact putSel_on (e := (2, 114, .bool true)) 1 rfl rfl (hon 2 (by kernel_rfl)) rfl
          replace ha := Aside0.mk ha
          have HB := Aside0.mk Q_HB
          refine value_ (w1 := w') (v := .bool true) (wanted_on rfl rfl rfl (e114.trans (by first | rfl | (simp [*]; done)))) rfl ?_ ?_
          · go_simp
            (try simp only [i64_w])
            try rfl
          refine hK.out _ _ ⟨vr, v125, v127, v129, v130, v132, m9_, (by rw [ha.out]; exact putSel_upk 3 hb_ rfl rfl rfl), Q_HB, fun h0_ _ => absurd ((hoff 9 (by kernel_rfl)).symm.trans h0_) (by decide), fun h0_ _ => absurd ((hoff 13 (by kernel_rfl)).symm.trans h0_) (by decide), fun h0_ _ => absurd ((hoff 15 (by kernel_rfl)).symm.trans h0_) (by decide), fun h0_ _ => absurd ((hoff 17 (by kernel_rfl)).symm.trans h0_) (by decide), fun h0_ _ => absurd ((hoff 18 (by kernel_rfl)).symm.trans h0_) (by decide), fun h0_ _ => absurd ((hoff 20 (by kernel_rfl)).symm.trans h0_) (by decide), fun h0_ => absurd ((hoff 9 (by kernel_rfl)).symm.trans h0_) (by decide)⟩
        refine steps_cons ?_ ?_
        · rintro b a w' ⟨vr, v125, v127, v129, v130, v132, m9_, ha, Q_HB, Q_RR, Q_R125, Q_R127, Q_R129, Q_RS130, Q_RS132, Q_X9_⟩ hb_ hon hoff
          refine ⟨_, rfl, fun K hK => ?_⟩
          have e114 : a.tmps[114]? = some (.bool true) := by rw [ha]; exact putSel_on (e := (2, 114, .bool true)) 1 rfl rfl (hon 2 (by kernel_rfl)) rfl
          have e116 : a.tmps[116]? = some (.bool true) := by rw [ha]; exact putSel_on (e := (4, 116, .bool true)) 3 rfl rfl (hon 4 (by kernel_rfl)) rfl
          replace ha := Aside0.mk ha
          have HB := Aside0.mk Q_HB
          refine value_ (w1 := w') (v := .bool true) (by rfl) rfl ?_ ?_
          · go_simp
            (try simp only [i64_w])
            try rfl
          refine hK.out _ _ ⟨vr, v125, v127, v129, v130, v132, m9_, (by rw [ha.out]; exact putSel_upk 4 hb_ rfl rfl rfl), Q_HB, fun h0_ _ => absurd ((hoff 9 (by kernel_rfl)).symm.trans h0_) (by decide), fun h0_ _ => absurd ((hoff 13 (by kernel_rfl)).symm.trans h0_) (by decide), fun h0_ _ => absurd ((hoff 15 (by kernel_rfl)).symm.trans h0_) (by decide), fun h0_ _ => absurd ((hoff 17 (by kernel_rfl)).symm.trans h0_) (by decide), fun h0_ _ => absurd ((hoff 18 (by kernel_rfl)).symm.trans h0_) (by decide), fun h0_ _ => absurd ((hoff 20 (by kernel_rfl)).symm.trans h0_) (by decide), fun h0_ => absurd ((hoff 9 (by kernel_rfl)).symm.trans h0_) (by decide)⟩
        refine steps_cons ?_ ?_
        · rintro b a w' ⟨vr, v125, v127, v129, v130, v132, m9_, ha, Q_HB, Q_RR, Q_R125, Q_R127, Q_R129, Q_RS130, Q_RS132, Q_X9_⟩ hb_ hon hoff
          refine ⟨_, rfl, fun K hK => ?_⟩
          have e117 : a.tmps[117]? = some (.bool true) := by rw [ha]; exact putSel_on (e := (5, 117, .bool true)) 4 rfl rfl (hon 5 (by kernel_rfl)) rfl
          replace ha := Aside0.mk ha
          have HB := Aside0.mk Q_HB
          refine value_ (w1 := w') (v := .bool true) (by rfl) rfl ?_ ?_
          · go_simp
            (try simp only [i64_w])
            try rfl
          refine hK.out _ _ ⟨vr, v125, v127, v129, v130, v132, m9_, (by rw [ha.out]; exact putSel_upk 5 hb_ rfl rfl rfl), Q_HB, fun h0_ _ => absurd ((hoff 9 (by kernel_rfl)).symm.trans h0_) (by decide), fun h0_ _ => absurd ((hoff 13 (by kernel_rfl)).symm.trans h0_) (by decide), fun h0_ _ => absurd ((hoff 15 (by kernel_rfl)).symm.trans h0_) (by decide), fun h0_ _ => absurd ((hoff 17 (by kernel_rfl)).symm.trans h0_) (by decide), fun h0_ _ => absurd ((hoff 18 (by kernel_rfl)).symm.trans h0_) (by decide), fun h0_ _ => absurd ((hoff 20 (by kernel_rfl)).symm.trans h0_) (by decide), fun h0_ => absurd ((hoff 9 (by kernel_rfl)).symm.trans h0_) (by decide)⟩
        refine steps_cons ?_ ?_
        · rintro b a w' ⟨vr, v125, v127, v129, v130, v132, m9_, ha, Q_HB, Q_RR, Q_R125, Q_R127, Q_R129, Q_RS130, Q_RS132, Q_X9_⟩ hb_ hon hoff
          refine ⟨_, rfl, fun K hK => ?_⟩
          have e9 : a.tmps[9]? = some (.pointer (some ⟨g9, 0, none⟩)) := by rw [ha]; exact (putSel_off rfl).trans rfl
          have e118 : a.tmps[118]? = some (.bool true) := by rw [ha]; exact putSel_on (e := (6, 118, .bool true)) 5 rfl rfl (hon 6 (by kernel_rfl)) rfl
          replace ha := Aside0.mk ha
          have HB := Aside0.mk Q_HB
          have hcp0 : w'.cell? ⟨g9, 0, none⟩ = some (.int .i64 m2) := (blk_cell (show w'.heap[g9]? = some (.cells #[.int .i64 m2, .slice B2 x2.length b2] 24 (0, 0)) from (HH15.out.go HB.out).get 4 rfl) 0).trans rfl
          have hfp0 := blk_frozen (show w'.heap[g9]? = some (.cells #[.int .i64 m2, .slice B2 x2.length b2] 24 (0, 0)) from (HH15.out.go HB.out).get 4 rfl) 0
          have hcp1 : w'.cell? ⟨g9, 1, none⟩ = some (.slice B2 x2.length b2) := (blk_cell (show w'.heap[g9]? = some (.cells #[.int .i64 m2, .slice B2 x2.length b2] 24 (0, 0)) from (HH15.out.go HB.out).get 4 rfl) 1).trans rfl
          have hfp1 := blk_frozen (show w'.heap[g9]? = some (.cells #[.int .i64 m2, .slice B2 x2.length b2] 24 (0, 0)) from (HH15.out.go HB.out).get 4 rfl) 1
          refine value_ (w1 := w') (v := .agg #[.int .i64 m2, .slice B2 x2.length b2]) (wanted_on rfl rfl rfl (e118.trans (by first | rfl | (simp [*]; done)))) rfl ?_ ?_
          · go_simp
            (try simp only [i64_w])
            try rfl
          refine hK.out _ _ ⟨vr, v125, v127, v129, v130, v132, m9_, (by rw [ha.out]; exact putSel_upk 6 hb_ rfl rfl rfl), Q_HB, Q_RR, fun h0_ _ => absurd ((hoff 13 (by kernel_rfl)).symm.trans h0_) (by decide), fun h0_ _ => absurd ((hoff 15 (by kernel_rfl)).symm.trans h0_) (by decide), fun h0_ _ => absurd ((hoff 17 (by kernel_rfl)).symm.trans h0_) (by decide), fun h0_ _ => absurd ((hoff 18 (by kernel_rfl)).symm.trans h0_) (by decide), fun h0_ _ => absurd ((hoff 20 (by kernel_rfl)).symm.trans h0_) (by decide), Q_X9_⟩
        refine steps_cons ?_ ?_
        · rintro b a w' ⟨vr, v125, v127, v129, v130, v132, m9_, ha, Q_HB, Q_RR, Q_R125, Q_R127, Q_R129, Q_RS130, Q_RS132, Q_X9_⟩ hb_ hon hoff
          refine ⟨_, rfl, fun K hK => ?_⟩
          have e14 : a.tmps[14]? = some (.pointer (some ⟨g14, 0, none⟩)) := by rw [ha]; exact (putSel_off rfl).trans rfl
          have e118 : a.tmps[118]? = some (.bool true) := by rw [ha]; exact putSel_on (e := (6, 118, .bool true)) 5 rfl rfl (hon 6 (by kernel_rfl)) rfl
          replace ha := Aside0.mk ha
          have HB := Aside0.mk Q_HB
          have hcp0 : w'.cell? ⟨g14, 0, none⟩ = some (.int .i64 my) := (blk_cell (show w'.heap[g14]? = some (.cells #[.int .i64 my, .slice B5 y.length b5] 24 (0, 0)) from (HH15.out.go HB.out).get 5 rfl) 0).trans rfl
          have hfp0 := blk_frozen (show w'.heap[g14]? = some (.cells #[.int .i64 my, .slice B5 y.length b5] 24 (0, 0)) from (HH15.out.go HB.out).get 5 rfl) 0
          have hcp1 : w'.cell? ⟨g14, 1, none⟩ = some (.slice B5 y.length b5) := (blk_cell (show w'.heap[g14]? = some (.cells #[.int .i64 my, .slice B5 y.length b5] 24 (0, 0)) from (HH15.out.go HB.out).get 5 rfl) 1).trans rfl
          have hfp1 := blk_frozen (show w'.heap[g14]? = some (.cells #[.int .i64 my, .slice B5 y.length b5] 24 (0, 0)) from (HH15.out.go HB.out).get 5 rfl) 1
          refine value_ (w1 := w') (v := .agg #[.int .i64 my, .slice B5 y.length b5]) (wanted_on rfl rfl rfl (e118.trans (by first | rfl | (simp [*]; done)))) rfl ?_ ?_
          · go_simp
            (try simp only [i64_w])
            try rfl
          refine hK.out _ _ ⟨vr, v125, v127, v129, v130, v132, m9_, (by rw [ha.out]; exact putSel_upk 7 hb_ rfl rfl rfl), Q_HB, fun h0_ _ => absurd ((hoff 9 (by kernel_rfl)).symm.trans h0_) (by decide), fun h0_ _ => absurd ((hoff 13 (by kernel_rfl)).symm.trans h0_) (by decide), fun h0_ _ => absurd ((hoff 15 (by kernel_rfl)).symm.trans h0_) (by decide), fun h0_ _ => absurd ((hoff 17 (by kernel_rfl)).symm.trans h0_) (by decide), fun h0_ _ => absurd ((hoff 18 (by kernel_rfl)).symm.trans h0_) (by decide), fun h0_ _ => absurd ((hoff 20 (by kernel_rfl)).symm.trans h0_) (by decide), fun h0_ => absurd ((hoff 9 (by kernel_rfl)).symm.trans h0_) (by decide)⟩
        refine steps_cons ?_ ?_
        · rintro b a w' ⟨vr, v125, v127, v129, v130, v132, m9_, ha, Q_HB, Q_RR, Q_R125, Q_R127, Q_R129, Q_RS130, Q_RS132, Q_X9_⟩ hb_ hon hoff
          refine ⟨_, rfl, fun K hK => ?_⟩
          have e120 : a.tmps[120]? = some (.agg #[.int .i64 my, .slice B5 y.length b5]) := by rw [ha]; exact putSel_on (e := (8, 120, .agg #[.int .i64 my, .slice B5 y.length b5])) 7 rfl rfl (hon 8 (by kernel_rfl)) rfl
          have e118 : a.tmps[118]? = some (.bool true) := by rw [ha]; exact putSel_on (e := (6, 118, .bool true)) 5 rfl rfl (hon 6 (by kernel_rfl)) rfl
          replace ha := Aside0.mk ha
          have HB := Aside0.mk Q_HB
          refine goes_ Try.func12 rfl rfl #[.agg #[.int .i64 my, .slice B5 y.length b5]] (wanted_on rfl rfl rfl (e118.trans (by first | rfl | (simp [*]; done)))) rfl rfl (by first | (simp only [List.map_toArray, List.map_cons, List.map_nil, Act.eval, Array.getD_eq_getD_getElem?, Option.getD_some, e120, e118]; done) | (simp only [List.map_toArray, List.map_cons, List.map_nil, Act.eval, Array.getD_eq_getD_getElem?, Option.getD_some, e120, e118]; rfl)) ?_
          refine (weirkeeperlaw14_ref.calls k my B5 b5 y mr ry w' (show Kd.C k27 w' B5 y.length y from (HH15.out.go HB.out).get 6 rfl) hb5 HP.out.refy).mono ?_
          rintro e_ w4_ ⟨vr_, rfl, hR_, hbel⟩
          refine ⟨_, rfl, ?_⟩
          refine hK.out _ _ ⟨vr_, v125, v127, v129, v130, v132, (.agg #[.int .i64 mr, vr_]), (by rw [ha.out]; exact putSel_upk 8 hb_ rfl rfl rfl), below_step HB.out hbel, fun _ _ => Kd.R_lower hR_ HB.out.size, fun h0_ _ => absurd ((hoff 13 (by kernel_rfl)).symm.trans h0_) (by decide), fun h0_ _ => absurd ((hoff 15 (by kernel_rfl)).symm.trans h0_) (by decide), fun h0_ _ => absurd ((hoff 17 (by kernel_rfl)).symm.trans h0_) (by decide), fun h0_ _ => absurd ((hoff 18 (by kernel_rfl)).symm.trans h0_) (by decide), fun h0_ _ => absurd ((hoff 20 (by kernel_rfl)).symm.trans h0_) (by decide), fun _ => rfl⟩
        refine steps_cons ?_ ?_
        · rintro b a w' ⟨vr, v125, v127, v129, v130, v132, m9_, ha, Q_HB, Q_RR, Q_R125, Q_R127, Q_R129, Q_RS130, Q_RS132, Q_X9_⟩ hb_ hon hoff
          refine ⟨_, rfl, fun K hK => ?_⟩
          have e119 : a.tmps[119]? = some (.agg #[.int .i64 m2, .slice B2 x2.length b2]) := by rw [ha]; exact putSel_on (e := (7, 119, .agg #[.int .i64 m2, .slice B2 x2.length b2])) 6 rfl rfl (hon 7 (by kernel_rfl)) rfl
          have e121 : a.tmps[121]? = some (m9_) := by rw [ha]; exact putSel_on (e := (9, 121, m9_)) 8 rfl rfl (hon 9 (by kernel_rfl)) rfl
          rw [Q_X9_ (hon 9 (by kernel_rfl))] at e121
          have e118 : a.tmps[118]? = some (.bool true) := by rw [ha]; exact putSel_on (e := (6, 118, .bool true)) 5 rfl rfl (hon 6 (by kernel_rfl)) rfl
          replace ha := Aside0.mk ha
          have HB := Aside0.mk Q_HB
          have RR := Aside0.mk (Q_RR (hon 9 (by kernel_rfl)) hb_)
          obtain ⟨Ar, cr, er_⟩ := Kd.R_slice RR.out
          subst er_
          refine goes_ Try.func18 rfl rfl #[.agg #[.int .i64 m2, .slice B2 x2.length b2], .agg #[.int .i64 mr, .slice Ar ry.length cr]] (wanted_on rfl rfl rfl (e118.trans (by first | rfl | (simp [*]; done)))) rfl rfl (by first | (simp only [List.map_toArray, List.map_cons, List.map_nil, Act.eval, Array.getD_eq_getD_getElem?, Option.getD_some, e119, e121, e118]; done) | (simp only [List.map_toArray, List.map_cons, List.map_nil, Act.eval, Array.getD_eq_getD_getElem?, Option.getD_some, e119, e121, e118]; rfl)) ?_
          refine (weirkeeperlaw14_same.calls k m2 B2 b2 x2 mr Ar cr ry true w' (show Kd.C k27 w' B2 x2.length x2 from (HH15.out.go HB.out).get 3 rfl) hb2 (Kd.R_reads' RR.out).2.2 (Kd.R_reads' RR.out).2.1 HP.out.same).mono ?_
          rintro e_ w4_ ⟨rfl, hbel⟩
          refine ⟨_, rfl, ?_⟩
          refine hK.out _ _ ⟨(.slice Ar ry.length cr), v125, v127, v129, v130, v132, m9_, (by rw [ha.out]; exact putSel_upk 9 hb_ rfl rfl rfl), below_step HB.out hbel, fun _ h1_ => absurd ((up_self b 10).symm.trans h1_) (by decide), fun h0_ _ => absurd ((hoff 13 (by kernel_rfl)).symm.trans h0_) (by decide), fun h0_ _ => absurd ((hoff 15 (by kernel_rfl)).symm.trans h0_) (by decide), fun h0_ _ => absurd ((hoff 17 (by kernel_rfl)).symm.trans h0_) (by decide), fun h0_ _ => absurd ((hoff 18 (by kernel_rfl)).symm.trans h0_) (by decide), fun h0_ _ => absurd ((hoff 20 (by kernel_rfl)).symm.trans h0_) (by decide), Q_X9_⟩
        refine steps_cons ?_ ?_
        · rintro b a w' ⟨vr, v125, v127, v129, v130, v132, m9_, ha, Q_HB, Q_RR, Q_R125, Q_R127, Q_R129, Q_RS130, Q_RS132, Q_X9_⟩ hb_ hon hoff
          refine ⟨_, rfl, fun K hK => ?_⟩
          have e118 : a.tmps[118]? = some (.bool true) := by rw [ha]; exact putSel_on (e := (6, 118, .bool true)) 5 rfl rfl (hon 6 (by kernel_rfl)) rfl
          have e122 : a.tmps[122]? = some (.bool true) := by rw [ha]; exact putSel_on (e := (10, 122, .bool true)) 9 rfl rfl (hon 10 (by kernel_rfl)) rfl
          replace ha := Aside0.mk ha
          have HB := Aside0.mk Q_HB
          refine value_ (w1 := w') (v := .bool true) (by rfl) rfl ?_ ?_
          · go_simp
            (try simp only [i64_w])
            try rfl
          refine hK.out _ _ ⟨vr, v125, v127, v129, v130, v132, m9_, (by rw [ha.out]; exact putSel_upk 10 hb_ rfl rfl rfl), Q_HB, fun _ h1_ => absurd ((hon 10 (by kernel_rfl)).symm.trans h1_) (by decide), fun h0_ _ => absurd ((hoff 13 (by kernel_rfl)).symm.trans h0_) (by decide), fun h0_ _ => absurd ((hoff 15 (by kernel_rfl)).symm.trans h0_) (by decide), fun h0_ _ => absurd ((hoff 17 (by kernel_rfl)).symm.trans h0_) (by decide), fun h0_ _ => absurd ((hoff 18 (by kernel_rfl)).symm.trans h0_) (by decide), fun h0_ _ => absurd ((hoff 20 (by kernel_rfl)).symm.trans h0_) (by decide), Q_X9_⟩
        refine steps_cons ?_ ?_
        · rintro b a w' ⟨vr, v125, v127, v129, v130, v132, m9_, ha, Q_HB, Q_RR, Q_R125, Q_R127, Q_R129, Q_RS130, Q_RS132, Q_X9_⟩ hb_ hon hoff
          refine ⟨_, rfl, fun K hK => ?_⟩
          have e123 : a.tmps[123]? = some (.bool true) := by rw [ha]; exact putSel_on (e := (11, 123, .bool true)) 10 rfl rfl (hon 11 (by kernel_rfl)) rfl
          replace ha := Aside0.mk ha
          have HB := Aside0.mk Q_HB
          refine value_ (w1 := w') (v := .bool true) (by rfl) rfl ?_ ?_
          · go_simp
            (try simp only [i64_w])
            try rfl
          refine hK.out _ _ ⟨vr, v125, v127, v129, v130, v132, m9_, (by rw [ha.out]; exact putSel_upk 11 hb_ rfl rfl rfl), Q_HB, fun _ h1_ => absurd ((hon 10 (by kernel_rfl)).symm.trans h1_) (by decide), fun h0_ _ => absurd ((hoff 13 (by kernel_rfl)).symm.trans h0_) (by decide), fun h0_ _ => absurd ((hoff 15 (by kernel_rfl)).symm.trans h0_) (by decide), fun h0_ _ => absurd ((hoff 17 (by kernel_rfl)).symm.trans h0_) (by decide), fun h0_ _ => absurd ((hoff 18 (by kernel_rfl)).symm.trans h0_) (by decide), fun h0_ _ => absurd ((hoff 20 (by kernel_rfl)).symm.trans h0_) (by decide), Q_X9_⟩
        refine steps_cons ?_ ?_
        · rintro b a w' ⟨vr, v125, v127, v129, v130, v132, m9_, ha, Q_HB, Q_RR, Q_R125, Q_R127, Q_R129, Q_RS130, Q_RS132, Q_X9_⟩ hb_ hon hoff
          refine ⟨_, rfl, fun K hK => ?_⟩
          have e124 : a.tmps[124]? = some (.bool true) := by rw [ha]; exact putSel_on (e := (12, 124, .bool true)) 11 rfl rfl (hon 12 (by kernel_rfl)) rfl
          replace ha := Aside0.mk ha
          have HB := Aside0.mk Q_HB
          refine Kd.R_lit_step k27 w17.heap.size 27 (w0 := w17) (wanted_on rfl rfl rfl (e124.trans (by first | rfl | (simp [*]; done)))) (N := 125) rfl (xs := []) (inner := []) (ok := fun _ => True) (okp := fun _ => True) ?hr ?hp (fun _ hk => hk) trivial HB.out HB.out.size (by simp) ?_
          case hr => first | (go_simp; done) | (go_simp; rfl)
          case hp => exact (Reps.none _ _)
          intro v_ w_ h_ hb_1 hg_ hn_
          have hbel := below_of_grown hg_
          refine hK.out _ _ ⟨vr, v_, v127, v129, v130, v132, m9_, (by rw [ha.out]; exact putSel_upk 12 hb_ rfl rfl rfl), hb_1, fun _ h1_ => absurd ((hon 10 (by kernel_rfl)).symm.trans h1_) (by decide), fun _ _ => h_, fun h0_ _ => absurd ((hoff 15 (by kernel_rfl)).symm.trans h0_) (by decide), fun h0_ _ => absurd ((hoff 17 (by kernel_rfl)).symm.trans h0_) (by decide), fun h0_ _ => absurd ((hoff 18 (by kernel_rfl)).symm.trans h0_) (by decide), fun h0_ _ => absurd ((hoff 20 (by kernel_rfl)).symm.trans h0_) (by decide), Q_X9_⟩
        refine steps_cons ?_ ?_
        · rintro b a w' ⟨vr, v125, v127, v129, v130, v132, m9_, ha, Q_HB, Q_RR, Q_R125, Q_R127, Q_R129, Q_RS130, Q_RS132, Q_X9_⟩ hb_ hon hoff
          refine ⟨_, rfl, fun K hK => ?_⟩
          have e10 : a.tmps[10]? = some (.slice D1 out.length d1) := by rw [ha]; exact (putSel_off rfl).trans rfl
          have e124 : a.tmps[124]? = some (.bool true) := by rw [ha]; exact putSel_on (e := (12, 124, .bool true)) 11 rfl rfl (hon 12 (by kernel_rfl)) rfl
          replace ha := Aside0.mk ha
          have HB := Aside0.mk Q_HB
          refine value_ (w1 := w') (v := .slice D1 out.length d1) (wanted_on rfl rfl rfl (e124.trans (by first | rfl | (simp [*]; done)))) rfl ?_ ?_
          · go_simp
            (try simp only [i64_w])
            try rfl
          refine hK.out _ _ ⟨vr, v125, v127, v129, v130, v132, m9_, (by rw [ha.out]; exact putSel_upk 13 hb_ rfl rfl rfl), Q_HB, fun _ h1_ => absurd ((hon 10 (by kernel_rfl)).symm.trans h1_) (by decide), Q_R125, fun h0_ _ => absurd ((hoff 15 (by kernel_rfl)).symm.trans h0_) (by decide), fun h0_ _ => absurd ((hoff 17 (by kernel_rfl)).symm.trans h0_) (by decide), fun h0_ _ => absurd ((hoff 18 (by kernel_rfl)).symm.trans h0_) (by decide), fun h0_ _ => absurd ((hoff 20 (by kernel_rfl)).symm.trans h0_) (by decide), Q_X9_⟩
        refine steps_cons ?_ ?_
        · rintro b a w' ⟨vr, v125, v127, v129, v130, v132, m9_, ha, Q_HB, Q_RR, Q_R125, Q_R127, Q_R129, Q_RS130, Q_RS132, Q_X9_⟩ hb_ hon hoff
          refine ⟨_, rfl, fun K hK => ?_⟩
          have e125 : a.tmps[125]? = some (v125) := by rw [ha]; exact putSel_on (e := (13, 125, v125)) 12 rfl rfl (hon 13 (by kernel_rfl)) rfl
          have e126 : a.tmps[126]? = some (.slice D1 out.length d1) := by rw [ha]; exact putSel_on (e := (14, 126, .slice D1 out.length d1)) 13 rfl rfl (hon 14 (by kernel_rfl)) rfl
          have e124 : a.tmps[124]? = some (.bool true) := by rw [ha]; exact putSel_on (e := (12, 124, .bool true)) 11 rfl rfl (hon 12 (by kernel_rfl)) rfl
          replace ha := Aside0.mk ha
          have HB := Aside0.mk Q_HB
          have R125 := Aside0.mk (Q_R125 (hon 13 (by kernel_rfl)) hb_)
          refine Kd.R_append_rows_step k27 (w0 := w17) w17.heap.size (wanted_on rfl rfl rfl (e124.trans (by first | rfl | (simp [*]; done)))) (.tmp 125) (.tmp 126) 22 27 (.agg #[.int .i64 0, .string (⟨#[]⟩ : ByteArray), .bool false]) 32 rfl Try.underlying22 info27 rfl (by decide) (by decide) v125 [] out D1 out.length d1 (fun _ => True) (fun _ => False) (eval_of e125) (eval_of e126) R125.out (show Kd.C k27 w' D1 out.length out from (HH15.out.go HB.out).get 1 rfl) (fun x cs h => by rw [k27_open h]; exact k27_mkM _ _ _ x) (fun _ h => h.elim) (fun _ _ => trivial) HB.out HB.out.size (by have := HP.out.few; first | (simp; omega) | omega) ?_
          intro v_ w_ h_ hb_1 hg_ hn_
          refine hK.out _ _ ⟨vr, v125, v_, v129, v130, v132, m9_, (by rw [ha.out]; exact putSel_upk 14 hb_ rfl rfl rfl), hb_1, fun _ h1_ => absurd ((hon 10 (by kernel_rfl)).symm.trans h1_) (by decide), fun _ h1_ => absurd ((up_self b 15).symm.trans h1_) (by decide), fun _ _ => (by simpa using h_), fun h0_ _ => absurd ((hoff 17 (by kernel_rfl)).symm.trans h0_) (by decide), fun h0_ _ => absurd ((hoff 18 (by kernel_rfl)).symm.trans h0_) (by decide), fun h0_ _ => absurd ((hoff 20 (by kernel_rfl)).symm.trans h0_) (by decide), Q_X9_⟩
        refine steps_cons ?_ ?_
        · rintro b a w' ⟨vr, v125, v127, v129, v130, v132, m9_, ha, Q_HB, Q_RR, Q_R125, Q_R127, Q_R129, Q_RS130, Q_RS132, Q_X9_⟩ hb_ hon hoff
          refine ⟨_, rfl, fun K hK => ?_⟩
          have e12 : a.tmps[12]? = some (.slice D2 more.length d2) := by rw [ha]; exact (putSel_off rfl).trans rfl
          have e124 : a.tmps[124]? = some (.bool true) := by rw [ha]; exact putSel_on (e := (12, 124, .bool true)) 11 rfl rfl (hon 12 (by kernel_rfl)) rfl
          replace ha := Aside0.mk ha
          have HB := Aside0.mk Q_HB
          refine value_ (w1 := w') (v := .slice D2 more.length d2) (wanted_on rfl rfl rfl (e124.trans (by first | rfl | (simp [*]; done)))) rfl ?_ ?_
          · go_simp
            (try simp only [i64_w])
            try rfl
          refine hK.out _ _ ⟨vr, v125, v127, v129, v130, v132, m9_, (by rw [ha.out]; exact putSel_upk 15 hb_ rfl rfl rfl), Q_HB, fun _ h1_ => absurd ((hon 10 (by kernel_rfl)).symm.trans h1_) (by decide), Q_R125, Q_R127, fun h0_ _ => absurd ((hoff 17 (by kernel_rfl)).symm.trans h0_) (by decide), fun h0_ _ => absurd ((hoff 18 (by kernel_rfl)).symm.trans h0_) (by decide), fun h0_ _ => absurd ((hoff 20 (by kernel_rfl)).symm.trans h0_) (by decide), Q_X9_⟩
        refine steps_cons ?_ ?_
        · rintro b a w' ⟨vr, v125, v127, v129, v130, v132, m9_, ha, Q_HB, Q_RR, Q_R125, Q_R127, Q_R129, Q_RS130, Q_RS132, Q_X9_⟩ hb_ hon hoff
          refine ⟨_, rfl, fun K hK => ?_⟩
          have e127 : a.tmps[127]? = some (v127) := by rw [ha]; exact putSel_on (e := (15, 127, v127)) 14 rfl rfl (hon 15 (by kernel_rfl)) rfl
          have e128 : a.tmps[128]? = some (.slice D2 more.length d2) := by rw [ha]; exact putSel_on (e := (16, 128, .slice D2 more.length d2)) 15 rfl rfl (hon 16 (by kernel_rfl)) rfl
          have e124 : a.tmps[124]? = some (.bool true) := by rw [ha]; exact putSel_on (e := (12, 124, .bool true)) 11 rfl rfl (hon 12 (by kernel_rfl)) rfl
          replace ha := Aside0.mk ha
          have HB := Aside0.mk Q_HB
          have R127 := Aside0.mk (Q_R127 (hon 15 (by kernel_rfl)) hb_)
          refine Kd.R_append_rows_step k27 (w0 := w17) w17.heap.size (wanted_on rfl rfl rfl (e124.trans (by first | rfl | (simp [*]; done)))) (.tmp 127) (.tmp 128) 22 27 (.agg #[.int .i64 0, .string (⟨#[]⟩ : ByteArray), .bool false]) 32 rfl Try.underlying22 info27 rfl (by decide) (by decide) v127 out more D2 more.length d2 (fun _ => True) (fun _ => False) (eval_of e127) (eval_of e128) R127.out (show Kd.C k27 w' D2 more.length more from (HH15.out.go HB.out).get 2 rfl) (fun x cs h => by rw [k27_open h]; exact k27_mkM _ _ _ x) (fun _ h => h.elim) (fun _ _ => trivial) HB.out HB.out.size (by have := HP.out.few; first | omega | (simp; omega)) ?_
          intro v_ w_ h_ hb_1 hg_ hn_
          refine hK.out _ _ ⟨vr, v125, v127, v_, v130, v132, m9_, (by rw [ha.out]; exact putSel_upk 16 hb_ rfl rfl rfl), hb_1, fun _ h1_ => absurd ((hon 10 (by kernel_rfl)).symm.trans h1_) (by decide), fun _ h1_ => absurd ((hon 15 (by kernel_rfl)).symm.trans h1_) (by decide), fun _ h1_ => absurd ((up_self b 17).symm.trans h1_) (by decide), fun _ _ => h_, fun h0_ _ => absurd ((hoff 18 (by kernel_rfl)).symm.trans h0_) (by decide), fun h0_ _ => absurd ((hoff 20 (by kernel_rfl)).symm.trans h0_) (by decide), Q_X9_⟩
        refine steps_cons ?_ ?_
        · rintro b a w' ⟨vr, v125, v127, v129, v130, v132, m9_, ha, Q_HB, Q_RR, Q_R125, Q_R127, Q_R129, Q_RS130, Q_RS132, Q_X9_⟩ hb_ hon hoff
          refine ⟨_, rfl, fun K hK => ?_⟩
          have e129 : a.tmps[129]? = some (v129) := by rw [ha]; exact putSel_on (e := (17, 129, v129)) 16 rfl rfl (hon 17 (by kernel_rfl)) rfl
          have e124 : a.tmps[124]? = some (.bool true) := by rw [ha]; exact putSel_on (e := (12, 124, .bool true)) 11 rfl rfl (hon 12 (by kernel_rfl)) rfl
          replace ha := Aside0.mk ha
          have HB := Aside0.mk Q_HB
          have R129 := Aside0.mk (Q_R129 (hon 17 (by kernel_rfl)) hb_)
          obtain ⟨A129, c129, e129_⟩ := Kd.R_slice R129.out
          subst e129_
          refine goes_ Try.func15 rfl rfl #[.slice A129 (out ++ more).length c129] (wanted_on rfl rfl rfl (e124.trans (by first | rfl | (simp [*]; done)))) rfl rfl (by first | (simp only [List.map_toArray, List.map_cons, List.map_nil, Act.eval, Array.getD_eq_getD_getElem?, Option.getD_some, e129, e124]; done) | (simp only [List.map_toArray, List.map_cons, List.map_nil, Act.eval, Array.getD_eq_getD_getElem?, Option.getD_some, e129, e124]; rfl)) ?_
          refine (weirkeeperlaw14_refs.calls k A129 c129 (out ++ more) ro w' (Kd.R_reads' R129.out).2.2 (Kd.R_reads' R129.out).2.1 HP.out.refs1).mono ?_
          rintro e_ w4_ ⟨v_, rfl, hR_, hbel⟩
          refine ⟨_, rfl, ?_⟩
          refine hK.out _ _ ⟨vr, v125, v127, (.slice A129 (out ++ more).length c129), v_, v132, m9_, (by rw [ha.out]; exact putSel_upk 17 hb_ rfl rfl rfl), below_step HB.out hbel, fun _ h1_ => absurd ((hon 10 (by kernel_rfl)).symm.trans h1_) (by decide), fun _ h1_ => absurd ((hon 15 (by kernel_rfl)).symm.trans h1_) (by decide), fun _ h1_ => absurd ((hon 17 (by kernel_rfl)).symm.trans h1_) (by decide), fun _ h1_ => absurd ((up_self b 18).symm.trans h1_) (by decide), fun _ _ => Kd.R_lower hR_ HB.out.size, fun h0_ _ => absurd ((hoff 20 (by kernel_rfl)).symm.trans h0_) (by decide), Q_X9_⟩
        refine steps_cons ?_ ?_
        · rintro b a w' ⟨vr, v125, v127, v129, v130, v132, m9_, ha, Q_HB, Q_RR, Q_R125, Q_R127, Q_R129, Q_RS130, Q_RS132, Q_X9_⟩ hb_ hon hoff
          refine ⟨_, rfl, fun K hK => ?_⟩
          have e15 : a.tmps[15]? = some (.slice D5 all.length d5) := by rw [ha]; exact (putSel_off rfl).trans rfl
          have e124 : a.tmps[124]? = some (.bool true) := by rw [ha]; exact putSel_on (e := (12, 124, .bool true)) 11 rfl rfl (hon 12 (by kernel_rfl)) rfl
          replace ha := Aside0.mk ha
          have HB := Aside0.mk Q_HB
          refine value_ (w1 := w') (v := .slice D5 all.length d5) (wanted_on rfl rfl rfl (e124.trans (by first | rfl | (simp [*]; done)))) rfl ?_ ?_
          · go_simp
            (try simp only [i64_w])
            try rfl
          refine hK.out _ _ ⟨vr, v125, v127, v129, v130, v132, m9_, (by rw [ha.out]; exact putSel_upk 18 hb_ rfl rfl rfl), Q_HB, fun _ h1_ => absurd ((hon 10 (by kernel_rfl)).symm.trans h1_) (by decide), Q_R125, Q_R127, Q_R129, Q_RS130, fun h0_ _ => absurd ((hoff 20 (by kernel_rfl)).symm.trans h0_) (by decide), Q_X9_⟩
        refine steps_cons ?_ ?_
        · rintro b a w' ⟨vr, v125, v127, v129, v130, v132, m9_, ha, Q_HB, Q_RR, Q_R125, Q_R127, Q_R129, Q_RS130, Q_RS132, Q_X9_⟩ hb_ hon hoff
          refine ⟨_, rfl, fun K hK => ?_⟩
          have e131 : a.tmps[131]? = some (.slice D5 all.length d5) := by rw [ha]; exact putSel_on (e := (19, 131, .slice D5 all.length d5)) 18 rfl rfl (hon 19 (by kernel_rfl)) rfl
          have e124 : a.tmps[124]? = some (.bool true) := by rw [ha]; exact putSel_on (e := (12, 124, .bool true)) 11 rfl rfl (hon 12 (by kernel_rfl)) rfl
          replace ha := Aside0.mk ha
          have HB := Aside0.mk Q_HB
          have RS130 := Aside0.mk (Q_RS130 (hon 18 (by kernel_rfl)) (hoff 21 (by kernel_rfl)))
          refine goes_ Try.func15 rfl rfl #[.slice D5 all.length d5] (wanted_on rfl rfl rfl (e124.trans (by first | rfl | (simp [*]; done)))) rfl rfl (by first | (simp only [List.map_toArray, List.map_cons, List.map_nil, Act.eval, Array.getD_eq_getD_getElem?, Option.getD_some, e131, e124]; done) | (simp only [List.map_toArray, List.map_cons, List.map_nil, Act.eval, Array.getD_eq_getD_getElem?, Option.getD_some, e131, e124]; rfl)) ?_
          refine (weirkeeperlaw14_refs.calls k D5 d5 all ra w' (show Kd.C k27 w' D5 all.length all from (HH15.out.go HB.out).get 7 rfl) hd5 HP.out.refs2).mono ?_
          rintro e_ w4_ ⟨v_, rfl, hR_, hbel⟩
          refine ⟨_, rfl, ?_⟩
          refine hK.out _ _ ⟨vr, v125, v127, v129, v130, v_, m9_, (by rw [ha.out]; exact putSel_upk 19 hb_ rfl rfl rfl), below_step HB.out hbel, fun _ h1_ => absurd ((hon 10 (by kernel_rfl)).symm.trans h1_) (by decide), fun _ h1_ => absurd ((hon 15 (by kernel_rfl)).symm.trans h1_) (by decide), fun _ h1_ => absurd ((hon 17 (by kernel_rfl)).symm.trans h1_) (by decide), fun _ h1_ => absurd ((hon 18 (by kernel_rfl)).symm.trans h1_) (by decide), fun _ _ => Kd.R_below RS130.out hbel, fun _ _ => Kd.R_lower hR_ HB.out.size, Q_X9_⟩
        refine steps_cons ?_ ?_
        · rintro b a w' ⟨vr, v125, v127, v129, v130, v132, m9_, ha, Q_HB, Q_RR, Q_R125, Q_R127, Q_R129, Q_RS130, Q_RS132, Q_X9_⟩ hb_ hon hoff
          refine ⟨_, rfl, fun K hK => ?_⟩
          have e130 : a.tmps[130]? = some (v130) := by rw [ha]; exact putSel_on (e := (18, 130, v130)) 17 rfl rfl (hon 18 (by kernel_rfl)) rfl
          have e132 : a.tmps[132]? = some (v132) := by rw [ha]; exact putSel_on (e := (20, 132, v132)) 19 rfl rfl (hon 20 (by kernel_rfl)) rfl
          have e124 : a.tmps[124]? = some (.bool true) := by rw [ha]; exact putSel_on (e := (12, 124, .bool true)) 11 rfl rfl (hon 12 (by kernel_rfl)) rfl
          replace ha := Aside0.mk ha
          have HB := Aside0.mk Q_HB
          have RS130 := Aside0.mk (Q_RS130 (hon 18 (by kernel_rfl)) hb_)
          have RS132 := Aside0.mk (Q_RS132 (hon 20 (by kernel_rfl)) hb_)
          obtain ⟨Ao, co, eo_⟩ := Kd.R_slice RS130.out
          subst eo_
          obtain ⟨Aa, ca, ea_⟩ := Kd.R_slice RS132.out
          subst ea_
          refine goes_ Try.func22 rfl rfl #[.slice Ao ro.length co, .slice Aa ra.length ca] (wanted_on rfl rfl rfl (e124.trans (by first | rfl | (simp [*]; done)))) rfl rfl (by first | (simp only [List.map_toArray, List.map_cons, List.map_nil, Act.eval, Array.getD_eq_getD_getElem?, Option.getD_some, e130, e132, e124]; done) | (simp only [List.map_toArray, List.map_cons, List.map_nil, Act.eval, Array.getD_eq_getD_getElem?, Option.getD_some, e130, e132, e124]; rfl)) ?_
          refine (weirkeeperref14_Same.calls k Ao co ro Aa ca ra true w' (Kd.R_reads' RS130.out).2.2 (Kd.R_reads' RS130.out).2.1 (Kd.R_reads' RS132.out).2.2 (Kd.R_reads' RS132.out).2.1 HP.out.eq).mono ?_
          rintro e_ w4_ ⟨rfl, hdr_⟩
          obtain ⟨nd_, rfl⟩ := hdr_
          refine ⟨_, rfl, ?_⟩
          refine hK.out _ _ ⟨vr, v125, v127, v129, (.slice Ao ro.length co), (.slice Aa ra.length ca), m9_, (by rw [ha.out]; exact putSel_upk 20 hb_ rfl rfl rfl), pw_below_drewN HB.out nd_, fun _ h1_ => absurd ((hon 10 (by kernel_rfl)).symm.trans h1_) (by decide), fun _ h1_ => absurd ((hon 15 (by kernel_rfl)).symm.trans h1_) (by decide), fun _ h1_ => absurd ((hon 17 (by kernel_rfl)).symm.trans h1_) (by decide), fun _ h1_ => absurd ((hon 18 (by kernel_rfl)).symm.trans h1_) (by decide), fun _ h1_ => absurd ((up_self b 21).symm.trans h1_) (by decide), fun _ h1_ => absurd ((up_self b 21).symm.trans h1_) (by decide), Q_X9_⟩
        refine steps_cons ?_ ?_
        · rintro b a w' ⟨vr, v125, v127, v129, v130, v132, m9_, ha, Q_HB, Q_RR, Q_R125, Q_R127, Q_R129, Q_RS130, Q_RS132, Q_X9_⟩ hb_ hon hoff
          refine ⟨_, rfl, fun K hK => ?_⟩
          have e124 : a.tmps[124]? = some (.bool true) := by rw [ha]; exact putSel_on (e := (12, 124, .bool true)) 11 rfl rfl (hon 12 (by kernel_rfl)) rfl
          have e133 : a.tmps[133]? = some (.bool true) := by rw [ha]; exact putSel_on (e := (21, 133, .bool true)) 20 rfl rfl (hon 21 (by kernel_rfl)) rfl
          replace ha := Aside0.mk ha
          have HB := Aside0.mk Q_HB
          refine value_ (w1 := w') (v := .bool true) (by rfl) rfl ?_ ?_
          · go_simp
            (try simp only [i64_w])
            try rfl
          refine hK.out _ _ ⟨vr, v125, v127, v129, v130, v132, m9_, (by rw [ha.out]; exact putSel_upk 21 hb_ rfl rfl rfl), Q_HB, fun _ h1_ => absurd ((hon 10 (by kernel_rfl)).symm.trans h1_) (by decide), fun _ h1_ => absurd ((hon 15 (by kernel_rfl)).symm.trans h1_) (by decide), fun _ h1_ => absurd ((hon 17 (by kernel_rfl)).symm.trans h1_) (by decide), fun _ h1_ => absurd ((hon 18 (by kernel_rfl)).symm.trans h1_) (by decide), fun _ h1_ => absurd ((hon 21 (by kernel_rfl)).symm.trans h1_) (by decide), fun _ h1_ => absurd ((hon 21 (by kernel_rfl)).symm.trans h1_) (by decide), Q_X9_⟩
        refine steps_cons ?_ ?_
        · rintro b a w' ⟨vr, v125, v127, v129, v130, v132, m9_, ha, Q_HB, Q_RR, Q_R125, Q_R127, Q_R129, Q_RS130, Q_RS132, Q_X9_⟩ hb_ hon hoff
          refine ⟨_, rfl, fun K hK => ?_⟩
          have e134 : a.tmps[134]? = some (.bool true) := by rw [ha]; exact putSel_on (e := (22, 134, .bool true)) 21 rfl rfl (hon 22 (by kernel_rfl)) rfl
          replace ha := Aside0.mk ha
          have HB := Aside0.mk Q_HB
          refine value_ (w1 := w') (v := .bool true) (by rfl) rfl ?_ ?_
          · go_simp
            (try simp only [i64_w])
            try rfl
          refine hK.out _ _ ⟨vr, v125, v127, v129, v130, v132, m9_, (by rw [ha.out]; exact putSel_upk 22 hb_ rfl rfl rfl), Q_HB, fun _ h1_ => absurd ((hon 10 (by kernel_rfl)).symm.trans h1_) (by decide), fun _ h1_ => absurd ((hon 15 (by kernel_rfl)).symm.trans h1_) (by decide), fun _ h1_ => absurd ((hon 17 (by kernel_rfl)).symm.trans h1_) (by decide), fun _ h1_ => absurd ((hon 18 (by kernel_rfl)).symm.trans h1_) (by decide), fun _ h1_ => absurd ((hon 21 (by kernel_rfl)).symm.trans h1_) (by decide), fun _ h1_ => absurd ((hon 21 (by kernel_rfl)).symm.trans h1_) (by decide), Q_X9_⟩
        refine steps_cons ?_ ?_
        · rintro b a w' ⟨vr, v125, v127, v129, v130, v132, m9_, ha, Q_HB, Q_RR, Q_R125, Q_R127, Q_R129, Q_RS130, Q_RS132, Q_X9_⟩ hb_ hon hoff
          refine ⟨_, rfl, fun K hK => ?_⟩
          have e135 : a.tmps[135]? = some (.bool true) := by rw [ha]; exact putSel_on (e := (23, 135, .bool true)) 22 rfl rfl (hon 23 (by kernel_rfl)) rfl
          replace ha := Aside0.mk ha
          have HB := Aside0.mk Q_HB
          refine goes_ Try.func9 rfl rfl #[] (wanted_on rfl rfl rfl (e135.trans (by first | rfl | (simp [*]; done)))) rfl rfl (by first | (simp only [List.map_toArray, List.map_cons, List.map_nil, Act.eval, Array.getD_eq_getD_getElem?, Option.getD_some, e135]; done) | (simp only [List.map_toArray, List.map_cons, List.map_nil, Act.eval, Array.getD_eq_getD_getElem?, Option.getD_some, e135]; rfl)) ?_
          refine (weirkeeperlaw14_awake.calls k true w' HA.out).mono ?_
          rintro e_ w4_ ⟨rfl, hbel⟩
          refine ⟨_, rfl, ?_⟩
          refine hK.out _ _ ⟨vr, v125, v127, v129, v130, v132, m9_, (by rw [ha.out]; exact putSel_upk 23 hb_ rfl rfl rfl), below_step HB.out hbel, fun _ h1_ => absurd ((hon 10 (by kernel_rfl)).symm.trans h1_) (by decide), fun _ h1_ => absurd ((hon 15 (by kernel_rfl)).symm.trans h1_) (by decide), fun _ h1_ => absurd ((hon 17 (by kernel_rfl)).symm.trans h1_) (by decide), fun _ h1_ => absurd ((hon 18 (by kernel_rfl)).symm.trans h1_) (by decide), fun _ h1_ => absurd ((hon 21 (by kernel_rfl)).symm.trans h1_) (by decide), fun _ h1_ => absurd ((hon 21 (by kernel_rfl)).symm.trans h1_) (by decide), Q_X9_⟩
        refine steps_cons ?_ ?_
        · rintro b a w' ⟨vr, v125, v127, v129, v130, v132, m9_, ha, Q_HB, Q_RR, Q_R125, Q_R127, Q_R129, Q_RS130, Q_RS132, Q_X9_⟩ hb_ hon hoff
          refine ⟨_, rfl, fun K hK => ?_⟩
          have e135 : a.tmps[135]? = some (.bool true) := by rw [ha]; exact putSel_on (e := (23, 135, .bool true)) 22 rfl rfl (hon 23 (by kernel_rfl)) rfl
          have e136 : a.tmps[136]? = some (.bool true) := by rw [ha]; exact putSel_on (e := (24, 136, .bool true)) 23 rfl rfl (hon 24 (by kernel_rfl)) rfl
          replace ha := Aside0.mk ha
          have HB := Aside0.mk Q_HB
          refine value_ (w1 := w') (v := .bool true) (by rfl) rfl ?_ ?_
          · go_simp
            (try simp only [i64_w])
            try rfl
          refine hK.out _ _ ⟨vr, v125, v127, v129, v130, v132, m9_, (by rw [ha.out]; exact putSel_upk 24 hb_ rfl rfl rfl), Q_HB, fun _ h1_ => absurd ((hon 10 (by kernel_rfl)).symm.trans h1_) (by decide), fun _ h1_ => absurd ((hon 15 (by kernel_rfl)).symm.trans h1_) (by decide), fun _ h1_ => absurd ((hon 17 (by kernel_rfl)).symm.trans h1_) (by decide), fun _ h1_ => absurd ((hon 18 (by kernel_rfl)).symm.trans h1_) (by decide), fun _ h1_ => absurd ((hon 21 (by kernel_rfl)).symm.trans h1_) (by decide), fun _ h1_ => absurd ((hon 21 (by kernel_rfl)).symm.trans h1_) (by decide), Q_X9_⟩
        refine steps_cons ?_ ?_
        · rintro b a w' ⟨vr, v125, v127, v129, v130, v132, m9_, ha, Q_HB, Q_RR, Q_R125, Q_R127, Q_R129, Q_RS130, Q_RS132, Q_X9_⟩ hb_ hon hoff
          refine ⟨_, rfl, fun K hK => ?_⟩
          have e137 : a.tmps[137]? = some (.bool true) := by rw [ha]; exact putSel_on (e := (25, 137, .bool true)) 24 rfl rfl (hon 25 (by kernel_rfl)) rfl
          replace ha := Aside0.mk ha
          have HB := Aside0.mk Q_HB
          refine value_ (w1 := w') (v := .bool true) (by rfl) rfl ?_ ?_
          · go_simp
            (try simp only [i64_w])
            try rfl
          refine hK.out _ _ ⟨vr, v125, v127, v129, v130, v132, m9_, (by rw [ha.out]; exact putSel_upk 25 hb_ rfl rfl rfl), Q_HB, fun _ h1_ => absurd ((hon 10 (by kernel_rfl)).symm.trans h1_) (by decide), fun _ h1_ => absurd ((hon 15 (by kernel_rfl)).symm.trans h1_) (by decide), fun _ h1_ => absurd ((hon 17 (by kernel_rfl)).symm.trans h1_) (by decide), fun _ h1_ => absurd ((hon 18 (by kernel_rfl)).symm.trans h1_) (by decide), fun _ h1_ => absurd ((hon 21 (by kernel_rfl)).symm.trans h1_) (by decide), fun _ h1_ => absurd ((hon 21 (by kernel_rfl)).symm.trans h1_) (by decide), Q_X9_⟩
        exact steps_nil
      · rintro b a w' hall ⟨vr, v125, v127, v129, v130, v132, m9_, ha, Q_HB, Q_RR, Q_R125, Q_R127, Q_R129, Q_RS130, Q_RS132, Q_X9_⟩
        clear HB
        have hb1_ := hall 1 (by kernel_rfl)
        have hb2_ := hall 2 (by kernel_rfl)
        have hb3_ := hall 3 (by kernel_rfl)
        have hb4_ := hall 4 (by kernel_rfl)
        have hb5_ := hall 5 (by kernel_rfl)
        have hb6_ := hall 6 (by kernel_rfl)
        have hb7_ := hall 7 (by kernel_rfl)
        have hb8_ := hall 8 (by kernel_rfl)
        have hb9_ := hall 9 (by kernel_rfl)
        have hb10_ := hall 10 (by kernel_rfl)
        have hb11_ := hall 11 (by kernel_rfl)
        have hb12_ := hall 12 (by kernel_rfl)
        have hb13_ := hall 13 (by kernel_rfl)
        have hb14_ := hall 14 (by kernel_rfl)
        have hb15_ := hall 15 (by kernel_rfl)
        have hb16_ := hall 16 (by kernel_rfl)
        have hb17_ := hall 17 (by kernel_rfl)
        have hb18_ := hall 18 (by kernel_rfl)
        have hb19_ := hall 19 (by kernel_rfl)
        have hb20_ := hall 20 (by kernel_rfl)
        have hb21_ := hall 21 (by kernel_rfl)
        have hb22_ := hall 22 (by kernel_rfl)
        have hb23_ := hall 23 (by kernel_rfl)
        have hb24_ := hall 24 (by kernel_rfl)
        have hb25_ := hall 25 (by kernel_rfl)
        have hb26_ := hall 26 (by kernel_rfl)
        subst ha
        obtain rfl := Q_X9_ hb9_
        simp only [putSel, hb1_, hb2_, hb3_, hb4_, hb5_, hb6_, hb7_, hb8_, hb9_, hb10_, hb11_, hb12_, hb13_, hb14_, hb15_, hb16_, hb17_, hb18_, hb19_, hb20_, hb21_, hb22_, hb23_, hb24_, hb25_, hb26_, if_true, Act.put, List.setIfInBounds_toArray, List.set_cons_zero, List.set_cons_succ]
        have HB := Aside0.mk Q_HB
        clear Q_HB
        clear Q_RR
        clear Q_R125
        clear Q_R127
        clear Q_R129
        clear Q_RS130
        clear Q_RS132
        clear hall hb1_ hb2_ hb3_ hb4_ hb5_ hb6_ hb7_ hb8_ hb9_ hb10_ hb11_ hb12_ hb13_ hb14_ hb15_ hb16_ hb17_ hb18_ hb19_ hb20_ hb21_ hb22_ hb23_ hb24_ hb25_ hb26_
        go_wp2
        go_ret
        exact ⟨rfl, (HH15.out.go HB.out).below⟩
end Go.Proofs.Ytgjngaeoojcioaa.CParts
