/- The law CacheTells, walked: whether anything is a cache, any item of it, it with others put, and cleaned. -/
import Derived.Test.YtgjngaeoojcioaaFun
import Derived.Test.YtgjngaeoojcioaaXx5
import Derived.Test.YtgjngaeoojcioaaXx9
import Derived.Test.YtgjngaeoojcioaaXx10
import Derived.Test.YtgjngaeoojcioaaXx11
import Derived.Test.YtgjngaeoojcioaaXx12
import Derived.Test.YtgjngaeoojcioaaXx17
import Derived.Test.YtgjngaeoojcioaaXx18
import Derived.Test.YtgjngaeoojcioaaXx21
import Derived.Test.YtgjngaeoojcioaaXx22
import Derived.Test.YtgjngaeoojcioaaXx13
import Derived.Test.YtgjngaeoojcioaaXx14
import Derived.Test.YtgjngaeoojcioaaXx16
import Derived.Test.YtgjngaeoojcioaaXx19
import Derived.Test.YtgjngaeoojcioaaXx20
import Derived.Test.YtgjngaeoojcioaaXx1
import Derived.Test.YtgjngaeoojcioaaXx2
namespace Go.Proofs.Ytgjngaeoojcioaa.CTells
open Go Go.RowKit Go.Proofs.Ytgjngaeoojcioaa.X Go.Proofs.YtgjngaeoojcioaaW Go.Proofs.YtgjngaeoojcioaaW.PrintWords Go.Proofs.YtgjngaeoojcioaaW.PrintLast Go.Proofs.YtgjngaeoojcioaaW.PrintMore
attribute [local go_sem high] eqA27 eqA33
set_option linter.unusedVariables false
set_option linter.unusedSimpArgs false
set_option maxRecDepth 100000
set_option maxHeartbeats 8000000
def CTells.T9 : Bool × List (List Nat × List Nat) := (true, [([], []), ([], []), ([0, 1], [0, 1]), ([2], [2]), ([3, 2], [3]), ([4], [4]), ([4], [4]), ([5, 6, 4], [4, 5, 6]), ([4, 7], [4, 7]), ([8, 4], [8]), ([9], [9]), ([9], [9]), ([10, 11, 9], [9, 10, 11]), ([9, 12], [9, 12]), ([13, 9], [13]), ([14], [14]), ([15, 14, 14], [14, 15]), ([14], [14]), ([17, 16, 14], [14, 17]), ([18, 18, 14], [14, 18]), ([16, 19, 14], [14, 16, 19]), ([14, 20], [14, 20])])
def CTells.B9 : List Nat := [0, 0, 3, 7, 15, 31, 31, 127, 255, 511, 1023, 1023, 4095, 8191, 16383, 32767, 65535, 32767, 262143, 524287, 1048575, 2097151]
theorem CTells.tab9 : rtab .any (opsOf Try.f3 9) = CTells.T9 := by kernel_rfl
theorem CTells.bits9 : waitsOk CTells.T9.2 CTells.B9 = true := by kernel_rfl
/-- A fact that any growth keeps. -/
def Keeps (P : World → Prop) : Prop := ∀ w w1 : World, P w → Below w.heap.size w w1 → P w1
structure Held (w0 w : World) (Ps : List (World → Prop)) : Prop where
  below : Below w0.heap.size w0 w
  all : ∀ (i : Nat) (P : World → Prop), Ps[i]? = some P → P w ∧ Keeps P
section
variable {w0 w w1 : World} {Ps : List (World → Prop)}
theorem Held.go (h : Held w0 w Ps) (hb : Below w.heap.size w w1) : Held w0 w1 Ps := ⟨below_step h.below hb, fun i P hP => ⟨(h.all i P hP).2 w w1 (h.all i P hP).1 hb, (h.all i P hP).2⟩⟩
theorem Held.drewN (h : Held w0 w Ps) (n : Nat) : Held w0 (w.drewN n) Ps := h.go (pw_below_drewN (Below.refl _ _) n)
theorem Held.drew (h : Held w0 w Ps) : Held w0 w.drew Ps := h.go (below_drew1 (Below.refl _ _))
theorem Held.get (h : Held w0 w Ps) (i : Nat) {P : World → Prop} (hi : Ps[i]? = some P) : P w := (h.all i P hi).1
theorem Held.add (h : Held w0 w Ps) (P : World → Prop) (hp : P w) (hk : Keeps P) : Held w0 w (P :: Ps) := ⟨h.below, fun i Q hQ => by
  cases i with
  | zero =>
    obtain rfl : P = Q := by simpa using hQ
    exact ⟨hp, hk⟩
  | succ i => exact h.all i Q (by simpa using hQ)⟩
theorem Held.start (w : World) : Held w w [] := ⟨Below.refl _ _, fun i P h => by simp at h⟩
theorem keeps_C {α : Type} (d : Kd α) (A : Option Addr) (xs : List α) : Keeps (fun w => Kd.C d w A xs.length xs) := fun _ _ h hb => Kd.C_below h hb
theorem keeps_box (g : Nat) (o : Obj) : Keeps (fun w => w.heap[g]? = some o) := fun _ _ h hb => blk_below h hb
end
/-- A slice that reads as a row. -/
def Row {α : Type} (d : Kd α) (w : World) (v : Value) (xs : List α) : Prop := ∃ A c, v = .slice A xs.length c ∧ xs.length ≤ c ∧ Kd.C d w A xs.length xs
theorem Row.go {α : Type} {d : Kd α} {w w1 : World} {v : Value} {xs : List α} (h : Row d w v xs) (hb : Below w.heap.size w w1) : Row d w1 v xs := by
  obtain ⟨A, c, he, hl, hC⟩ := h
  exact ⟨A, c, he, hl, Kd.C_below hC hb⟩
theorem row_of_R {α : Type} {d : Kd α} {e base : Nat} {ok : Nat → Prop} {w : World} {v : Value} {xs : List α} (h : d.R e w base ok v xs) : Row d w v xs := by
  obtain ⟨A, c, he, hl, hC⟩ := Kd.R_reads h
  exact ⟨A, c, he, hl, hC⟩
/-- A whole variable of its own is stored into. -/
structure Sets (w w1 : World) (g : Nat) (o : Obj) : Prop where
  box : w1.heap[g]? = some o
  far : ∀ k, k ≠ g → w1.heap[k]? = w.heap[k]?
  below : ∀ w0 : World, Below w0.heap.size w0 w → w0.heap.size ≤ g → Below w0.heap.size w0 w1
theorem sets2 {w : World} {g t : Nat} {a b : Value} (h : w.heap[g]? = some (.cells #[a, b] t (0, 0))) (x y : Value) :
    Sets w ((w.setCell ⟨g, 0, none⟩ x).setCell ⟨g, 1, none⟩ y) g (.cells #[x, y] t (0, 0)) :=
  ⟨blk_put (blk_put h 0 x (cs' := #[x, b]) rfl) 1 y rfl, fun k hk => (Below.heap_setCell _ _ _ _ hk).trans (Below.heap_setCell _ _ _ _ hk), fun w0 hb hg => below_set (below_set hb hg) hg⟩
theorem sets3 {w : World} {g t : Nat} {a b c : Value} (h : w.heap[g]? = some (.cells #[a, b, c] t (0, 0))) (x y z : Value) :
    Sets w (((w.setCell ⟨g, 0, none⟩ x).setCell ⟨g, 1, none⟩ y).setCell ⟨g, 2, none⟩ z) g (.cells #[x, y, z] t (0, 0)) :=
  ⟨blk_put (blk_put (blk_put h 0 x (cs' := #[x, b, c]) rfl) 1 y (cs' := #[x, y, c]) rfl) 2 z rfl, fun k hk => (Below.heap_setCell _ _ _ _ hk).trans ((Below.heap_setCell _ _ _ _ hk).trans (Below.heap_setCell _ _ _ _ hk)), fun w0 hb hg => below_set (below_set (below_set hb hg) hg) hg⟩
theorem box_sets {w w1 : World} {g k : Nat} {o q : Obj} (h : w.heap[k]? = some q) (hs : Sets w w1 g o) (hne : k ≠ g) : w1.heap[k]? = some q := (hs.far k hne).trans h
theorem V_of_C {w : World} {A : Option Addr} {c : Nat} {xs : List S27} (h : Kd.C k27 w A xs.length xs) (hc : xs.length ≤ c) : Kd.V k27 27 w w.heap.size (fun k => k < w.heap.size) (.slice A xs.length c) xs := Kd.V_mk hc (Kd.C_F k27_heap h)
theorem row_of_V {α : Type} {d : Kd α} {e base : Nat} {ok : Nat → Prop} {w : World} {v : Value} {xs : List α} (h : Kd.V d e w base ok v xs) : Row d w v xs := by
  obtain ⟨A, c, rfl⟩ := Kd.V_slice h
  exact ⟨A, c, rfl, (Kd.V_reads' h).2.1, (Kd.V_reads' h).2.2⟩
theorem put_c (k : Nat) (m : Int) (A : Option Addr) (c : Nat) (l : List S27) (A1 : Option Addr) (c1 : Nat) (l1 : List S27) (r1 : Int) (r2 r3 : List S27) (r4 : Int) (w : World) (hC : Kd.C k27 w A l.length l) (hc : l.length ≤ c) (hC1 : Kd.C k27 w A1 l1.length l1) (hc1 : l1.length ≤ c1) (h : cache_Put.f k m l l1 = some (r1, r2, r3, r4)) :
    Calls Try.prog 13 #[.agg #[.int .i64 m, .slice A l.length c], .slice A1 l1.length c1] w fun e w' => ∃ v1 v2 : Value, e = .returned (.tuple #[.agg #[.int .i64 r1, v1], v2, .int .i64 r4]) ∧ Row k27 w' v1 r2 ∧ Row k27 w' v2 r3 ∧ Below w.heap.size w w' := by
  refine (cache_Put.calls k m _ A c l A1 c1 l1 r1 r2 r3 r4 w (V_of_C hC hc) hC1 hc1 h).mono ?_
  rintro e w' ⟨v1, v2, rfl, h1, h2, hb⟩
  exact ⟨v1, v2, rfl, row_of_V h1, row_of_R h2, hb⟩
theorem get_c (k : Nat) (m : Int) (A : Option Addr) (c : Nat) (l : List S27) (a1 : Int) (r1 : Int) (r2 : List S27) (r3 : Int) (r4 : ByteArray) (r5 r6 : Bool) (w : World) (hC : Kd.C k27 w A l.length l) (hc : l.length ≤ c) (h : cache_Get.f k m l a1 = some (r1, r2, r3, r4, r5, r6)) :
    Calls Try.prog 10 #[.agg #[.int .i64 m, .slice A l.length c], .int .i64 a1] w fun e w' => ∃ v1 : Value, e = .returned (.tuple #[.agg #[.int .i64 r1, v1], .agg #[.int .i64 r3, .string r4, .bool r5], .bool r6]) ∧ Row k27 w' v1 r2 ∧ Below w.heap.size w w' := by
  refine (cache_Get.calls k m _ A c l a1 r1 r2 r3 r4 r5 r6 w (V_of_C hC hc) h).mono ?_
  rintro e w' ⟨v1, rfl, h1, hb⟩
  exact ⟨v1, rfl, row_of_V h1, hb⟩
theorem b2 {w : World} {g t : Nat} {x y : Value} (h : w.heap[g]? = some (.cells #[x, y] t (0, 0))) : w.cell? ⟨g, 0, none⟩ = some x ∧ w.cell? ⟨g, 1, none⟩ = some y ∧ w.frozen? ⟨g, 0, none⟩ = false ∧ w.frozen? ⟨g, 1, none⟩ = false := ⟨(blk_cell h 0).trans rfl, (blk_cell h 1).trans rfl, blk_frozen h 0, blk_frozen h 1⟩
theorem b3 {w : World} {g t : Nat} {x y z : Value} (h : w.heap[g]? = some (.cells #[x, y, z] t (0, 0))) : w.cell? ⟨g, 0, none⟩ = some x ∧ w.cell? ⟨g, 1, none⟩ = some y ∧ w.cell? ⟨g, 2, none⟩ = some z ∧ w.frozen? ⟨g, 0, none⟩ = false ∧ w.frozen? ⟨g, 1, none⟩ = false ∧ w.frozen? ⟨g, 2, none⟩ = false := ⟨(blk_cell h 0).trans rfl, (blk_cell h 1).trans rfl, (blk_cell h 2).trans rfl, blk_frozen h 0, blk_frozen h 1, blk_frozen h 2⟩
theorem V33 {w : World} {A : Option Addr} {c : Nat} {xs : List S33} (h : Kd.C k33 w A xs.length xs) (hc : xs.length ≤ c) : Kd.V k33 33 w w.heap.size (fun k => k < w.heap.size) (.slice A xs.length c) xs := Kd.V_mk hc (Kd.C_F k33_heap h)
section
variable (k : Nat) (m : Int) (A : Option Addr) (c : Nat)
theorem ref_c (l : List S27) (r1 : Int) (r2 : List S33) (w : World) (hC : Kd.C k27 w A l.length l) (hc : l.length ≤ c) (h : weirkeeperlaw14_ref.f k m l = some (r1, r2)) :
    Calls Try.prog 12 #[.agg #[.int .i64 m, .slice A l.length c]] w fun e w' => ∃ v1 : Value, e = .returned (.agg #[.int .i64 r1, v1]) ∧ Row k33 w' v1 r2 ∧ Below w.heap.size w w' :=
  (weirkeeperlaw14_ref.calls k m A c l r1 r2 w hC hc h).mono fun e w' ⟨v, he, h1, hb⟩ => ⟨v, he, row_of_R h1, hb⟩
theorem refs_c (l : List S27) (r : List S33) (w : World) (hC : Kd.C k27 w A l.length l) (hc : l.length ≤ c) (h : weirkeeperlaw14_refs.f k l = some r) :
    Calls Try.prog 15 #[.slice A l.length c] w fun e w' => ∃ v1 : Value, e = .returned v1 ∧ Row k33 w' v1 r ∧ Below w.heap.size w w' :=
  (weirkeeperlaw14_refs.calls k A c l r w hC hc h).mono fun e w' ⟨v, he, h1, hb⟩ => ⟨v, he, row_of_R h1, hb⟩
theorem rget_c (l : List S33) (a1 r1 : Int) (r2 : List S33) (r3 : Int) (r4 : ByteArray) (r5 r6 : Bool) (w : World) (hC : Kd.C k33 w A l.length l) (hc : l.length ≤ c) (h : weirkeeperref14_Get.f k m l a1 = some (r1, r2, r3, r4, r5, r6)) :
    Calls Try.prog 11 #[.agg #[.int .i64 m, .slice A l.length c], .int .i64 a1] w fun e w' => ∃ v1 : Value, e = .returned (.tuple #[.agg #[.int .i64 r1, v1], .agg #[.int .i64 r3, .string r4, .bool r5], .bool r6]) ∧ Row k33 w' v1 r2 ∧ Below w.heap.size w w' :=
  (weirkeeperref14_Get.calls k m _ A c l a1 r1 r2 r3 r4 r5 r6 w (V33 hC hc) h).mono fun e w' ⟨v, he, h1, hb⟩ => ⟨v, he, row_of_V h1, hb⟩
theorem rput_c (l : List S33) (A1 : Option Addr) (c1 : Nat) (l1 : List S33) (r1 : Int) (r2 r3 : List S33) (r4 : Bool) (w : World) (hC : Kd.C k33 w A l.length l) (hc : l.length ≤ c) (hC1 : Kd.C k33 w A1 l1.length l1) (hc1 : l1.length ≤ c1) (h : weirkeeperref14_Put.f k m l l1 = some (r1, r2, r3, r4)) :
    Calls Try.prog 14 #[.agg #[.int .i64 m, .slice A l.length c], .slice A1 l1.length c1] w fun e w' => ∃ v1 v2 : Value, e = .returned (.tuple #[.agg #[.int .i64 r1, v1], v2, .bool r4]) ∧ Row k33 w' v1 r2 ∧ Row k33 w' v2 r3 ∧ Below w.heap.size w w' :=
  (weirkeeperref14_Put.calls k m _ A c l A1 c1 l1 r1 r2 r3 r4 w (V33 hC hc) hC1 hc1 h).mono fun e w' ⟨v, v2, he, h1, h2, hb⟩ => ⟨v, v2, he, row_of_V h1, row_of_R h2, hb⟩
theorem clean_c (l : List S27) (r1 : Int) (r2 r3 : List S27) (w : World) (hC : Kd.C k27 w A l.length l) (hc : l.length ≤ c) (h : cache_Clean.f k m l = some (r1, r2, r3)) :
    Calls Try.prog 16 #[.agg #[.int .i64 m, .slice A l.length c]] w fun e w' => ∃ v1 v2 : Value, e = .returned (.tuple #[.agg #[.int .i64 r1, v1], v2]) ∧ Row k27 w' v1 r2 ∧ Row k27 w' v2 r3 ∧ Below w.heap.size w w' :=
  (cache_Clean.calls k m _ A c l r1 r2 r3 w (V_of_C hC hc) h).mono fun e w' ⟨v, v2, he, h1, h2, hb⟩ => ⟨v, v2, he, row_of_V h1, row_of_R h2, hb⟩
theorem rclean_c (l : List S33) (r1 : Int) (r2 r3 : List S33) (w : World) (hC : Kd.C k33 w A l.length l) (hc : l.length ≤ c) (h : weirkeeperref14_Clean.f k m l = some (r1, r2, r3)) :
    Calls Try.prog 17 #[.agg #[.int .i64 m, .slice A l.length c]] w fun e w' => ∃ v1 v2 : Value, e = .returned (.tuple #[.agg #[.int .i64 r1, v1], v2]) ∧ Row k33 w' v1 r2 ∧ Row k33 w' v2 r3 ∧ Below w.heap.size w w' :=
  (weirkeeperref14_Clean.calls k m _ A c l r1 r2 r3 w (V33 hC hc) h).mono fun e w' ⟨v, v2, he, h1, h2, hb⟩ => ⟨v, v2, he, row_of_V h1, row_of_R h2, hb⟩
end
/-- What the calls answer. -/
structure Tells (k : Nat) (m : Int) (l : List S27) (at_ : Int) (li : List S27) (ma mb md mf mg mh mn mr i0 e kk : Int) (i1 : ByteArray) (i2 ok may rt : Bool) (a d out gg dirty n : List S27) (b f went h were rc ri ro rd : List S33) : Prop where
  get : cache_Get.f k m l at_ = some (ma, a, i0, i1, i2, ok)
  refc : weirkeeperlaw14_ref.f k m l = some (mr, rc)
  rget : weirkeeperref14_Get.f k mr rc at_ = some (mb, b, i0, i1, i2, ok)
  put : cache_Put.f k m l li = some (md, d, out, e)
  refsi : weirkeeperlaw14_refs.f k li = some ri
  rput : weirkeeperref14_Put.f k mr rc ri = some (mf, f, went, may)
  clean : cache_Clean.f k m l = some (mg, gg, dirty)
  rclean : weirkeeperref14_Clean.f k mr rc = some (mh, h, were)
  same1 : weirkeeperlaw14_same.f k ma a mb b = some true
  right : cache_Right.f k m l = some rt
  rright : weirkeeperref14_Right.f k mr rc = some rt
  new : cache_New.f at_ = some (mn, n, kk)
  made : (kk = 0 ∧ 1 ≤ at_ ∧ at_ ≤ 100 ∧ mn = at_ ∧ n = []) ∨ (kk = 1 ∧ at_ < 1) ∨ (kk = 1 ∧ 1 ≤ at_ ∧ 100 < at_)
  same2 : weirkeeperlaw14_same.f k md d mf f = some true
  refso : weirkeeperlaw14_refs.f k out = some ro
  eq1 : weirkeeperref14_Same.f k ro went = some true
  said : (e = 0 ∧ may = true) ∨ (e = 1 ∧ may = false)
  same3 : weirkeeperlaw14_same.f k mg gg mh h = some true
  refsd : weirkeeperlaw14_refs.f k dirty = some rd
  eq2 : weirkeeperref14_Same.f k rd were = some true
def Fine (k : Nat) (m : Int) (l : List S27) (at_ : Int) (li : List S27) : Prop := weirkeeperlaw14_awake.f k = some true ∧ (100 < l.length ∨ (l.length ≤ 100 ∧ 60 < li.length) ∨ (l.length ≤ 100 ∧ li.length ≤ 60 ∧ ∃ ma mb md mf mg mh mn mr i0 e kk i1 i2 ok may rt a d out gg dirty n b f went h were rc ri ro rd, Tells k m l at_ li ma mb md mf mg mh mn mr i0 e kk i1 i2 ok may rt a d out gg dirty n b f went h were rc ri ro rd))
theorem walk_a (k : Nat) (m : Int) (A : Option Addr) (c : Nat) (l : List S27) (at_ : Int) (A1 : Option Addr) (c1 : Nat) (li : List S27) (w : World) (hC : Kd.C k27 w A l.length l) (hc : l.length ≤ c) (hC1 : Kd.C k27 w A1 li.length li) (hc1 : li.length ≤ c1) (ha : weirkeeperlaw14_awake.f k = some true) (h1 : 100 < l.length) :
    Calls Try.prog 3 #[.agg #[.int .i64 m, .slice A l.length c], .int .i64 at_, .slice A1 li.length c1] w fun e w' => e = .returned (.bool true) ∧ Below w.heap.size w w' := by
  have HC := Aside0.mk hC
  have HC1 := Aside0.mk hC1
  have HA := Aside0.mk ha
  have hu24 := Try.underlying24
  have hu27 := Try.underlying27
  have hu32 := Try.underlying32
  have hu33 := Try.underlying33
  clear hC hC1 ha
  have dl0 : decide (100 < (l.length : Int)) = true := by exact decide_eq_true (by omega)
  have dl1 : decide (100 < l.length) = true := by exact decide_eq_true (by omega)
  go_enter Try.func3, Try.ntmps3
  go_wp2_with (first | ((with_reducible refine gate_dst (N := 3) rfl ?_); refine box_event ?hg (N := 3) ?hd (cs := #[.int .i64 m, .slice A l.length c]) (t := 24) ?hr ?_; (case hd => rfl); (case hg => rfl); (case hr => first | (go_simp; done) | (go_simp; rfl)); intro g hg w2 hbox hb; have HH2 := Aside0.mk (((Held.start w).go hb).add _ hbox (keeps_box g (.cells #[.int .i64 m, .slice A l.length c] 24 (0, 0)))); clear hbox hb hg; obtain ⟨hca0, hca1, hfa0, hfa1⟩ := b2 (show w2.heap[g]? = some (.cells #[.int .i64 m, .slice A l.length c] 24 (0, 0)) from HH2.out.get 0 rfl); ) | (go_at_call 9; refine (weirkeeperlaw14_awake.calls k true _ HA.out).mono ?_; rintro e w3 ⟨rfl, hb⟩; have HBE := Aside0.mk (below_step HH2.out.below hb); clear hb))
  go_ret
  exact ⟨rfl, HBE.out⟩
theorem walk_b (k : Nat) (m : Int) (A : Option Addr) (c : Nat) (l : List S27) (at_ : Int) (A1 : Option Addr) (c1 : Nat) (li : List S27) (w : World) (hC : Kd.C k27 w A l.length l) (hc : l.length ≤ c) (hC1 : Kd.C k27 w A1 li.length li) (hc1 : li.length ≤ c1) (ha : weirkeeperlaw14_awake.f k = some true) (h1 : l.length ≤ 100) (h2 : 60 < li.length) :
    Calls Try.prog 3 #[.agg #[.int .i64 m, .slice A l.length c], .int .i64 at_, .slice A1 li.length c1] w fun e w' => e = .returned (.bool true) ∧ Below w.heap.size w w' := by
  have HC := Aside0.mk hC
  have HC1 := Aside0.mk hC1
  have HA := Aside0.mk ha
  have hu24 := Try.underlying24
  have hu27 := Try.underlying27
  have hu32 := Try.underlying32
  have hu33 := Try.underlying33
  clear hC hC1 ha
  have dl0 : decide (100 < (l.length : Int)) = false := by exact decide_eq_false (by omega)
  have dl1 : decide (100 < l.length) = false := by exact decide_eq_false (by omega)
  have dli0 : decide (60 < (li.length : Int)) = true := by exact decide_eq_true (by omega)
  have dli1 : decide (60 < li.length) = true := by exact decide_eq_true (by omega)
  go_enter Try.func3, Try.ntmps3
  go_wp2_with (first | ((with_reducible refine gate_dst (N := 3) rfl ?_); refine box_event ?hg (N := 3) ?hd (cs := #[.int .i64 m, .slice A l.length c]) (t := 24) ?hr ?_; (case hd => rfl); (case hg => rfl); (case hr => first | (go_simp; done) | (go_simp; rfl)); intro g hg w2 hbox hb; have HH2 := Aside0.mk (((Held.start w).go hb).add _ hbox (keeps_box g (.cells #[.int .i64 m, .slice A l.length c] 24 (0, 0)))); clear hbox hb hg; obtain ⟨hca0, hca1, hfa0, hfa1⟩ := b2 (show w2.heap[g]? = some (.cells #[.int .i64 m, .slice A l.length c] 24 (0, 0)) from HH2.out.get 0 rfl); ) | (go_at_call 9; refine (weirkeeperlaw14_awake.calls k true _ HA.out).mono ?_; rintro e w3 ⟨rfl, hb⟩; have HBE := Aside0.mk (below_step HH2.out.below hb); clear hb))
  go_ret
  exact ⟨rfl, HBE.out⟩
theorem walk_c (k : Nat) (m : Int) (A : Option Addr) (c : Nat) (l : List S27) (at_ : Int) (A1 : Option Addr) (c1 : Nat) (li : List S27) (w : World) (hC : Kd.C k27 w A l.length l) (hc : l.length ≤ c) (hC1 : Kd.C k27 w A1 li.length li) (hc1 : li.length ≤ c1) (ha : weirkeeperlaw14_awake.f k = some true) (h1 : l.length ≤ 100) (h2 : li.length ≤ 60) (ma mb md mf mg mh mn mr i0 e kk : Int) (i1 : ByteArray) (i2 ok may rt : Bool) (a_ d out gg dirty n : List S27) (b_ f went h were rc ri ro rd : List S33) (ht : Tells k m l at_ li ma mb md mf mg mh mn mr i0 e kk i1 i2 ok may rt a_ d out gg dirty n b_ f went h were rc ri ro rd) :
    Calls Try.prog 3 #[.agg #[.int .i64 m, .slice A l.length c], .int .i64 at_, .slice A1 li.length c1] w fun e w' => e = .returned (.bool true) ∧ Below w.heap.size w w' := by
  have HC := Aside0.mk hC
  have HC1 := Aside0.mk hC1
  have HA := Aside0.mk ha
  have hu24 := Try.underlying24
  have hu27 := Try.underlying27
  have hu32 := Try.underlying32
  have hu33 := Try.underlying33
  clear hC hC1 ha
  have HT := Aside0.mk ht
  clear ht
  have dl0 : decide (100 < (l.length : Int)) = false := by exact decide_eq_false (by omega)
  have dl1 : decide (100 < l.length) = false := by exact decide_eq_false (by omega)
  have dli0 : decide (60 < (li.length : Int)) = false := by exact decide_eq_false (by omega)
  have dli1 : decide (60 < li.length) = false := by exact decide_eq_false (by omega)
  go_enter Try.func3, Try.ntmps3
  go_wp2_with (first | ((with_reducible refine gate_dst (N := 3) rfl ?_); refine box_event ?hg (N := 3) ?hd (cs := #[.int .i64 m, .slice A l.length c]) (t := 24) ?hr ?_; (case hd => rfl); (case hg => rfl); (case hr => first | (go_simp; done) | (go_simp; rfl)); intro g hg w2 hbox hb; have HH2 := Aside0.mk (((Held.start w).go hb).add _ hbox (keeps_box g (.cells #[.int .i64 m, .slice A l.length c] 24 (0, 0)))); clear hbox hb hg; obtain ⟨hca0, hca1, hfa0, hfa1⟩ := b2 (show w2.heap[g]? = some (.cells #[.int .i64 m, .slice A l.length c] 24 (0, 0)) from HH2.out.get 0 rfl); ) | ((with_reducible refine gate_dst (N := 38) rfl ?_); (try (refine gate_guard (by rfl) ?_; dsimp only)); refine goesL_ (some 38) rfl rfl Try.func10 (by kernel_rfl) rfl #[.agg #[.int .i64 m, .slice A l.length c], .int .i64 at_] rfl (by (try simp only [List.map_toArray, List.map_cons, List.map_nil]); first | done | rfl) ?_; (with_reducible refine (get_c k m A c l at_ ma a_ i0 i1 i2 ok w2 (Kd.C_below HC.out HH2.out.below) hc HT.out.get).mono ?_); rintro e w3 ⟨_, rfl, ⟨Xxa, cxa, rfl, hlxa, hCxa⟩, hb⟩; refine ⟨_, rfl, ?_⟩; have Hw3 := Aside0.mk ((HH2.out.go hb).add _ hCxa (keeps_C k27 Xxa a_)); clear hb hCxa) | ((with_reducible refine gate_dst (N := 7) rfl ?_); refine box_event ?hg (N := 7) ?hd (cs := #[.int .i64 0, .slice none 0 0]) (t := 24) ?hr ?_; (case hd => rfl); (case hg => rfl); (case hr => first | (go_simp; done) | (go_simp; rfl)); intro g7 hg w4 hbox hb; have BZ := Aside0.mk hbox; have GE := Aside0.mk (Nat.le_of_eq hg.symm : w3.heap.size ≤ g7); have BL := Aside0.mk hb; clear hbox hb hg) | ((with_reducible refine gate_dst (N := 8) rfl ?_); refine box_event ?hg (N := 8) ?hd (cs := #[.int .i64 0, .string (⟨#[]⟩ : ByteArray), .bool false]) (t := 27) ?hr ?_; (case hd => rfl); (case hg => rfl); (case hr => first | (go_simp; done) | (go_simp; rfl)); intro g8 hg w5 hbox hb; have BY := Aside0.mk (blk_below BZ.out hb); have BI := Aside0.mk hbox; have GI := Aside0.mk (Nat.le_of_eq hg.symm : w4.heap.size ≤ g8); have NE := Aside0.mk (Nat.ne_of_lt (Nat.lt_of_lt_of_le (blk_lt BZ.out) GI.out)); have BM := Aside0.mk (below_step BL.out hb); have GJ := Aside0.mk (Nat.le_trans BL.out.size GI.out); clear hbox hb hg; obtain ⟨hcrw50, hcrw51, hfrw50, hfrw51⟩ := b2 BY.out; obtain ⟨hcsw50, hcsw51, hcsw52, hfsw50, hfsw51, hfsw52⟩ := b3 BI.out; ) | ((with_reducible refine gate_store (t := 24) (p := 7) rfl ?_); refine store_event (t := 24) (p := 7) (v := ?vo_w6) (w1 := ((w5.setCell ⟨g7, 0, none⟩ (.int .i64 ma)).setCell ⟨g7, 1, none⟩ (.slice Xxa a_.length cxa))) ?hg ?ho ?hn ?hr ?_; (case ho => rfl); (case hg => rfl); (case hn => rfl); (case hr => first | (go_simp; done) | (go_simp; rfl)); intro w6 hw; have SS : Sets w5 w6 g7 (.cells #[.int .i64 ma, .slice Xxa a_.length cxa] 24 (0, 0)) := (by rw [hw]; exact sets2 BY.out _ _); have BY2 := Aside0.mk SS.box; have BI2 := Aside0.mk (box_sets BI.out SS NE.out.symm); have BM2 := Aside0.mk (SS.below w3 BM.out GE.out); clear SS hw; obtain ⟨hctw60, hctw61, hctw62, hftw60, hftw61, hftw62⟩ := b3 BI2.out; ) | ((with_reducible refine gate_store (t := 27) (p := 8) rfl ?_); refine store_event (t := 27) (p := 8) (v := ?vo_w7) (w1 := (((w6.setCell ⟨g8, 0, none⟩ (.int .i64 i0)).setCell ⟨g8, 1, none⟩ (.string i1)).setCell ⟨g8, 2, none⟩ (.bool i2))) ?hg ?ho ?hn ?hr ?_; (case ho => rfl); (case hg => rfl); (case hn => rfl); (case hr => first | (go_simp; done) | (go_simp; rfl)); intro w7 hw; have SS : Sets w6 w7 g8 (.cells #[.int .i64 i0, .string i1, .bool i2] 27 (0, 0)) := (by rw [hw]; exact sets3 BI2.out _ _ _); have Hw7 := Aside0.mk (((Hw3.out.go (SS.below w3 BM2.out GJ.out)).add _ (box_sets BY2.out SS NE.out) (keeps_box g7 (.cells #[.int .i64 ma, .slice Xxa a_.length cxa] 24 (0, 0)))).add _ SS.box (keeps_box g8 (.cells #[.int .i64 i0, .string i1, .bool i2] 27 (0, 0)))); clear SS hw BZ GE BL BY BI GI NE BM GJ BY2 BI2 BM2; obtain ⟨hcc0, hcc1, hfc0, hfc1⟩ := b2 (show w7.heap[g]? = some (.cells #[.int .i64 m, .slice A l.length c] 24 (0, 0)) from Hw7.out.get 3 rfl); ) | ((with_reducible refine gate_dst (N := 44) rfl ?_); (try (refine gate_guard (by rfl) ?_; dsimp only)); refine goesL_ (some 44) rfl rfl Try.func12 (by kernel_rfl) rfl #[.agg #[.int .i64 m, .slice A l.length c]] rfl (by (try simp only [List.map_toArray, List.map_cons, List.map_nil]); first | done | rfl) ?_; (with_reducible refine (ref_c k m A c l mr rc w7 (Kd.C_below HC.out Hw7.out.below) hc HT.out.refc).mono ?_); rintro e w8 ⟨_, rfl, ⟨Xrw8, crw8, rfl, hlrw8, hCrw8⟩, hb⟩; refine ⟨_, rfl, ?_⟩; have Hw8 := Aside0.mk (Hw7.out.go hb); have HX := Aside0.mk hCrw8; clear hb hCrw8) | ((with_reducible refine gate_dst (N := 46) rfl ?_); (try (refine gate_guard (by rfl) ?_; dsimp only)); refine goesL_ (some 46) rfl rfl Try.func11 (by kernel_rfl) rfl #[.agg #[.int .i64 mr, .slice Xrw8 rc.length crw8], .int .i64 at_] rfl (by (try simp only [List.map_toArray, List.map_cons, List.map_nil]); first | done | rfl) ?_; (with_reducible refine (rget_c k mr Xrw8 crw8 rc at_ mb b_ i0 i1 i2 ok w8 HX.out hlrw8 HT.out.rget).mono ?_); rintro e w9 ⟨_, rfl, ⟨Xxb, cxb, rfl, hlxb, hCxb⟩, hb⟩; refine ⟨_, rfl, ?_⟩; have Hw9 := Aside0.mk ((Hw8.out.go hb).add _ hCxb (keeps_C k33 Xxb b_)); clear hb hCxb HX Hw8) | ((with_reducible refine gate_dst (N := 10) rfl ?_); refine box_event ?hg (N := 10) ?hd (cs := #[.int .i64 0, .slice none 0 0]) (t := 32) ?hr ?_; (case hd => rfl); (case hg => rfl); (case hr => first | (go_simp; done) | (go_simp; rfl)); intro g10 hg w10 hbox hb; have BZ := Aside0.mk hbox; have GE := Aside0.mk (Nat.le_of_eq hg.symm : w9.heap.size ≤ g10); have BL := Aside0.mk hb; clear hbox hb hg) | ((with_reducible refine gate_dst (N := 11) rfl ?_); refine box_event ?hg (N := 11) ?hd (cs := #[.int .i64 0, .string (⟨#[]⟩ : ByteArray), .bool false]) (t := 33) ?hr ?_; (case hd => rfl); (case hg => rfl); (case hr => first | (go_simp; done) | (go_simp; rfl)); intro g11 hg w11 hbox hb; have BY := Aside0.mk (blk_below BZ.out hb); have BI := Aside0.mk hbox; have GI := Aside0.mk (Nat.le_of_eq hg.symm : w10.heap.size ≤ g11); have NE := Aside0.mk (Nat.ne_of_lt (Nat.lt_of_lt_of_le (blk_lt BZ.out) GI.out)); have BM := Aside0.mk (below_step BL.out hb); have GJ := Aside0.mk (Nat.le_trans BL.out.size GI.out); clear hbox hb hg; obtain ⟨hcrw110, hcrw111, hfrw110, hfrw111⟩ := b2 BY.out; obtain ⟨hcsw110, hcsw111, hcsw112, hfsw110, hfsw111, hfsw112⟩ := b3 BI.out; ) | ((with_reducible refine gate_store (t := 32) (p := 10) rfl ?_); refine store_event (t := 32) (p := 10) (v := ?vo_w12) (w1 := ((w11.setCell ⟨g10, 0, none⟩ (.int .i64 mb)).setCell ⟨g10, 1, none⟩ (.slice Xxb b_.length cxb))) ?hg ?ho ?hn ?hr ?_; (case ho => rfl); (case hg => rfl); (case hn => rfl); (case hr => first | (go_simp; done) | (go_simp; rfl)); intro w12 hw; have SS : Sets w11 w12 g10 (.cells #[.int .i64 mb, .slice Xxb b_.length cxb] 32 (0, 0)) := (by rw [hw]; exact sets2 BY.out _ _); have BY2 := Aside0.mk SS.box; have BI2 := Aside0.mk (box_sets BI.out SS NE.out.symm); have BM2 := Aside0.mk (SS.below w9 BM.out GE.out); clear SS hw; obtain ⟨hctw120, hctw121, hctw122, hftw120, hftw121, hftw122⟩ := b3 BI2.out; ) | ((with_reducible refine gate_store (t := 33) (p := 11) rfl ?_); refine store_event (t := 33) (p := 11) (v := ?vo_w13) (w1 := (((w12.setCell ⟨g11, 0, none⟩ (.int .i64 i0)).setCell ⟨g11, 1, none⟩ (.string i1)).setCell ⟨g11, 2, none⟩ (.bool i2))) ?hg ?ho ?hn ?hr ?_; (case ho => rfl); (case hg => rfl); (case hn => rfl); (case hr => first | (go_simp; done) | (go_simp; rfl)); intro w13 hw; have SS : Sets w12 w13 g11 (.cells #[.int .i64 i0, .string i1, .bool i2] 33 (0, 0)) := (by rw [hw]; exact sets3 BI2.out _ _ _); have Hw13 := Aside0.mk (((Hw9.out.go (SS.below w9 BM2.out GJ.out)).add _ (box_sets BY2.out SS NE.out) (keeps_box g10 (.cells #[.int .i64 mb, .slice Xxb b_.length cxb] 32 (0, 0)))).add _ SS.box (keeps_box g11 (.cells #[.int .i64 i0, .string i1, .bool i2] 33 (0, 0)))); clear SS hw BZ GE BL BY BI GI NE BM GJ BY2 BI2 BM2; obtain ⟨hce0, hce1, hfe0, hfe1⟩ := b2 (show w13.heap[g]? = some (.cells #[.int .i64 m, .slice A l.length c] 24 (0, 0)) from Hw13.out.get 6 rfl); ) | ((with_reducible refine gate_dst (N := 53) rfl ?_); (try (refine gate_guard (by rfl) ?_; dsimp only)); refine goesL_ (some 53) rfl rfl Try.func13 (by kernel_rfl) rfl #[.agg #[.int .i64 m, .slice A l.length c], .slice A1 li.length c1] rfl (by (try simp only [List.map_toArray, List.map_cons, List.map_nil]); first | done | rfl) ?_; (with_reducible refine (put_c k m A c l A1 c1 li md d out e w13 (Kd.C_below HC.out Hw13.out.below) hc (Kd.C_below HC1.out Hw13.out.below) hc1 HT.out.put).mono ?_); rintro e_ w14 ⟨_, _, rfl, ⟨Xxd, cxd, rfl, hlxd, hCxd⟩, ⟨Xxo, cxo, rfl, hlxo, hCxo⟩, hb⟩; refine ⟨_, rfl, ?_⟩; have Hw14 := Aside0.mk (((Hw13.out.go hb).add _ hCxd (keeps_C k27 Xxd d)).add _ hCxo (keeps_C k27 Xxo out)); clear hb hCxd hCxo) | ((with_reducible refine gate_dst (N := 13) rfl ?_); refine box_event ?hg (N := 13) ?hd (cs := #[.int .i64 0, .slice none 0 0]) (t := 24) ?hr ?_; (case hd => rfl); (case hg => rfl); (case hr => first | (go_simp; done) | (go_simp; rfl)); intro g13 hg w15 hbox hb; have BZ := Aside0.mk hbox; have GE := Aside0.mk (Nat.le_of_eq hg.symm : w14.heap.size ≤ g13); have BL := Aside0.mk hb; clear hbox hb hg; obtain ⟨hcdw150, hcdw151, hfdw150, hfdw151⟩ := b2 BZ.out; ) | ((with_reducible refine gate_store (t := 24) (p := 13) rfl ?_); refine store_event (t := 24) (p := 13) (v := ?vo_w16) (w1 := ((w15.setCell ⟨g13, 0, none⟩ (.int .i64 md)).setCell ⟨g13, 1, none⟩ (.slice Xxd d.length cxd))) ?hg ?ho ?hn ?hr ?_; (case ho => rfl); (case hg => rfl); (case hn => rfl); (case hr => first | (go_simp; done) | (go_simp; rfl)); intro w16 hw; have SS : Sets w15 w16 g13 (.cells #[.int .i64 md, .slice Xxd d.length cxd] 24 (0, 0)) := (by rw [hw]; exact sets2 BZ.out _ _); have Hw16 := Aside0.mk ((Hw14.out.go (SS.below w14 BL.out GE.out)).add _ SS.box (keeps_box g13 (.cells #[.int .i64 md, .slice Xxd d.length cxd] 24 (0, 0)))); clear SS hw BZ BL GE; obtain ⟨hcf0, hcf1, hff0, hff1⟩ := b2 (show w16.heap[g]? = some (.cells #[.int .i64 m, .slice A l.length c] 24 (0, 0)) from Hw16.out.get 9 rfl); ) | ((with_reducible refine gate_dst (N := 59) rfl ?_); (try (refine gate_guard (by rfl) ?_; dsimp only)); refine goesL_ (some 59) rfl rfl Try.func12 (by kernel_rfl) rfl #[.agg #[.int .i64 m, .slice A l.length c]] rfl (by (try simp only [List.map_toArray, List.map_cons, List.map_nil]); first | done | rfl) ?_; (with_reducible refine (ref_c k m A c l mr rc w16 (Kd.C_below HC.out Hw16.out.below) hc HT.out.refc).mono ?_); rintro e w17 ⟨_, rfl, ⟨Xrw17, crw17, rfl, hlrw17, hCrw17⟩, hb⟩; refine ⟨_, rfl, ?_⟩; have Hw17 := Aside0.mk (Hw16.out.go hb); have HX := Aside0.mk hCrw17; clear hb hCrw17) | ((with_reducible refine gate_dst (N := 61) rfl ?_); (try (refine gate_guard (by rfl) ?_; dsimp only)); refine goesL_ (some 61) rfl rfl Try.func15 (by kernel_rfl) rfl #[.slice A1 li.length c1] rfl (by (try simp only [List.map_toArray, List.map_cons, List.map_nil]); first | done | rfl) ?_; (with_reducible refine (refs_c k A1 c1 li ri w17 (Kd.C_below HC1.out Hw17.out.below) hc1 HT.out.refsi).mono ?_); rintro e w18 ⟨_, rfl, ⟨Xri, cri, rfl, hlri, hCri⟩, hb⟩; refine ⟨_, rfl, ?_⟩; have Hw18 := Aside0.mk (Hw17.out.go hb); have HY := Aside0.mk (Kd.C_below HX.out hb); have HZ := Aside0.mk hCri; clear hb hCri HX) | ((with_reducible refine gate_dst (N := 62) rfl ?_); (try (refine gate_guard (by rfl) ?_; dsimp only)); refine goesL_ (some 62) rfl rfl Try.func14 (by kernel_rfl) rfl #[.agg #[.int .i64 mr, .slice Xrw17 rc.length crw17], .slice Xri ri.length cri] rfl (by (try simp only [List.map_toArray, List.map_cons, List.map_nil]); first | done | rfl) ?_; (with_reducible refine (rput_c k mr Xrw17 crw17 rc Xri cri ri mf f went may w18 HY.out hlrw17 HZ.out hlri HT.out.rput).mono ?_); rintro e w19 ⟨_, _, rfl, ⟨Xxf, cxf, rfl, hlxf, hCxf⟩, ⟨Xxw, cxw, rfl, hlxw, hCxw⟩, hb⟩; refine ⟨_, rfl, ?_⟩; have Hw19 := Aside0.mk (((Hw18.out.go hb).add _ hCxf (keeps_C k33 Xxf f)).add _ hCxw (keeps_C k33 Xxw went)); clear hb hCxf hCxw HY HZ Hw17 Hw18) | ((with_reducible refine gate_dst (N := 16) rfl ?_); refine box_event ?hg (N := 16) ?hd (cs := #[.int .i64 0, .slice none 0 0]) (t := 32) ?hr ?_; (case hd => rfl); (case hg => rfl); (case hr => first | (go_simp; done) | (go_simp; rfl)); intro g16 hg w20 hbox hb; have BZ := Aside0.mk hbox; have GE := Aside0.mk (Nat.le_of_eq hg.symm : w19.heap.size ≤ g16); have BL := Aside0.mk hb; clear hbox hb hg; obtain ⟨hcdw200, hcdw201, hfdw200, hfdw201⟩ := b2 BZ.out; ) | ((with_reducible refine gate_store (t := 32) (p := 16) rfl ?_); refine store_event (t := 32) (p := 16) (v := ?vo_w21) (w1 := ((w20.setCell ⟨g16, 0, none⟩ (.int .i64 mf)).setCell ⟨g16, 1, none⟩ (.slice Xxf f.length cxf))) ?hg ?ho ?hn ?hr ?_; (case ho => rfl); (case hg => rfl); (case hn => rfl); (case hr => first | (go_simp; done) | (go_simp; rfl)); intro w21 hw; have SS : Sets w20 w21 g16 (.cells #[.int .i64 mf, .slice Xxf f.length cxf] 32 (0, 0)) := (by rw [hw]; exact sets2 BZ.out _ _); have Hw21 := Aside0.mk ((Hw19.out.go (SS.below w19 BL.out GE.out)).add _ SS.box (keeps_box g16 (.cells #[.int .i64 mf, .slice Xxf f.length cxf] 32 (0, 0)))); clear SS hw BZ BL GE; obtain ⟨hch0, hch1, hfh0, hfh1⟩ := b2 (show w21.heap[g]? = some (.cells #[.int .i64 m, .slice A l.length c] 24 (0, 0)) from Hw21.out.get 12 rfl); ) | ((with_reducible refine gate_dst (N := 68) rfl ?_); (try (refine gate_guard (by rfl) ?_; dsimp only)); refine goesL_ (some 68) rfl rfl Try.func16 (by kernel_rfl) rfl #[.agg #[.int .i64 m, .slice A l.length c]] rfl (by (try simp only [List.map_toArray, List.map_cons, List.map_nil]); first | done | rfl) ?_; (with_reducible refine (clean_c k m A c l mg gg dirty w21 (Kd.C_below HC.out Hw21.out.below) hc HT.out.clean).mono ?_); rintro e w22 ⟨_, _, rfl, ⟨Xxg, cxg, rfl, hlxg, hCxg⟩, ⟨Xxy, cxy, rfl, hlxy, hCxy⟩, hb⟩; refine ⟨_, rfl, ?_⟩; have Hw22 := Aside0.mk (((Hw21.out.go hb).add _ hCxg (keeps_C k27 Xxg gg)).add _ hCxy (keeps_C k27 Xxy dirty)); clear hb hCxg hCxy) | ((with_reducible refine gate_dst (N := 19) rfl ?_); refine box_event ?hg (N := 19) ?hd (cs := #[.int .i64 0, .slice none 0 0]) (t := 24) ?hr ?_; (case hd => rfl); (case hg => rfl); (case hr => first | (go_simp; done) | (go_simp; rfl)); intro g19 hg w23 hbox hb; have BZ := Aside0.mk hbox; have GE := Aside0.mk (Nat.le_of_eq hg.symm : w22.heap.size ≤ g19); have BL := Aside0.mk hb; clear hbox hb hg; obtain ⟨hcdw230, hcdw231, hfdw230, hfdw231⟩ := b2 BZ.out; ) | ((with_reducible refine gate_store (t := 24) (p := 19) rfl ?_); refine store_event (t := 24) (p := 19) (v := ?vo_w24) (w1 := ((w23.setCell ⟨g19, 0, none⟩ (.int .i64 mg)).setCell ⟨g19, 1, none⟩ (.slice Xxg gg.length cxg))) ?hg ?ho ?hn ?hr ?_; (case ho => rfl); (case hg => rfl); (case hn => rfl); (case hr => first | (go_simp; done) | (go_simp; rfl)); intro w24 hw; have SS : Sets w23 w24 g19 (.cells #[.int .i64 mg, .slice Xxg gg.length cxg] 24 (0, 0)) := (by rw [hw]; exact sets2 BZ.out _ _); have Hw24 := Aside0.mk ((Hw22.out.go (SS.below w22 BL.out GE.out)).add _ SS.box (keeps_box g19 (.cells #[.int .i64 mg, .slice Xxg gg.length cxg] 24 (0, 0)))); clear SS hw BZ BL GE; obtain ⟨hci0, hci1, hfi0, hfi1⟩ := b2 (show w24.heap[g]? = some (.cells #[.int .i64 m, .slice A l.length c] 24 (0, 0)) from Hw24.out.get 15 rfl); ) | ((with_reducible refine gate_dst (N := 73) rfl ?_); (try (refine gate_guard (by rfl) ?_; dsimp only)); refine goesL_ (some 73) rfl rfl Try.func12 (by kernel_rfl) rfl #[.agg #[.int .i64 m, .slice A l.length c]] rfl (by (try simp only [List.map_toArray, List.map_cons, List.map_nil]); first | done | rfl) ?_; (with_reducible refine (ref_c k m A c l mr rc w24 (Kd.C_below HC.out Hw24.out.below) hc HT.out.refc).mono ?_); rintro e w25 ⟨_, rfl, ⟨Xrw25, crw25, rfl, hlrw25, hCrw25⟩, hb⟩; refine ⟨_, rfl, ?_⟩; have Hw25 := Aside0.mk (Hw24.out.go hb); have HX := Aside0.mk hCrw25; clear hb hCrw25) | ((with_reducible refine gate_dst (N := 74) rfl ?_); (try (refine gate_guard (by rfl) ?_; dsimp only)); refine goesL_ (some 74) rfl rfl Try.func17 (by kernel_rfl) rfl #[.agg #[.int .i64 mr, .slice Xrw25 rc.length crw25]] rfl (by (try simp only [List.map_toArray, List.map_cons, List.map_nil]); first | done | rfl) ?_; (with_reducible refine (rclean_c k mr Xrw25 crw25 rc mh h were w25 HX.out hlrw25 HT.out.rclean).mono ?_); rintro e w26 ⟨_, _, rfl, ⟨Xxh, cxh, rfl, hlxh, hCxh⟩, ⟨Xxv, cxv, rfl, hlxv, hCxv⟩, hb⟩; refine ⟨_, rfl, ?_⟩; have Hw26 := Aside0.mk (((Hw25.out.go hb).add _ hCxh (keeps_C k33 Xxh h)).add _ hCxv (keeps_C k33 Xxv were)); clear hb hCxh hCxv HX Hw25) | ((with_reducible refine gate_dst (N := 21) rfl ?_); refine box_event ?hg (N := 21) ?hd (cs := #[.int .i64 0, .slice none 0 0]) (t := 32) ?hr ?_; (case hd => rfl); (case hg => rfl); (case hr => first | (go_simp; done) | (go_simp; rfl)); intro g21 hg w27 hbox hb; have BZ := Aside0.mk hbox; have GE := Aside0.mk (Nat.le_of_eq hg.symm : w26.heap.size ≤ g21); have BL := Aside0.mk hb; clear hbox hb hg; obtain ⟨hcdw270, hcdw271, hfdw270, hfdw271⟩ := b2 BZ.out; ) | ((with_reducible refine gate_store (t := 32) (p := 21) rfl ?_); refine store_event (t := 32) (p := 21) (v := ?vo_w28) (w1 := ((w27.setCell ⟨g21, 0, none⟩ (.int .i64 mh)).setCell ⟨g21, 1, none⟩ (.slice Xxh h.length cxh))) ?hg ?ho ?hn ?hr ?_; (case ho => rfl); (case hg => rfl); (case hn => rfl); (case hr => first | (go_simp; done) | (go_simp; rfl)); intro w28 hw; have SS : Sets w27 w28 g21 (.cells #[.int .i64 mh, .slice Xxh h.length cxh] 32 (0, 0)) := (by rw [hw]; exact sets2 BZ.out _ _); have Hw28 := Aside0.mk ((Hw26.out.go (SS.below w26 BL.out GE.out)).add _ SS.box (keeps_box g21 (.cells #[.int .i64 mh, .slice Xxh h.length cxh] 32 (0, 0)))); clear SS hw BZ BL GE; ))
  refine start_ (n := 22) (S := fun w' => True) (ds := []) #[false, false, false, false, false, false, false, false, false, false, false, false, false, false, false, false, false, false, false, false, false, false] (by kernel_rfl) rfl rfl trivial (fun hHeld => ?_); refine with_tabW CTells.tab9 CTells.bits9 (fun HT_ HW_ => ?_)
  replace Hw28 := Aside0.mk Hw28.out.drew
  generalize w28.drew = w29 at Hw28 ⊢
  have G_g : Aside0 (w29.heap[g]? = some (.cells #[.int .i64 m, .slice A l.length c] 24 (0, 0))) := ⟨Hw28.out.get 18 rfl⟩
  have G_g7 : Aside0 (w29.heap[g7]? = some (.cells #[.int .i64 ma, .slice Xxa a_.length cxa] 24 (0, 0))) := ⟨Hw28.out.get 16 rfl⟩
  have G_g8 : Aside0 (w29.heap[g8]? = some (.cells #[.int .i64 i0, .string i1, .bool i2] 27 (0, 0))) := ⟨Hw28.out.get 15 rfl⟩
  have G_g10 : Aside0 (w29.heap[g10]? = some (.cells #[.int .i64 mb, .slice Xxb b_.length cxb] 32 (0, 0))) := ⟨Hw28.out.get 13 rfl⟩
  have G_g11 : Aside0 (w29.heap[g11]? = some (.cells #[.int .i64 i0, .string i1, .bool i2] 33 (0, 0))) := ⟨Hw28.out.get 12 rfl⟩
  have G_a : Aside0 (Kd.C k27 w29 Xxa a_.length a_) := ⟨Hw28.out.get 17 rfl⟩
  have G_b : Aside0 (Kd.C k33 w29 Xxb b_.length b_) := ⟨Hw28.out.get 14 rfl⟩
  have G_w := Aside0.mk Hw28.out.below
  have HB := Aside0.mk (Below.refl w29.heap.size w29)
  refine inv_at [0, 1, 2, 3, 4, 5, 6, 7, 8, 9, 10, 11, 12, 13, 14, 15, 16, 17, 18, 19, 20, 21] (fun a0_ b a w' => ∃ (vr : Value) (m18_ : Value), a = putSel a0_ b [(0, 77, .agg #[.int .i64 ma, .slice Xxa a_.length cxa]), (1, 78, .agg #[.int .i64 mb, .slice Xxb b_.length cxb]), (2, 79, .bool true), (3, 80, .bool false), (4, 81, .bool false), (5, 82, .agg #[.int .i64 i0, .string i1, .bool i2]), (6, 83, .agg #[.int .i64 i0, .string i1, .bool i2]), (7, 84, .bool false), (8, 85, .bool false), (9, 86, .bool false), (10, 87, .bool ok), (11, 88, .bool ok), (12, 89, .bool false), (13, 90, .bool false), (14, 91, .bool false), (15, 92, .agg #[.int .i64 m, .slice A l.length c]), (16, 93, .bool rt), (17, 94, .agg #[.int .i64 m, .slice A l.length c]), (18, 95, m18_), (19, 96, .bool rt), (20, 97, .bool false), (21, 98, .bool false)] ∧ (Below w29.heap.size w29 w') ∧ (b 18 = true → b 19 = false → Row k33 w' vr rc) ∧ (b 18 = true → (m18_ : Value) = .agg #[.int .i64 mr, vr])) HT_.out HW_.out (by kernel_rfl) (by kernel_rfl) ?_ ?_ ?_
  · exact ⟨.bool false, .bool false, by simp only [putSel, Bool.false_eq_true, if_false], HB.out, fun h_ => absurd h_ (by decide), fun h_ => absurd h_ (by decide)⟩
  · skip
    clear HB
    refine steps_cons ?_ ?_
    · rintro b a w' ⟨vr, m18_, ha, Q_HB, Q_RR, Q_X18_⟩ hb_ hon hoff
      refine ⟨_, rfl, fun K hK => ?_⟩
      have e7 : a.tmps[7]? = some (.pointer (some ⟨g7, 0, none⟩)) := by rw [ha]; exact (putSel_off rfl).trans rfl
      replace ha := Aside0.mk ha
      have HB := Aside0.mk Q_HB
      obtain ⟨hcp0, hcp1, hfp0, hfp1⟩ := b2 (blk_below G_g7.out HB.out)
      refine value_ (w1 := w') (v := .agg #[.int .i64 ma, .slice Xxa a_.length cxa]) (by rfl) rfl ?_ ?_
      · go_simp
        (try simp only [i64_w])
        try rfl
      refine hK.out _ _ ⟨vr, m18_, (by rw [ha.out]; exact putSel_upk 0 hb_ rfl rfl rfl), Q_HB, fun h0_ _ => absurd ((hoff 18 (by kernel_rfl)).symm.trans h0_) (by decide), fun h0_ => absurd ((hoff 18 (by kernel_rfl)).symm.trans h0_) (by decide)⟩
    refine steps_cons ?_ ?_
    · rintro b a w' ⟨vr, m18_, ha, Q_HB, Q_RR, Q_X18_⟩ hb_ hon hoff
      refine ⟨_, rfl, fun K hK => ?_⟩
      have e10 : a.tmps[10]? = some (.pointer (some ⟨g10, 0, none⟩)) := by rw [ha]; exact (putSel_off rfl).trans rfl
      replace ha := Aside0.mk ha
      have HB := Aside0.mk Q_HB
      obtain ⟨hcp0, hcp1, hfp0, hfp1⟩ := b2 (blk_below G_g10.out HB.out)
      refine value_ (w1 := w') (v := .agg #[.int .i64 mb, .slice Xxb b_.length cxb]) (by rfl) rfl ?_ ?_
      · go_simp
        (try simp only [i64_w])
        try rfl
      refine hK.out _ _ ⟨vr, m18_, (by rw [ha.out]; exact putSel_upk 1 hb_ rfl rfl rfl), Q_HB, fun h0_ _ => absurd ((hoff 18 (by kernel_rfl)).symm.trans h0_) (by decide), fun h0_ => absurd ((hoff 18 (by kernel_rfl)).symm.trans h0_) (by decide)⟩
    refine steps_cons ?_ ?_
    · rintro b a w' ⟨vr, m18_, ha, Q_HB, Q_RR, Q_X18_⟩ hb_ hon hoff
      refine ⟨_, rfl, fun K hK => ?_⟩
      have e77 : a.tmps[77]? = some (.agg #[.int .i64 ma, .slice Xxa a_.length cxa]) := by rw [ha]; exact putSel_on (e := (0, 77, .agg #[.int .i64 ma, .slice Xxa a_.length cxa])) 0 rfl rfl (hon 0 (by kernel_rfl)) rfl
      have e78 : a.tmps[78]? = some (.agg #[.int .i64 mb, .slice Xxb b_.length cxb]) := by rw [ha]; exact putSel_on (e := (1, 78, .agg #[.int .i64 mb, .slice Xxb b_.length cxb])) 1 rfl rfl (hon 1 (by kernel_rfl)) rfl
      replace ha := Aside0.mk ha
      have HB := Aside0.mk Q_HB
      refine goes_ Try.func18 rfl rfl #[.agg #[.int .i64 ma, .slice Xxa a_.length cxa], .agg #[.int .i64 mb, .slice Xxb b_.length cxb]] (by rfl) rfl rfl (by first | (simp only [List.map_toArray, List.map_cons, List.map_nil, Act.eval, Array.getD_eq_getD_getElem?, Option.getD_some, e77, e78]; done) | (simp only [List.map_toArray, List.map_cons, List.map_nil, Act.eval, Array.getD_eq_getD_getElem?, Option.getD_some, e77, e78]; rfl)) ?_
      refine (weirkeeperlaw14_same.calls k ma Xxa cxa a_ mb Xxb cxb b_ true w' (Kd.C_below G_a.out HB.out) hlxa (Kd.C_below G_b.out HB.out) hlxb HT.out.same1).mono ?_
      rintro e_ w4_ ⟨rfl, hbel⟩
      refine ⟨_, rfl, ?_⟩
      refine hK.out _ _ ⟨vr, m18_, (by rw [ha.out]; exact putSel_upk 2 hb_ rfl rfl rfl), below_step HB.out hbel, fun h0_ _ => absurd ((hoff 18 (by kernel_rfl)).symm.trans h0_) (by decide), fun h0_ => absurd ((hoff 18 (by kernel_rfl)).symm.trans h0_) (by decide)⟩
    refine steps_cons ?_ ?_
    · rintro b a w' ⟨vr, m18_, ha, Q_HB, Q_RR, Q_X18_⟩ hb_ hon hoff
      refine ⟨_, rfl, fun K hK => ?_⟩
      have e79 : a.tmps[79]? = some (.bool true) := by rw [ha]; exact putSel_on (e := (2, 79, .bool true)) 2 rfl rfl (hon 2 (by kernel_rfl)) rfl
      replace ha := Aside0.mk ha
      have HB := Aside0.mk Q_HB
      refine value_ (w1 := w') (v := .bool false) (by rfl) rfl ?_ ?_
      · go_simp
        (try simp only [i64_w])
        try rfl
      refine hK.out _ _ ⟨vr, m18_, (by rw [ha.out]; exact putSel_upk 3 hb_ rfl rfl rfl), Q_HB, fun h0_ _ => absurd ((hoff 18 (by kernel_rfl)).symm.trans h0_) (by decide), fun h0_ => absurd ((hoff 18 (by kernel_rfl)).symm.trans h0_) (by decide)⟩
    refine steps_cons ?_ ?_
    · rintro b a w' ⟨vr, m18_, ha, Q_HB, Q_RR, Q_X18_⟩ hb_ hon hoff
      refine ⟨_, rfl, fun K hK => ?_⟩
      have e80 : a.tmps[80]? = some (.bool false) := by rw [ha]; exact putSel_on (e := (3, 80, .bool false)) 3 rfl rfl (hon 3 (by kernel_rfl)) rfl
      replace ha := Aside0.mk ha
      have HB := Aside0.mk Q_HB
      refine value_ (w1 := w') (v := .bool false) (by rfl) rfl ?_ ?_
      · go_simp
        (try simp only [i64_w])
        try rfl
      refine hK.out _ _ ⟨vr, m18_, (by rw [ha.out]; exact putSel_upk 4 hb_ rfl rfl rfl), Q_HB, fun h0_ _ => absurd ((hoff 18 (by kernel_rfl)).symm.trans h0_) (by decide), fun h0_ => absurd ((hoff 18 (by kernel_rfl)).symm.trans h0_) (by decide)⟩
    refine steps_cons ?_ ?_
    · rintro b a w' ⟨vr, m18_, ha, Q_HB, Q_RR, Q_X18_⟩ hb_ hon hoff
      refine ⟨_, rfl, fun K hK => ?_⟩
      have e8 : a.tmps[8]? = some (.pointer (some ⟨g8, 0, none⟩)) := by rw [ha]; exact (putSel_off rfl).trans rfl
      have e81 : a.tmps[81]? = some (.bool false) := by rw [ha]; exact putSel_on (e := (4, 81, .bool false)) 4 rfl rfl (hon 4 (by kernel_rfl)) rfl
      replace ha := Aside0.mk ha
      have HB := Aside0.mk Q_HB
      obtain ⟨hcp0, hcp1, hcp2, hfp0, hfp1, hfp2⟩ := b3 (blk_below G_g8.out HB.out)
      refine value_ (w1 := w') (v := .agg #[.int .i64 i0, .string i1, .bool i2]) (wanted_on rfl rfl rfl (e81.trans (by first | rfl | (simp [*]; done)))) rfl ?_ ?_
      · go_simp
        (try simp only [i64_w])
        try rfl
      refine hK.out _ _ ⟨vr, m18_, (by rw [ha.out]; exact putSel_upk 5 hb_ rfl rfl rfl), Q_HB, fun h0_ _ => absurd ((hoff 18 (by kernel_rfl)).symm.trans h0_) (by decide), fun h0_ => absurd ((hoff 18 (by kernel_rfl)).symm.trans h0_) (by decide)⟩
    refine steps_cons ?_ ?_
    · rintro b a w' ⟨vr, m18_, ha, Q_HB, Q_RR, Q_X18_⟩ hb_ hon hoff
      refine ⟨_, rfl, fun K hK => ?_⟩
      have e11 : a.tmps[11]? = some (.pointer (some ⟨g11, 0, none⟩)) := by rw [ha]; exact (putSel_off rfl).trans rfl
      have e81 : a.tmps[81]? = some (.bool false) := by rw [ha]; exact putSel_on (e := (4, 81, .bool false)) 4 rfl rfl (hon 4 (by kernel_rfl)) rfl
      replace ha := Aside0.mk ha
      have HB := Aside0.mk Q_HB
      obtain ⟨hcp0, hcp1, hcp2, hfp0, hfp1, hfp2⟩ := b3 (blk_below G_g11.out HB.out)
      refine value_ (w1 := w') (v := .agg #[.int .i64 i0, .string i1, .bool i2]) (wanted_on rfl rfl rfl (e81.trans (by first | rfl | (simp [*]; done)))) rfl ?_ ?_
      · go_simp
        (try simp only [i64_w])
        try rfl
      refine hK.out _ _ ⟨vr, m18_, (by rw [ha.out]; exact putSel_upk 6 hb_ rfl rfl rfl), Q_HB, fun h0_ _ => absurd ((hoff 18 (by kernel_rfl)).symm.trans h0_) (by decide), fun h0_ => absurd ((hoff 18 (by kernel_rfl)).symm.trans h0_) (by decide)⟩
    refine steps_cons ?_ ?_
    · rintro b a w' ⟨vr, m18_, ha, Q_HB, Q_RR, Q_X18_⟩ hb_ hon hoff
      refine ⟨_, rfl, fun K hK => ?_⟩
      have e82 : a.tmps[82]? = some (.agg #[.int .i64 i0, .string i1, .bool i2]) := by rw [ha]; exact putSel_on (e := (5, 82, .agg #[.int .i64 i0, .string i1, .bool i2])) 5 rfl rfl (hon 5 (by kernel_rfl)) rfl
      have e83 : a.tmps[83]? = some (.agg #[.int .i64 i0, .string i1, .bool i2]) := by rw [ha]; exact putSel_on (e := (6, 83, .agg #[.int .i64 i0, .string i1, .bool i2])) 6 rfl rfl (hon 6 (by kernel_rfl)) rfl
      have e81 : a.tmps[81]? = some (.bool false) := by rw [ha]; exact putSel_on (e := (4, 81, .bool false)) 4 rfl rfl (hon 4 (by kernel_rfl)) rfl
      replace ha := Aside0.mk ha
      have HB := Aside0.mk Q_HB
      refine value_ (w1 := w') (v := .bool false) (wanted_on rfl rfl rfl (e81.trans (by first | rfl | (simp [*]; done)))) rfl ?_ ?_
      · go_simp
        first | done | rfl | (simp; done)
      refine hK.out _ _ ⟨vr, m18_, (by rw [ha.out]; exact putSel_upk 7 hb_ rfl rfl rfl), HB.out, fun h0_ _ => absurd ((hoff 18 (by kernel_rfl)).symm.trans h0_) (by decide), fun h0_ => absurd ((hoff 18 (by kernel_rfl)).symm.trans h0_) (by decide)⟩
    refine steps_cons ?_ ?_
    · rintro b a w' ⟨vr, m18_, ha, Q_HB, Q_RR, Q_X18_⟩ hb_ hon hoff
      refine ⟨_, rfl, fun K hK => ?_⟩
      have e81 : a.tmps[81]? = some (.bool false) := by rw [ha]; exact putSel_on (e := (4, 81, .bool false)) 4 rfl rfl (hon 4 (by kernel_rfl)) rfl
      have e84 : a.tmps[84]? = some (.bool false) := by rw [ha]; exact putSel_on (e := (7, 84, .bool false)) 7 rfl rfl (hon 7 (by kernel_rfl)) rfl
      replace ha := Aside0.mk ha
      have HB := Aside0.mk Q_HB
      refine value_ (w1 := w') (v := .bool false) (by rfl) rfl ?_ ?_
      · go_simp
        (try simp only [i64_w])
        try rfl
      refine hK.out _ _ ⟨vr, m18_, (by rw [ha.out]; exact putSel_upk 8 hb_ rfl rfl rfl), Q_HB, fun h0_ _ => absurd ((hoff 18 (by kernel_rfl)).symm.trans h0_) (by decide), fun h0_ => absurd ((hoff 18 (by kernel_rfl)).symm.trans h0_) (by decide)⟩
    refine steps_cons ?_ ?_
    · rintro b a w' ⟨vr, m18_, ha, Q_HB, Q_RR, Q_X18_⟩ hb_ hon hoff
      refine ⟨_, rfl, fun K hK => ?_⟩
      have e85 : a.tmps[85]? = some (.bool false) := by rw [ha]; exact putSel_on (e := (8, 85, .bool false)) 8 rfl rfl (hon 8 (by kernel_rfl)) rfl
      replace ha := Aside0.mk ha
      have HB := Aside0.mk Q_HB
      refine value_ (w1 := w') (v := .bool false) (by rfl) rfl ?_ ?_
      · go_simp
        (try simp only [i64_w])
        try rfl
      refine hK.out _ _ ⟨vr, m18_, (by rw [ha.out]; exact putSel_upk 9 hb_ rfl rfl rfl), Q_HB, fun h0_ _ => absurd ((hoff 18 (by kernel_rfl)).symm.trans h0_) (by decide), fun h0_ => absurd ((hoff 18 (by kernel_rfl)).symm.trans h0_) (by decide)⟩
    refine steps_cons ?_ ?_
    · rintro b a w' ⟨vr, m18_, ha, Q_HB, Q_RR, Q_X18_⟩ hb_ hon hoff
      refine ⟨_, rfl, fun K hK => ?_⟩
      have e9 : a.tmps[9]? = some (.bool ok) := by rw [ha]; exact (putSel_off rfl).trans rfl
      have e86 : a.tmps[86]? = some (.bool false) := by rw [ha]; exact putSel_on (e := (9, 86, .bool false)) 9 rfl rfl (hon 9 (by kernel_rfl)) rfl
      replace ha := Aside0.mk ha
      have HB := Aside0.mk Q_HB
      refine value_ (w1 := w') (v := .bool ok) (wanted_on rfl rfl rfl (e86.trans (by first | rfl | (simp [*]; done)))) rfl ?_ ?_
      · go_simp
        (try simp only [i64_w])
        try rfl
      refine hK.out _ _ ⟨vr, m18_, (by rw [ha.out]; exact putSel_upk 10 hb_ rfl rfl rfl), Q_HB, fun h0_ _ => absurd ((hoff 18 (by kernel_rfl)).symm.trans h0_) (by decide), fun h0_ => absurd ((hoff 18 (by kernel_rfl)).symm.trans h0_) (by decide)⟩
    refine steps_cons ?_ ?_
    · rintro b a w' ⟨vr, m18_, ha, Q_HB, Q_RR, Q_X18_⟩ hb_ hon hoff
      refine ⟨_, rfl, fun K hK => ?_⟩
      have e12 : a.tmps[12]? = some (.bool ok) := by rw [ha]; exact (putSel_off rfl).trans rfl
      have e86 : a.tmps[86]? = some (.bool false) := by rw [ha]; exact putSel_on (e := (9, 86, .bool false)) 9 rfl rfl (hon 9 (by kernel_rfl)) rfl
      replace ha := Aside0.mk ha
      have HB := Aside0.mk Q_HB
      refine value_ (w1 := w') (v := .bool ok) (wanted_on rfl rfl rfl (e86.trans (by first | rfl | (simp [*]; done)))) rfl ?_ ?_
      · go_simp
        (try simp only [i64_w])
        try rfl
      refine hK.out _ _ ⟨vr, m18_, (by rw [ha.out]; exact putSel_upk 11 hb_ rfl rfl rfl), Q_HB, fun h0_ _ => absurd ((hoff 18 (by kernel_rfl)).symm.trans h0_) (by decide), fun h0_ => absurd ((hoff 18 (by kernel_rfl)).symm.trans h0_) (by decide)⟩
    refine steps_cons ?_ ?_
    · rintro b a w' ⟨vr, m18_, ha, Q_HB, Q_RR, Q_X18_⟩ hb_ hon hoff
      refine ⟨_, rfl, fun K hK => ?_⟩
      have e87 : a.tmps[87]? = some (.bool ok) := by rw [ha]; exact putSel_on (e := (10, 87, .bool ok)) 10 rfl rfl (hon 10 (by kernel_rfl)) rfl
      have e88 : a.tmps[88]? = some (.bool ok) := by rw [ha]; exact putSel_on (e := (11, 88, .bool ok)) 11 rfl rfl (hon 11 (by kernel_rfl)) rfl
      have e86 : a.tmps[86]? = some (.bool false) := by rw [ha]; exact putSel_on (e := (9, 86, .bool false)) 9 rfl rfl (hon 9 (by kernel_rfl)) rfl
      replace ha := Aside0.mk ha
      have HB := Aside0.mk Q_HB
      refine value_ (w1 := w') (v := .bool false) (wanted_on rfl rfl rfl (e86.trans (by first | rfl | (simp [*]; done)))) rfl ?_ ?_
      · go_simp
        first | done | rfl | (simp; done)
      refine hK.out _ _ ⟨vr, m18_, (by rw [ha.out]; exact putSel_upk 12 hb_ rfl rfl rfl), HB.out, fun h0_ _ => absurd ((hoff 18 (by kernel_rfl)).symm.trans h0_) (by decide), fun h0_ => absurd ((hoff 18 (by kernel_rfl)).symm.trans h0_) (by decide)⟩
    refine steps_cons ?_ ?_
    · rintro b a w' ⟨vr, m18_, ha, Q_HB, Q_RR, Q_X18_⟩ hb_ hon hoff
      refine ⟨_, rfl, fun K hK => ?_⟩
      have e86 : a.tmps[86]? = some (.bool false) := by rw [ha]; exact putSel_on (e := (9, 86, .bool false)) 9 rfl rfl (hon 9 (by kernel_rfl)) rfl
      have e89 : a.tmps[89]? = some (.bool false) := by rw [ha]; exact putSel_on (e := (12, 89, .bool false)) 12 rfl rfl (hon 12 (by kernel_rfl)) rfl
      replace ha := Aside0.mk ha
      have HB := Aside0.mk Q_HB
      refine value_ (w1 := w') (v := .bool false) (by rfl) rfl ?_ ?_
      · go_simp
        (try simp only [i64_w])
        try rfl
      refine hK.out _ _ ⟨vr, m18_, (by rw [ha.out]; exact putSel_upk 13 hb_ rfl rfl rfl), Q_HB, fun h0_ _ => absurd ((hoff 18 (by kernel_rfl)).symm.trans h0_) (by decide), fun h0_ => absurd ((hoff 18 (by kernel_rfl)).symm.trans h0_) (by decide)⟩
    refine steps_cons ?_ ?_
    · rintro b a w' ⟨vr, m18_, ha, Q_HB, Q_RR, Q_X18_⟩ hb_ hon hoff
      refine ⟨_, rfl, fun K hK => ?_⟩
      have e90 : a.tmps[90]? = some (.bool false) := by rw [ha]; exact putSel_on (e := (13, 90, .bool false)) 13 rfl rfl (hon 13 (by kernel_rfl)) rfl
      replace ha := Aside0.mk ha
      have HB := Aside0.mk Q_HB
      refine value_ (w1 := w') (v := .bool false) (by rfl) rfl ?_ ?_
      · go_simp
        (try simp only [i64_w])
        try rfl
      refine hK.out _ _ ⟨vr, m18_, (by rw [ha.out]; exact putSel_upk 14 hb_ rfl rfl rfl), Q_HB, fun h0_ _ => absurd ((hoff 18 (by kernel_rfl)).symm.trans h0_) (by decide), fun h0_ => absurd ((hoff 18 (by kernel_rfl)).symm.trans h0_) (by decide)⟩
    refine steps_cons ?_ ?_
    · rintro b a w' ⟨vr, m18_, ha, Q_HB, Q_RR, Q_X18_⟩ hb_ hon hoff
      refine ⟨_, rfl, fun K hK => ?_⟩
      have e3 : a.tmps[3]? = some (.pointer (some ⟨g, 0, none⟩)) := by rw [ha]; exact (putSel_off rfl).trans rfl
      have e91 : a.tmps[91]? = some (.bool false) := by rw [ha]; exact putSel_on (e := (14, 91, .bool false)) 14 rfl rfl (hon 14 (by kernel_rfl)) rfl
      replace ha := Aside0.mk ha
      have HB := Aside0.mk Q_HB
      obtain ⟨hcp0, hcp1, hfp0, hfp1⟩ := b2 (blk_below G_g.out HB.out)
      refine value_ (w1 := w') (v := .agg #[.int .i64 m, .slice A l.length c]) (wanted_on rfl rfl rfl (e91.trans (by first | rfl | (simp [*]; done)))) rfl ?_ ?_
      · go_simp
        (try simp only [i64_w])
        try rfl
      refine hK.out _ _ ⟨vr, m18_, (by rw [ha.out]; exact putSel_upk 15 hb_ rfl rfl rfl), Q_HB, fun h0_ _ => absurd ((hoff 18 (by kernel_rfl)).symm.trans h0_) (by decide), fun h0_ => absurd ((hoff 18 (by kernel_rfl)).symm.trans h0_) (by decide)⟩
    refine steps_cons ?_ ?_
    · rintro b a w' ⟨vr, m18_, ha, Q_HB, Q_RR, Q_X18_⟩ hb_ hon hoff
      refine ⟨_, rfl, fun K hK => ?_⟩
      have e92 : a.tmps[92]? = some (.agg #[.int .i64 m, .slice A l.length c]) := by rw [ha]; exact putSel_on (e := (15, 92, .agg #[.int .i64 m, .slice A l.length c])) 15 rfl rfl (hon 15 (by kernel_rfl)) rfl
      have e91 : a.tmps[91]? = some (.bool false) := by rw [ha]; exact putSel_on (e := (14, 91, .bool false)) 14 rfl rfl (hon 14 (by kernel_rfl)) rfl
      replace ha := Aside0.mk ha
      have HB := Aside0.mk Q_HB
      refine goes_ Try.func19 rfl rfl #[.agg #[.int .i64 m, .slice A l.length c]] (wanted_on rfl rfl rfl (e91.trans (by first | rfl | (simp [*]; done)))) rfl rfl (by first | (simp only [List.map_toArray, List.map_cons, List.map_nil, Act.eval, Array.getD_eq_getD_getElem?, Option.getD_some, e92, e91]; done) | (simp only [List.map_toArray, List.map_cons, List.map_nil, Act.eval, Array.getD_eq_getD_getElem?, Option.getD_some, e92, e91]; rfl)) ?_
      refine (cache_Right.calls k m A c l rt w' (Kd.C_below HC.out (below_step G_w.out HB.out)) hc HT.out.right).mono ?_
      rintro e_ w4_ ⟨rfl, hbel⟩
      refine ⟨_, rfl, ?_⟩
      refine hK.out _ _ ⟨vr, m18_, (by rw [ha.out]; exact putSel_upk 16 hb_ rfl rfl rfl), below_step HB.out hbel, fun h0_ _ => absurd ((hoff 18 (by kernel_rfl)).symm.trans h0_) (by decide), fun h0_ => absurd ((hoff 18 (by kernel_rfl)).symm.trans h0_) (by decide)⟩
    refine steps_cons ?_ ?_
    · rintro b a w' ⟨vr, m18_, ha, Q_HB, Q_RR, Q_X18_⟩ hb_ hon hoff
      refine ⟨_, rfl, fun K hK => ?_⟩
      have e3 : a.tmps[3]? = some (.pointer (some ⟨g, 0, none⟩)) := by rw [ha]; exact (putSel_off rfl).trans rfl
      have e91 : a.tmps[91]? = some (.bool false) := by rw [ha]; exact putSel_on (e := (14, 91, .bool false)) 14 rfl rfl (hon 14 (by kernel_rfl)) rfl
      replace ha := Aside0.mk ha
      have HB := Aside0.mk Q_HB
      obtain ⟨hcp0, hcp1, hfp0, hfp1⟩ := b2 (blk_below G_g.out HB.out)
      refine value_ (w1 := w') (v := .agg #[.int .i64 m, .slice A l.length c]) (wanted_on rfl rfl rfl (e91.trans (by first | rfl | (simp [*]; done)))) rfl ?_ ?_
      · go_simp
        (try simp only [i64_w])
        try rfl
      refine hK.out _ _ ⟨vr, m18_, (by rw [ha.out]; exact putSel_upk 17 hb_ rfl rfl rfl), Q_HB, fun h0_ _ => absurd ((hoff 18 (by kernel_rfl)).symm.trans h0_) (by decide), fun h0_ => absurd ((hoff 18 (by kernel_rfl)).symm.trans h0_) (by decide)⟩
    refine steps_cons ?_ ?_
    · rintro b a w' ⟨vr, m18_, ha, Q_HB, Q_RR, Q_X18_⟩ hb_ hon hoff
      refine ⟨_, rfl, fun K hK => ?_⟩
      have e94 : a.tmps[94]? = some (.agg #[.int .i64 m, .slice A l.length c]) := by rw [ha]; exact putSel_on (e := (17, 94, .agg #[.int .i64 m, .slice A l.length c])) 17 rfl rfl (hon 17 (by kernel_rfl)) rfl
      have e91 : a.tmps[91]? = some (.bool false) := by rw [ha]; exact putSel_on (e := (14, 91, .bool false)) 14 rfl rfl (hon 14 (by kernel_rfl)) rfl
      replace ha := Aside0.mk ha
      have HB := Aside0.mk Q_HB
      refine goes_ Try.func12 rfl rfl #[.agg #[.int .i64 m, .slice A l.length c]] (wanted_on rfl rfl rfl (e91.trans (by first | rfl | (simp [*]; done)))) rfl rfl (by first | (simp only [List.map_toArray, List.map_cons, List.map_nil, Act.eval, Array.getD_eq_getD_getElem?, Option.getD_some, e94, e91]; done) | (simp only [List.map_toArray, List.map_cons, List.map_nil, Act.eval, Array.getD_eq_getD_getElem?, Option.getD_some, e94, e91]; rfl)) ?_
      refine (ref_c k m A c l mr rc w' (Kd.C_below HC.out (below_step G_w.out HB.out)) hc HT.out.refc).mono ?_
      rintro e_ w4_ ⟨vr_, rfl, hR_, hbel⟩
      refine ⟨_, rfl, ?_⟩
      refine hK.out _ _ ⟨vr_, (.agg #[.int .i64 mr, vr_]), (by rw [ha.out]; exact putSel_upk 18 hb_ rfl rfl rfl), below_step HB.out hbel, fun _ _ => hR_, fun _ => rfl⟩
    refine steps_cons ?_ ?_
    · rintro b a w' ⟨vr, m18_, ha, Q_HB, Q_RR, Q_X18_⟩ hb_ hon hoff
      refine ⟨_, rfl, fun K hK => ?_⟩
      have e95 : a.tmps[95]? = some (m18_) := by rw [ha]; exact putSel_on (e := (18, 95, m18_)) 18 rfl rfl (hon 18 (by kernel_rfl)) rfl
      rw [Q_X18_ (hon 18 (by kernel_rfl))] at e95
      have e91 : a.tmps[91]? = some (.bool false) := by rw [ha]; exact putSel_on (e := (14, 91, .bool false)) 14 rfl rfl (hon 14 (by kernel_rfl)) rfl
      replace ha := Aside0.mk ha
      have HB := Aside0.mk Q_HB
      have RR := Aside0.mk (Q_RR (hon 18 (by kernel_rfl)) hb_)
      obtain ⟨Ar, cr, er_, hlr, hCr⟩ := RR.out
      subst er_
      refine goes_ Try.func20 rfl rfl #[.agg #[.int .i64 mr, .slice Ar rc.length cr]] (wanted_on rfl rfl rfl (e91.trans (by first | rfl | (simp [*]; done)))) rfl rfl (by first | (simp only [List.map_toArray, List.map_cons, List.map_nil, Act.eval, Array.getD_eq_getD_getElem?, Option.getD_some, e95, e91]; done) | (simp only [List.map_toArray, List.map_cons, List.map_nil, Act.eval, Array.getD_eq_getD_getElem?, Option.getD_some, e95, e91]; rfl)) ?_
      refine (weirkeeperref14_Right.calls k mr Ar cr rc rt w' hCr hlr HT.out.rright).mono ?_
      rintro e_ w4_ ⟨rfl, hbel⟩
      refine ⟨_, rfl, ?_⟩
      refine hK.out _ _ ⟨(.slice Ar rc.length cr), m18_, (by rw [ha.out]; exact putSel_upk 19 hb_ rfl rfl rfl), below_step HB.out hbel, fun _ h1_ => absurd ((up_self b 19).symm.trans h1_) (by decide), Q_X18_⟩
    refine steps_cons ?_ ?_
    · rintro b a w' ⟨vr, m18_, ha, Q_HB, Q_RR, Q_X18_⟩ hb_ hon hoff
      refine ⟨_, rfl, fun K hK => ?_⟩
      have e93 : a.tmps[93]? = some (.bool rt) := by rw [ha]; exact putSel_on (e := (16, 93, .bool rt)) 16 rfl rfl (hon 16 (by kernel_rfl)) rfl
      have e96 : a.tmps[96]? = some (.bool rt) := by rw [ha]; exact putSel_on (e := (19, 96, .bool rt)) 19 rfl rfl (hon 19 (by kernel_rfl)) rfl
      have e91 : a.tmps[91]? = some (.bool false) := by rw [ha]; exact putSel_on (e := (14, 91, .bool false)) 14 rfl rfl (hon 14 (by kernel_rfl)) rfl
      replace ha := Aside0.mk ha
      have HB := Aside0.mk Q_HB
      refine value_ (w1 := w') (v := .bool false) (wanted_on rfl rfl rfl (e91.trans (by first | rfl | (simp [*]; done)))) rfl ?_ ?_
      · go_simp
        first | done | rfl | (simp; done)
      refine hK.out _ _ ⟨vr, m18_, (by rw [ha.out]; exact putSel_upk 20 hb_ rfl rfl rfl), HB.out, fun _ h1_ => absurd ((hon 19 (by kernel_rfl)).symm.trans h1_) (by decide), Q_X18_⟩
    refine steps_cons ?_ ?_
    · rintro b a w' ⟨vr, m18_, ha, Q_HB, Q_RR, Q_X18_⟩ hb_ hon hoff
      refine ⟨_, rfl, fun K hK => ?_⟩
      have e91 : a.tmps[91]? = some (.bool false) := by rw [ha]; exact putSel_on (e := (14, 91, .bool false)) 14 rfl rfl (hon 14 (by kernel_rfl)) rfl
      have e97 : a.tmps[97]? = some (.bool false) := by rw [ha]; exact putSel_on (e := (20, 97, .bool false)) 20 rfl rfl (hon 20 (by kernel_rfl)) rfl
      replace ha := Aside0.mk ha
      have HB := Aside0.mk Q_HB
      refine value_ (w1 := w') (v := .bool false) (by rfl) rfl ?_ ?_
      · go_simp
        (try simp only [i64_w])
        try rfl
      refine hK.out _ _ ⟨vr, m18_, (by rw [ha.out]; exact putSel_upk 21 hb_ rfl rfl rfl), Q_HB, fun _ h1_ => absurd ((hon 19 (by kernel_rfl)).symm.trans h1_) (by decide), Q_X18_⟩
    exact steps_nil
  · rintro b a w' hall ⟨vr, m18_, ha, Q_HB, Q_RR, Q_X18_⟩
    clear HB
    have hb0_ := hall 0 (by kernel_rfl)
    have hb1_ := hall 1 (by kernel_rfl)
    have hb2_ := hall 2 (by kernel_rfl)
    have hb3_ := hall 3 (by kernel_rfl)
    have hb4_ := hall 4 (by kernel_rfl)
    have hb5_ := hall 5 (by kernel_rfl)
    have hb6_ := hall 6 (by kernel_rfl)
    have hb7_ := hall 7 (by kernel_rfl)
    have hb8_ := hall 8 (by kernel_rfl)
    have hb9_ := hall 9 (by kernel_rfl)
    have hb10_ := hall 10 (by kernel_rfl)
    have hb11_ := hall 11 (by kernel_rfl)
    have hb12_ := hall 12 (by kernel_rfl)
    have hb13_ := hall 13 (by kernel_rfl)
    have hb14_ := hall 14 (by kernel_rfl)
    have hb15_ := hall 15 (by kernel_rfl)
    have hb16_ := hall 16 (by kernel_rfl)
    have hb17_ := hall 17 (by kernel_rfl)
    have hb18_ := hall 18 (by kernel_rfl)
    have hb19_ := hall 19 (by kernel_rfl)
    have hb20_ := hall 20 (by kernel_rfl)
    have hb21_ := hall 21 (by kernel_rfl)
    subst ha
    obtain rfl := Q_X18_ hb18_
    simp only [putSel, hb0_, hb1_, hb2_, hb3_, hb4_, hb5_, hb6_, hb7_, hb8_, hb9_, hb10_, hb11_, hb12_, hb13_, hb14_, hb15_, hb16_, hb17_, hb18_, hb19_, hb20_, hb21_, if_true, Act.put, List.setIfInBounds_toArray, List.set_cons_zero, List.set_cons_succ]
    have HB := Aside0.mk Q_HB
    clear Q_HB
    clear Q_RR
    clear hall hb0_ hb1_ hb2_ hb3_ hb4_ hb5_ hb6_ hb7_ hb8_ hb9_ hb10_ hb11_ hb12_ hb13_ hb14_ hb15_ hb16_ hb17_ hb18_ hb19_ hb20_ hb21_
    have Hw30 := Aside0.mk (Hw28.out.go HB.out)
    clear HB Hw28
    go_upto_region 12 with (first | ((with_reducible refine gate_dst (N := 101) rfl ?_); (try (refine gate_guard (by rfl) ?_; dsimp only)); refine goesL_ (some 101) rfl rfl Try.func21 (by kernel_rfl) rfl #[.int .i64 at_] rfl (by (try simp only [List.map_toArray, List.map_cons, List.map_nil]); first | done | rfl) ?_; (with_reducible refine (cache_New.calls at_ mn n kk w' HT.out.new).mono ?_); rintro e w31 ⟨vn, rfl, hR, hb⟩; refine ⟨_, rfl, ?_⟩; obtain ⟨Xxn, cxn, en_⟩ := Kd.R_slice hR; subst en_; have Hw31 := Aside0.mk (Hw30.out.go hb); clear hb hR) | ((with_reducible refine gate_dst (N := 23) rfl ?_); refine box_event ?hg (N := 23) ?hd (cs := #[.int .i64 0, .slice none 0 0]) (t := 24) ?hr ?_; (case hd => rfl); (case hg => rfl); (case hr => first | (go_simp; done) | (go_simp; rfl)); intro g23 hg w32 hbox hb; have BZ := Aside0.mk hbox; have GE := Aside0.mk (Nat.le_of_eq hg.symm : w31.heap.size ≤ g23); have BL := Aside0.mk hb; clear hbox hb hg; obtain ⟨hcdw320, hcdw321, hfdw320, hfdw321⟩ := b2 BZ.out; ) | ((with_reducible refine gate_store (t := 24) (p := 23) rfl ?_); refine store_event (t := 24) (p := 23) (v := ?vo_w33) (w1 := ((w32.setCell ⟨g23, 0, none⟩ (.int .i64 mn)).setCell ⟨g23, 1, none⟩ (.slice Xxn n.length cxn))) ?hg ?ho ?hn ?hr ?_; (case ho => rfl); (case hg => rfl); (case hn => rfl); (case hr => first | (go_simp; done) | (go_simp; rfl)); intro w33 hw; have SS : Sets w32 w33 g23 (.cells #[.int .i64 mn, .slice Xxn n.length cxn] 24 (0, 0)) := (by rw [hw]; exact sets2 BZ.out _ _); have Hw33 := Aside0.mk ((Hw31.out.go (SS.below w31 BL.out GE.out)).add _ SS.box (keeps_box g23 (.cells #[.int .i64 mn, .slice Xxn n.length cxn] 24 (0, 0)))); clear SS hw BZ BL GE; obtain ⟨hcn0, hcn1, hfn0, hfn1⟩ := b2 (show w33.heap[g23]? = some (.cells #[.int .i64 mn, .slice Xxn n.length cxn] 24 (0, 0)) from Hw33.out.get 0 rfl); ))
    go_cut [128] (fun v128 wc => v128 = .bool false ∧ w33 = wc)
    case first =>
      rcases HT.out.made with ⟨rfl, h3, h4, h5, rfl⟩ | ⟨rfl, h3⟩ | ⟨rfl, h3, h4⟩
      · have d1 : decide (1 ≤ at_) = true := decide_eq_true h3
        have d2 : decide (at_ ≤ 100) = true := decide_eq_true h4
        clear HT h3 h4
        subst h5
        go_wp2
        go_meet
        case rel => exact ⟨rfl, rfl⟩
      · have d1 : decide (1 ≤ at_) = false := decide_eq_false (by omega)
        clear HT h3
        go_wp2
        go_meet
        case rel => exact ⟨rfl, rfl⟩
      · have d1 : decide (1 ≤ at_) = true := decide_eq_true h3
        have d2 : decide (at_ ≤ 100) = false := decide_eq_false (by omega)
        clear HT h3 h4
        go_wp2
        go_meet
        case rel => exact ⟨rfl, rfl⟩
    case rest =>
      obtain ⟨rfl, rfl⟩ := hcut
      obtain ⟨hck0, hck1, hfk0, hfk1⟩ := b2 (show w33.heap[g13]? = some (.cells #[.int .i64 md, .slice Xxd d.length cxd] 24 (0, 0)) from Hw33.out.get 10 rfl)
      obtain ⟨hcl0, hcl1, hfl0, hfl1⟩ := b2 (show w33.heap[g16]? = some (.cells #[.int .i64 mf, .slice Xxf f.length cxf] 32 (0, 0)) from Hw33.out.get 7 rfl)
      have hs_ := HT.out.said
      rcases hs_ with ⟨rfl, rfl⟩ | ⟨rfl, rfl⟩
      all_goals (go_wp2_with (first | ((with_reducible refine gate_dst (N := 131) rfl ?_); (try (refine gate_guard (by rfl) ?_; dsimp only)); refine goesL_ (some 131) rfl rfl Try.func18 (by kernel_rfl) rfl #[.agg #[.int .i64 md, .slice Xxd d.length cxd], .agg #[.int .i64 mf, .slice Xxf f.length cxf]] rfl (by (try simp only [List.map_toArray, List.map_cons, List.map_nil]); first | done | rfl) ?_; (with_reducible refine (weirkeeperlaw14_same.calls k md Xxd cxd d mf Xxf cxf f true w33 (Hw33.out.get 12 rfl) hlxd (Hw33.out.get 9 rfl) hlxf HT.out.same2).mono ?_); rintro e w34 ⟨rfl, hb⟩; refine ⟨_, rfl, ?_⟩; have Hw34 := Aside0.mk (Hw33.out.go hb); clear hb) | ((with_reducible refine gate_dst (N := 134) rfl ?_); (try (refine gate_guard (by rfl) ?_; dsimp only)); refine goesL_ (some 134) rfl rfl Try.func15 (by kernel_rfl) rfl #[.slice Xxo out.length cxo] rfl (by (try simp only [List.map_toArray, List.map_cons, List.map_nil]); first | done | rfl) ?_; (with_reducible refine (refs_c k Xxo cxo out ro w34 (Hw34.out.get 11 rfl) hlxo HT.out.refso).mono ?_); rintro e w35 ⟨_, rfl, ⟨Xro, cro, rfl, hlro, hCro⟩, hb⟩; refine ⟨_, rfl, ?_⟩; have Hw35 := Aside0.mk (Hw34.out.go hb); have HX := Aside0.mk hCro; clear hb hCro) | ((with_reducible refine gate_dst (N := 136) rfl ?_); (try (refine gate_guard (by rfl) ?_; dsimp only)); refine goesL_ (some 136) rfl rfl Try.func22 (by kernel_rfl) rfl #[.slice Xro ro.length cro, .slice Xxw went.length cxw] rfl (by (try simp only [List.map_toArray, List.map_cons, List.map_nil]); first | done | rfl) ?_; (with_reducible refine (weirkeeperref14_Same.calls k Xro cro ro Xxw cxw went true w35 HX.out hlro (Hw35.out.get 8 rfl) hlxw HT.out.eq1).mono ?_); rintro e w36_ ⟨rfl, hd⟩; refine ⟨_, rfl, ?_⟩; obtain ⟨nd, rfl⟩ := hd; have Hw36 := Aside0.mk (Hw35.out.drewN nd); generalize w35.drewN nd = w36 at Hw36 ⊢; clear HX; obtain ⟨hcu0, hcu1, hfu0, hfu1⟩ := b2 (show w36.heap[g19]? = some (.cells #[.int .i64 mg, .slice Xxg gg.length cxg] 24 (0, 0)) from Hw36.out.get 4 rfl); obtain ⟨hcv0, hcv1, hfv0, hfv1⟩ := b2 (show w36.heap[g21]? = some (.cells #[.int .i64 mh, .slice Xxh h.length cxh] 32 (0, 0)) from Hw36.out.get 1 rfl); ) | ((with_reducible refine gate_dst (N := 154) rfl ?_); (try (refine gate_guard (by rfl) ?_; dsimp only)); refine goesL_ (some 154) rfl rfl Try.func18 (by kernel_rfl) rfl #[.agg #[.int .i64 mg, .slice Xxg gg.length cxg], .agg #[.int .i64 mh, .slice Xxh h.length cxh]] rfl (by (try simp only [List.map_toArray, List.map_cons, List.map_nil]); first | done | rfl) ?_; (with_reducible refine (weirkeeperlaw14_same.calls k mg Xxg cxg gg mh Xxh cxh h true w36 (Hw36.out.get 6 rfl) hlxg (Hw36.out.get 3 rfl) hlxh HT.out.same3).mono ?_); rintro e w37 ⟨rfl, hb⟩; refine ⟨_, rfl, ?_⟩; have Hw37 := Aside0.mk (Hw36.out.go hb); clear hb) | ((with_reducible refine gate_dst (N := 158) rfl ?_); (try (refine gate_guard (by rfl) ?_; dsimp only)); refine goesL_ (some 158) rfl rfl Try.func15 (by kernel_rfl) rfl #[.slice Xxy dirty.length cxy] rfl (by (try simp only [List.map_toArray, List.map_cons, List.map_nil]); first | done | rfl) ?_; (with_reducible refine (refs_c k Xxy cxy dirty rd w37 (Hw37.out.get 5 rfl) hlxy HT.out.refsd).mono ?_); rintro e w38 ⟨_, rfl, ⟨Xrd, crd, rfl, hlrd, hCrd⟩, hb⟩; refine ⟨_, rfl, ?_⟩; have Hw38 := Aside0.mk (Hw37.out.go hb); have HX := Aside0.mk hCrd; clear hb hCrd) | ((with_reducible refine gate_dst (N := 160) rfl ?_); (try (refine gate_guard (by rfl) ?_; dsimp only)); refine goesL_ (some 160) rfl rfl Try.func22 (by kernel_rfl) rfl #[.slice Xrd rd.length crd, .slice Xxv were.length cxv] rfl (by (try simp only [List.map_toArray, List.map_cons, List.map_nil]); first | done | rfl) ?_; (with_reducible refine (weirkeeperref14_Same.calls k Xrd crd rd Xxv cxv were true w38 HX.out hlrd (Hw38.out.get 2 rfl) hlxv HT.out.eq2).mono ?_); rintro e w39_ ⟨rfl, hd⟩; refine ⟨_, rfl, ?_⟩; obtain ⟨nd, rfl⟩ := hd; have Hw39 := Aside0.mk (Hw38.out.drewN nd); generalize w38.drewN nd = w39 at Hw39 ⊢; clear HX) | ((with_reducible refine gate_dst (N := 163) rfl ?_); (try (refine gate_guard (by rfl) ?_; dsimp only)); refine goesL_ (some 163) rfl rfl Try.func9 (by kernel_rfl) rfl #[] rfl (by (try simp only [List.map_toArray, List.map_cons, List.map_nil]); first | done | rfl) ?_; (with_reducible refine (weirkeeperlaw14_awake.calls k true w39 HA.out).mono ?_); rintro e w40 ⟨rfl, hb⟩; refine ⟨_, rfl, ?_⟩; have HBE := Aside0.mk (below_step Hw39.out.below hb); clear hb)); go_ret; exact ⟨rfl, HBE.out⟩)
end Go.Proofs.Ytgjngaeoojcioaa.CTells
