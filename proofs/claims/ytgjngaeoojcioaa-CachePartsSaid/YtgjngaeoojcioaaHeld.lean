/- What is known of a world while a law is walked: a list of facts, each of which any growth keeps; stores into a variable of its own; the callees by what their rows read as. -/
import Derived.Test.YtgjngaeoojcioaaFun
import Derived.Test.YtgjngaeoojcioaaXx9
import Derived.Test.YtgjngaeoojcioaaXx10
namespace Go.Proofs.Ytgjngaeoojcioaa.Held
open Go Go.RowKit Go.Proofs.Ytgjngaeoojcioaa.X Go.Proofs.YtgjngaeoojcioaaW Go.Proofs.YtgjngaeoojcioaaW.PrintWords Go.Proofs.YtgjngaeoojcioaaW.PrintLast Go.Proofs.YtgjngaeoojcioaaW.PrintMore
set_option linter.unusedVariables false
set_option linter.unusedSimpArgs false
/-- A fact that any growth keeps. -/
def Keeps (P : World → Prop) : Prop := ∀ w w1 : World, P w → Below w.heap.size w w1 → P w1
structure Held (w0 w : World) (Ps : List (World → Prop)) : Prop where
  below : Below w0.heap.size w0 w
  all : ∀ (i : Nat) (P : World → Prop), Ps[i]? = some P → P w ∧ Keeps P
section
variable {w0 w w1 : World} {Ps : List (World → Prop)}
theorem Held.go (h : Held w0 w Ps) (hb : Below w.heap.size w w1) : Held w0 w1 Ps := ⟨below_step h.below hb, fun i P hP => ⟨(h.all i P hP).2 w w1 (h.all i P hP).1 hb, (h.all i P hP).2⟩⟩
theorem Held.drewN (h : Held w0 w Ps) (n : Nat) : Held w0 (w.drewN n) Ps := h.go (pw_below_drewN (Below.refl _ _) n)
theorem Held.drew (h : Held w0 w Ps) : Held w0 w.drew Ps := h.go (below_drew1 (Below.refl _ _))
theorem Held.get (h : Held w0 w Ps) (i : Nat) {P : World → Prop} (hi : Ps[i]? = some P) : P w := (h.all i P hi).1
theorem Held.add (h : Held w0 w Ps) (P : World → Prop) (hp : P w) (hk : Keeps P) : Held w0 w (Ps ++ [P]) := ⟨h.below, fun i Q hQ => by
  rcases Nat.lt_trichotomy i Ps.length with hlt | heq | hgt
  · rw [List.getElem?_append_left hlt] at hQ
    exact h.all i Q hQ
  · subst heq
    rw [List.getElem?_append_right (Nat.le_refl _)] at hQ
    simp at hQ
    subst hQ
    exact ⟨hp, hk⟩
  · rw [List.getElem?_eq_none (by simp; omega)] at hQ
    cases hQ⟩
theorem Held.start (w : World) : Held w w [] := ⟨Below.refl _ _, fun i P h => by simp at h⟩
theorem Held.base (h : Below w0.heap.size w0 w) : Held w0 w [] := ⟨h, fun i P h => by simp at h⟩
theorem keeps_C {α : Type} (d : Kd α) (A : Option Addr) (xs : List α) : Keeps (fun w => Kd.C d w A xs.length xs) := fun _ _ h hb => Kd.C_below h hb
theorem keeps_box (g : Nat) (o : Obj) : Keeps (fun w => w.heap[g]? = some o) := fun _ _ h hb => blk_below h hb
end
/-- A slice that reads as a row. -/
def Row {α : Type} (d : Kd α) (w : World) (v : Value) (xs : List α) : Prop := ∃ A c, v = .slice A xs.length c ∧ xs.length ≤ c ∧ Kd.C d w A xs.length xs
theorem Row.go {α : Type} {d : Kd α} {w w1 : World} {v : Value} {xs : List α} (h : Row d w v xs) (hb : Below w.heap.size w w1) : Row d w1 v xs := by
  obtain ⟨A, c, he, hl, hC⟩ := h
  exact ⟨A, c, he, hl, Kd.C_below hC hb⟩
theorem row_of_R {α : Type} {d : Kd α} {e base : Nat} {ok : Nat → Prop} {w : World} {v : Value} {xs : List α} (h : d.R e w base ok v xs) : Row d w v xs := by
  obtain ⟨A, c, he, hl, hC⟩ := Kd.R_reads h
  exact ⟨A, c, he, hl, hC⟩
/-- A whole variable of its own is stored into. -/
structure Sets (w w1 : World) (g : Nat) (o : Obj) : Prop where
  box : w1.heap[g]? = some o
  far : ∀ k, k ≠ g → w1.heap[k]? = w.heap[k]?
  below : ∀ w0 : World, Below w0.heap.size w0 w → w0.heap.size ≤ g → Below w0.heap.size w0 w1
theorem sets2 {w : World} {g t : Nat} {a b : Value} (h : w.heap[g]? = some (.cells #[a, b] t (0, 0))) (x y : Value) :
    Sets w ((w.setCell ⟨g, 0, none⟩ x).setCell ⟨g, 1, none⟩ y) g (.cells #[x, y] t (0, 0)) :=
  ⟨blk_put (blk_put h 0 x (cs' := #[x, b]) rfl) 1 y rfl, fun k hk => (Below.heap_setCell _ _ _ _ hk).trans (Below.heap_setCell _ _ _ _ hk), fun w0 hb hg => below_set (below_set hb hg) hg⟩
theorem sets3 {w : World} {g t : Nat} {a b c : Value} (h : w.heap[g]? = some (.cells #[a, b, c] t (0, 0))) (x y z : Value) :
    Sets w (((w.setCell ⟨g, 0, none⟩ x).setCell ⟨g, 1, none⟩ y).setCell ⟨g, 2, none⟩ z) g (.cells #[x, y, z] t (0, 0)) :=
  ⟨blk_put (blk_put (blk_put h 0 x (cs' := #[x, b, c]) rfl) 1 y (cs' := #[x, y, c]) rfl) 2 z rfl, fun k hk => (Below.heap_setCell _ _ _ _ hk).trans ((Below.heap_setCell _ _ _ _ hk).trans (Below.heap_setCell _ _ _ _ hk)), fun w0 hb hg => below_set (below_set (below_set hb hg) hg) hg⟩
/-- A row of items lies apart from a variable of two cells. -/
theorem C_apart {w : World} {ad : Addr} {xs : List S27} (h : Kd.C k27 w (some ad) xs.length xs) (hn : 0 < xs.length) {g t : Nat} {a b : Value} (hb : w.heap[g]? = some (.cells #[a, b] t (0, 0))) : ad.block ≠ g := by
  intro he
  obtain ⟨ad', hA, _, _, h2⟩ := at_T27 h 0 (by omega) (by omega)
  injection hA with hA
  subst hA
  have h3 : (ad.add ((0 : Int).toNat * 3)).block = g := by rw [← he]; unfold Addr.add; split <;> rfl
  rw [h3, blk_cell hb] at h2
  simp at h2
theorem C_sets {w w1 : World} {A : Option Addr} {xs : List S27} (h : Kd.C k27 w A xs.length xs) {g t : Nat} {a b : Value} {o : Obj} (hb : w.heap[g]? = some (.cells #[a, b] t (0, 0))) (hs : Sets w w1 g o) : Kd.C k27 w1 A xs.length xs := by
  refine ⟨h.1, h.2.1, fun hn => ?_⟩
  obtain ⟨ad, rfl, hc⟩ := h.2.2 hn
  have hne := C_apart h hn hb
  refine ⟨ad, rfl, fun j p hj => ?_⟩
  obtain ⟨c, hl, hK, hcell⟩ := hc j p hj
  obtain rfl := k27_open hK
  refine ⟨_, hl, k27_mk w1 p, fun i u hu => ?_⟩
  have h1 := hcell i u hu
  have h2 : (ad.add (j * k27.sz + i)).block = ad.block := by unfold Addr.add; split <;> rfl
  rw [← h1]
  unfold World.cell?
  rw [h2, hs.far _ hne]
theorem Row.sets {w w1 : World} {v : Value} {xs : List S27} (h : Row k27 w v xs) {g t : Nat} {a b : Value} {o : Obj} (hb : w.heap[g]? = some (.cells #[a, b] t (0, 0))) (hs : Sets w w1 g o) : Row k27 w1 v xs := by
  obtain ⟨A, c, he, hl, hC⟩ := h
  exact ⟨A, c, he, hl, C_sets hC hb hs⟩
theorem box_sets {w w1 : World} {g k : Nat} {o q : Obj} (h : w.heap[k]? = some q) (hs : Sets w w1 g o) (hne : k ≠ g) : w1.heap[k]? = some q := (hs.far k hne).trans h
/-- The references lie apart from a row of items that is appended to. -/
theorem R33_grown {w w1 : World} {b b' : Nat} {ok ok' : Nat → Prop} {v u : Value} {xs : List S33} {ys : List S27} (h : Kd.R k33 33 w b ok v xs) (hu : Kd.R k27 27 w b' ok' u ys) (hg : w.grownBy w1 u.ownBlock) : Kd.R k33 33 w1 b ok v xs := by
  cases hk : u.ownBlock with
  | none => exact Kd.R_grown h hg (fun k _ => by rw [hk]; simp)
  | some g =>
    obtain ⟨_, inner, ho, _⟩ := hu
    obtain ⟨cells, hc⟩ := own_typed ho g hk
    refine Kd.R_mono (Kd.R_grown (Kd.R_types h hc (by decide)) hg (fun k hk' => ?_)) (fun _ hk' => hk'.1)
    rw [hk]
    intro he
    injection he with he
    exact hk'.2 he
theorem V_of_C {w : World} {A : Option Addr} {c : Nat} {xs : List S27} (h : Kd.C k27 w A xs.length xs) (hc : xs.length ≤ c) : Kd.V k27 27 w w.heap.size (fun k => k < w.heap.size) (.slice A xs.length c) xs := Kd.V_mk hc (Kd.C_F k27_heap h)
theorem row_of_V {α : Type} {d : Kd α} {e base : Nat} {ok : Nat → Prop} {w : World} {v : Value} {xs : List α} (h : Kd.V d e w base ok v xs) : Row d w v xs := by
  obtain ⟨A, c, rfl⟩ := Kd.V_slice h
  exact ⟨A, c, rfl, (Kd.V_reads' h).2.1, (Kd.V_reads' h).2.2⟩
theorem put_c (k : Nat) (m : Int) (A : Option Addr) (c : Nat) (l : List S27) (A1 : Option Addr) (c1 : Nat) (l1 : List S27) (r1 : Int) (r2 r3 : List S27) (r4 : Int) (w : World) (hC : Kd.C k27 w A l.length l) (hc : l.length ≤ c) (hC1 : Kd.C k27 w A1 l1.length l1) (hc1 : l1.length ≤ c1) (h : cache_Put.f k m l l1 = some (r1, r2, r3, r4)) :
    Calls Try.prog 13 #[.agg #[.int .i64 m, .slice A l.length c], .slice A1 l1.length c1] w fun e w' => ∃ v1 v2 : Value, e = .returned (.tuple #[.agg #[.int .i64 r1, v1], v2, .int .i64 r4]) ∧ Row k27 w' v1 r2 ∧ Row k27 w' v2 r3 ∧ Below w.heap.size w w' := by
  refine (cache_Put.calls k m _ A c l A1 c1 l1 r1 r2 r3 r4 w (V_of_C hC hc) hC1 hc1 h).mono ?_
  rintro e w' ⟨v1, v2, rfl, h1, h2, hb⟩
  exact ⟨v1, v2, rfl, row_of_V h1, row_of_R h2, hb⟩
theorem get_c (k : Nat) (m : Int) (A : Option Addr) (c : Nat) (l : List S27) (a1 : Int) (r1 : Int) (r2 : List S27) (r3 : Int) (r4 : ByteArray) (r5 r6 : Bool) (w : World) (hC : Kd.C k27 w A l.length l) (hc : l.length ≤ c) (h : cache_Get.f k m l a1 = some (r1, r2, r3, r4, r5, r6)) :
    Calls Try.prog 10 #[.agg #[.int .i64 m, .slice A l.length c], .int .i64 a1] w fun e w' => ∃ v1 : Value, e = .returned (.tuple #[.agg #[.int .i64 r1, v1], .agg #[.int .i64 r3, .string r4, .bool r5], .bool r6]) ∧ Row k27 w' v1 r2 ∧ Below w.heap.size w w' := by
  refine (cache_Get.calls k m _ A c l a1 r1 r2 r3 r4 r5 r6 w (V_of_C hC hc) h).mono ?_
  rintro e w' ⟨v1, rfl, h1, hb⟩
  exact ⟨v1, rfl, row_of_V h1, hb⟩
theorem below_of_grown {w w1 : World} (h : w.grownBy w1 none) : Below w.heap.size w w1 := ⟨h.os, h.tape, h.output, h.size, fun k hk => h.block k hk (by simp)⟩
theorem add_nil (ad : Addr) : ad.add 0 = ad := by
  cases ad
  simp [Addr.add]
/-- A guarded operation whose guard was not carried out is not carried out. -/
theorem wanted_undef {ops : Array Oper} {o og : Oper} {a : Act} {g : Nat} {u : Bool} {t : Tmp} (hg : o.guard = some (g, u)) (ho : ops[g]? = some og) (hd : og.dst = some t) (hv : a.tmps[t]? = some undef) : Region.wanted o (yielded ops a.tmps) = false := by
  cases u <;> simp_all [Region.wanted, yielded, undef]
end Go.Proofs.Ytgjngaeoojcioaa.Held
