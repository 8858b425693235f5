/- A word of our own: make([]T, n) where n is of whatever kind of whole numbers. -/
import Derived.Test.YtjldikjnljidbaaWApart
import Derived.Test.YtjldikjnljidbaaMine
namespace Go.Proofs.YtjldikjnljidbaaW.PrintWords
open Go.RowKit
section
variable {P : Program} {ops : Array Oper} {rest : List Oper} {o : Oper} {a : Act} {Q : Exit → Act → World → Prop} {α : Type}
theorem Kd.R_makeK (d : Kd α) {w0 W : World} (base e : Nat) (hgd : o.guard = none) {N : Tmp} (hd : o.dst = some N) (t : TypeId) (x y : Operand) (ho : o.op = .makeSlice t x y) (n : Int) {kn : IntKind} (hx : a.eval x = .int kn n) (hy : a.eval y = .int kn n)
    (ht : P.underlying t = some (.slice e)) (z : Value) (bytes : Nat) (hinfo : (P.info? e).map (fun i => (i.zero, i.size, i.bytes)) = some (some z, d.sz, bytes)) (hz : z.cells.size = d.sz) (hs0 : 0 < d.sz) (hb0 : 0 < bytes)
    (z0 : α) {ok okp : Nat → Prop} (hzero : d.M W base okp z0 z.cells.toList) (hok : ∀ k, okp k → ok k) (hfresh : ok W.heap.size) (h0 : 0 ≤ n) (hl : n.toNat * bytes ≤ 281474976710656) (HB : Below base w0 W) (hbase : base ≤ W.heap.size)
    (h : ∀ v1 w1, d.R e w1 base ok v1 (List.replicate n.toNat z0) → Below base w0 w1 → W.grownBy w1 none → (∃ b, v1.ownBlock = some b ∧ W.heap.size ≤ b) → wpList P ops Q rest (a.put o.dst v1) w1) : wpList P ops Q (o :: rest) a W := by
  obtain ⟨i0, hi, hzz⟩ := Option.map_eq_some_iff.1 hinfo
  simp only [Prod.mk.injEq] at hzz
  obtain ⟨hz0, hz1, hz2⟩ := hzz
  have hm : n.toNat ≤ 281474976710656 := Nat.le_trans (Nat.le_mul_of_pos_right _ hb0) hl
  have hr := run_make (P := P) W t e i0 z ht hi hz0 kn kn n n h0 (Int.le_refl _) (by
    have h3 : ((i0.bytes * n.toNat : Nat) : Int) ≤ 281474976710656 := by rw [hz2, Nat.mul_comm]; omega
    rwa [Int.natCast_mul, Int.toNat_of_nonneg h0] at h3) (by omega)
  rw [hz1] at hr
  refine Kd.R_lit d base e hgd hd (xs := List.replicate n.toNat z0) (inner := (madeCells z.cells (n.toNat * d.sz)).toList) (okp := okp) (ok := ok) ?_ (reps_made hz hs0 hzero n.toNat) hok hfresh HB hbase (by simp; omega) (by simpa using h)
  simp [execOp, ho, hx, hy, hr]
end
end Go.Proofs.YtjldikjnljidbaaW.PrintWords
