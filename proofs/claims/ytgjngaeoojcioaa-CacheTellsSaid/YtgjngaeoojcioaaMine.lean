/- Words of our own beside the printer's: max and min of two strings, as Go's text tells them. -/
import Derived.Test.YtgjngaeoojcioaaWMore
namespace Go.Proofs.YtgjngaeoojcioaaW.PrintMore
/-- The greater of two strings, as Go's max tells it. -/
def mxs (x y : ByteArray) : ByteArray := if Op.bytesLess x.toList y.toList = true then y else x
/-- The smaller of two strings, as Go's min tells it. -/
def mns (x y : ByteArray) : ByteArray := if Op.bytesLess x.toList y.toList = true ∨ x.toList = y.toList then x else y
theorem max2_str (x y : ByteArray) : Builtin.max2 (.string x) (.string y) = pure (.string (mxs x y)) := by
  simp only [Builtin.max2, Op.stringOp, mxs]
  cases h : Op.bytesLess x.toList y.toList <;> simp [asBool]
theorem min2_str (x y : ByteArray) : Builtin.min2 (.string x) (.string y) = pure (.string (mns x y)) := by
  simp only [Builtin.min2, Op.stringOp, mns]
  by_cases h : Op.bytesLess x.toList y.toList = true ∨ x.toList = y.toList <;> simp [asBool, h]
end Go.Proofs.YtgjngaeoojcioaaW.PrintMore
namespace Go.Proofs.YtgjngaeoojcioaaW.PrintWords
open Go.RowKit
/-- What is shared leads to no block that isn't ok. -/
theorem Kd.V_neB {α : Type} {d : Kd α} {e base n c g : Nat} {ok : Nat → Prop} {W : World} {ad : Addr} {xs : List α} (h : Kd.V d e W base ok (.slice (some ad) n c) xs) (hs : 0 < d.sz) (hx : 0 < xs.length) (hok : ∀ k, ok k → k ≠ g) : ad.block ≠ g := by
  intro he
  have hF := Kd.V_F h
  have hn : n = xs.length := (Kd.V_at h).1
  have h2 : d.C { W with heap := W.heap.setIfInBounds g (.cells #[] 0 (0, 0)) } (some ad) n xs := hF _ (fun k hk _ => by
    show (W.heap.setIfInBounds g _)[k]? = _
    rw [Array.getElem?_setIfInBounds_ne (Ne.symm (hok k hk))])
  obtain ⟨ad', ha, hc⟩ := h2.2.2 (by omega)
  injection ha with ha
  subst ha
  obtain ⟨cs, hl, hr, hcell⟩ := hc 0 xs[0] (List.getElem?_eq_getElem hx)
  have h0 : 0 < cs.length := by omega
  have h3 := hcell 0 cs[0] (List.getElem?_eq_getElem h0)
  rw [Nat.zero_mul] at h3
  have hb : (ad.add (0 + 0)).block = g := by rw [← he]; unfold Addr.add; split <;> rfl
  unfold World.cell? at h3
  rw [hb] at h3
  by_cases hlt : g < W.heap.size
  · simp [hlt] at h3
  · simp [hlt] at h3
theorem Kd.V_away {α : Type} {d : Kd α} {e base n c g : Nat} {ok : Nat → Prop} {W : World} {ad : Addr} {xs : List α} (h : Kd.V d e W base ok (.slice (some ad) n c) xs) (hok : ∀ k, ok k → k ≠ g)
    (hs : 0 < d.sz := by decide) (hx : 0 < xs.length := by first | omega | (simp only [decide_eq_true_eq, eq_iff_iff, iff_true] at *; omega)) : some g ≠ (Value.slice (some ad) n c).ownBlock := fun e_ =>
  Kd.V_neB h hs hx hok (by simpa [Value.ownBlock] using e_.symm)
end Go.Proofs.YtgjngaeoojcioaaW.PrintWords
