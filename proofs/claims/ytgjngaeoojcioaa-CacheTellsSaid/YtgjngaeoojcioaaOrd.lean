/- Plain facts on strings of bytes in their order, with no program in sight. -/
import Derived.Test.YtgjngaeoojcioaaMine
namespace Go.Proofs.Ytgjngaeoojcioaa.Pl
open Go Go.Proofs.YtgjngaeoojcioaaW.PrintMore

theorem bl_lt (a b : List UInt8) : Op.bytesLess a b = decide (a < b) := by
  induction a generalizing b with
  | nil => cases b <;> simp [Op.bytesLess]
  | cons x a ih =>
    cases b with
    | nil => simp [Op.bytesLess]
    | cons y b =>
      simp only [Op.bytesLess, ih, List.cons_lt_cons_iff]
      by_cases h : x < y <;> by_cases h2 : x = y <;> simp [h, h2]
theorem toList_data (s : ByteArray) : s.toList = s.data.toList := ByteArray.toList_eq s
theorem toList_inj {a b : ByteArray} (h : a.toList = b.toList) : a = b := by
  rw [toList_data, toList_data] at h
  exact ByteArray.ext (by cases a; cases b; simp_all)
theorem toList_iff {a b : ByteArray} : a.toList = b.toList ↔ a = b := ⟨toList_inj, fun h => by rw [h]⟩
theorem toList_mk (a : Array UInt8) : (⟨a⟩ : ByteArray).toList = a.toList := toList_data _
theorem toList_append (a b : ByteArray) : (a ++ b).toList = a.toList ++ b.toList := by
  simp [toList_data, ByteArray.data_append]
theorem toList_length (s : ByteArray) : s.toList.length = s.size := by rw [toList_data]; rfl
theorem mxs_toList (x y : ByteArray) : (mxs x y).toList = if x.toList < y.toList then y.toList else x.toList := by
  unfold mxs
  rw [bl_lt]
  by_cases h : x.toList < y.toList <;> simp [h]
theorem mns_toList (x y : ByteArray) : (mns x y).toList = if y.toList < x.toList then y.toList else x.toList := by
  unfold mns
  rw [bl_lt]
  by_cases h : y.toList < x.toList
  · rw [if_pos h, if_neg (by simp; grind)]
  · rw [if_neg h, if_pos (by simp; grind)]
/-- Behind a string come those that are greater. -/
theorem lt_snoc_zero (a b : List UInt8) : b < a ++ [0] ↔ ¬ a < b := by
  induction a generalizing b with
  | nil => cases b with
    | nil => simp
    | cons y b => simp [List.cons_lt_cons_iff]
  | cons x a ih => cases b with
    | nil => simp
    | cons y b =>
      simp only [List.cons_append, List.cons_lt_cons_iff, ih]
      by_cases h1 : y < x <;> by_cases h2 : y = x <;> by_cases h3 : x < y <;> simp_all <;> grind
end Go.Proofs.Ytgjngaeoojcioaa.Pl
