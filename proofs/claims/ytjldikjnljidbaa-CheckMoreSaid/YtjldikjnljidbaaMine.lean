/- Words of our own beside the printer's: max and min of two strings, as Go's text tells them. -/
import Derived.Test.YtjldikjnljidbaaWMore
namespace Go.Proofs.YtjldikjnljidbaaW.PrintMore
/-- The greater of two strings, as Go's max tells it. -/
def mxs (x y : ByteArray) : ByteArray := if Op.bytesLess x.toList y.toList = true then y else x
/-- The smaller of two strings, as Go's min tells it. -/
def mns (x y : ByteArray) : ByteArray := if Op.bytesLess x.toList y.toList = true ∨ x.toList = y.toList then x else y
theorem max2_str (x y : ByteArray) : Builtin.max2 (.string x) (.string y) = pure (.string (mxs x y)) := by
  simp only [Builtin.max2, Op.stringOp, mxs]
  cases h : Op.bytesLess x.toList y.toList <;> simp [asBool]
theorem min2_str (x y : ByteArray) : Builtin.min2 (.string x) (.string y) = pure (.string (mns x y)) := by
  simp only [Builtin.min2, Op.stringOp, mns]
  by_cases h : Op.bytesLess x.toList y.toList = true ∨ x.toList = y.toList <;> simp [asBool, h]
end Go.Proofs.YtjldikjnljidbaaW.PrintMore
