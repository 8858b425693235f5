-- Written by a program of this session (wip/tools/xprint.py) out of the translation. Not trusted: Lean checks it.
import Derived.Test.YtjldikjnljidbaaXx0
import Derived.Test.YtjldikjnljidbaaXx3
import Derived.Test.YtjldikjnljidbaaThree
namespace Go.Proofs.Ytjldikjnljidbaa.X
open Go.RowKit Go.Proofs.YtjldikjnljidbaaW.PrintWords Go.Proofs.YtjldikjnljidbaaW.PrintLast Go.Proofs.YtjldikjnljidbaaW.PrintMore
attribute [local go_sem] max2_int min2_int max_two min_two max_three min_three max_four min_four max2_str min2_str   -- for this text's walks alone
set_option linter.unusedVariables false
set_option linter.unusedSimpArgs false

/-! ### weirkeeperlaw02_CheckThree: function 6, BY HAND -/
-- IMPORT Three
def weirkeeperlaw02_CheckThree.n (a0 a1 a2 : ByteArray) : Nat := min (min a0.size a1.size) a2.size
/-- CheckThree, walked by hand: it answers true where the four sums are as told (all of it is shown in the plain text). -/
def weirkeeperlaw02_CheckThree.f (a0 : ByteArray) (a1 : ByteArray) (a2 : ByteArray) : Option (Bool) := if a0.size ≤ 140737488351232 ∧ a1.size ≤ 140737488351232 ∧ a2.size ≤ 140737488351232 then (check_Sum.f 9 [strOfNums (Three.xs a0 a1 a2 (weirkeeperlaw02_CheckThree.n a0 a1 a2) (weirkeeperlaw02_CheckThree.n a0 a1 a2))]).bind fun s0 => (check_Sum.f 9 [a0.extract 0 (weirkeeperlaw02_CheckThree.n a0 a1 a2)]).bind fun s1 => (check_Sum.f 9 [a1.extract 0 (weirkeeperlaw02_CheckThree.n a0 a1 a2)]).bind fun s2 => (check_Sum.f 9 [a2.extract 0 (weirkeeperlaw02_CheckThree.n a0 a1 a2)]).bind fun s3 => if Go.bits .xor .u32 (Go.bits .xor .u32 s1 s2) s3 = s0 then some true else none else none
theorem weirkeeperlaw02_CheckThree.calls (a0 : ByteArray) (a1 : ByteArray) (a2 : ByteArray) (r : Bool) (w : World) (h : weirkeeperlaw02_CheckThree.f a0 a1 a2 = some r) :
    Calls Try.prog 6 #[.string a0, .string a1, .string a2] w fun e w' => e = .returned (.bool r) ∧ Below w.heap.size w w' := by
  unfold weirkeeperlaw02_CheckThree.f at h
  split at h
  · rename_i hc
    obtain ⟨h1, h2, h3⟩ := hc
    obtain ⟨s0, m0, h⟩ := Option.bind_eq_some_iff.mp h
    obtain ⟨s1, m1, h⟩ := Option.bind_eq_some_iff.mp h
    obtain ⟨s2, m2, h⟩ := Option.bind_eq_some_iff.mp h
    obtain ⟨s3, m3, h⟩ := Option.bind_eq_some_iff.mp h
    split at h
    · rename_i he
      obtain rfl := Option.some.inj h
      exact Three.law_calls a0 a1 a2 h1 h2 h3 _ rfl s0 s1 s2 s3 _ m0 m1 m2 m3 rfl he w
    · cases h
  · cases h

end Go.Proofs.Ytjldikjnljidbaa.X
