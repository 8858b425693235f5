-- Written by a program of this session (wip/tools/xprint.py) out of the translation. Not trusted: Lean checks it.
import Derived.Test.YtjldikjnljidbaaXx0
import Derived.Test.YtjldikjnljidbaaHand
namespace Go.Proofs.Ytjldikjnljidbaa.X
open Go.RowKit Go.Proofs.YtjldikjnljidbaaW.PrintWords Go.Proofs.YtjldikjnljidbaaW.PrintLast Go.Proofs.YtjldikjnljidbaaW.PrintMore
attribute [local go_sem] max2_int min2_int max_two min_two max_three min_three max_four min_four max2_str min2_str   -- for this text's walks alone
set_option linter.unusedVariables false
set_option linter.unusedSimpArgs false

/-! ### check_More: function 14, BY HAND -/
-- IMPORT Hand
/-- check.More, as the plain sum tells it (walked by hand: Hand.more_calls). -/
def check_More.f (a0 : Int) (a1 : ByteArray) : Option (Int) := if 0 ≤ a0 ∧ a0 < 4294967296 ∧ a1.size ≤ 140737488351232 then some ((Crc.bytes (BitVec.ofNat 24 a0.toNat) a1.toList).toNat : Int) else none
theorem check_More.calls (a0 : Int) (a1 : ByteArray) (r : Int) (w : World) (h : check_More.f a0 a1 = some r) :
    Calls Try.prog 14 #[.int .u32 a0, .string a1] w fun e w' => e = .returned (.int .u32 r) ∧ Below w.heap.size w w' := by
  unfold check_More.f at h
  split at h
  · rename_i hc
    obtain rfl := Option.some.inj h
    have e1 : a0 = ((BitVec.ofNat 32 a0.toNat).toNat : Int) := by
      rw [BitVec.toNat_ofNat, Nat.mod_eq_of_lt (by omega)]
      omega
    have e2 : (BitVec.ofNat 32 a0.toNat).setWidth 24 = BitVec.ofNat 24 a0.toNat := by
      apply BitVec.eq_of_toNat_eq
      simp
    have := Hand.more_calls (BitVec.ofNat 32 a0.toNat) a1 w hc.2.2
    rw [← e1, e2] at this
    exact this
  · cases h

end Go.Proofs.Ytjldikjnljidbaa.X
