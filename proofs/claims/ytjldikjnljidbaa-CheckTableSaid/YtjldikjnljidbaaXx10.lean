-- Written by a program of this session (wip/tools/xprint.py) out of the translation. Not trusted: Lean checks it.
import Derived.Test.YtjldikjnljidbaaXx0
import Derived.Test.YtjldikjnljidbaaXx2
import Derived.Test.YtjldikjnljidbaaTable
namespace Go.Proofs.Ytjldikjnljidbaa.X
open Go.RowKit Go.Proofs.YtjldikjnljidbaaW.PrintWords Go.Proofs.YtjldikjnljidbaaW.PrintLast Go.Proofs.YtjldikjnljidbaaW.PrintMore
attribute [local go_sem] max2_int min2_int max_two min_two max_three min_three max_four min_four max2_str min2_str   -- for this text's walks alone
set_option linter.unusedVariables false
set_option linter.unusedSimpArgs false

/-! ### weirkeeperlaw02_CheckTable: function 7, BY HAND -/
-- IMPORT Table
/-- CheckTable, walked by hand: it answers true where these hold (all are shown in the plain text). -/
def weirkeeperlaw02_CheckTable.f (a0 : Int) (a1 : Int) (a2 : Int) : Option (Bool) := if (0 ≤ a0 ∧ a0 < 256 ∧ 0 ≤ a1 ∧ a1 < 256 ∧ 0 ≤ a2 ∧ a2 < 4294967296 ∧ 0 ≤ Go.bits .xor .u8 a0 a1 ∧ Go.bits .xor .u8 a0 a1 < 256 ∧ Go.bits .xor .u32 (Hand.tabI a0.toNat) (Hand.tabI a1.toNat) = Hand.tabI (Go.bits .xor .u8 a0 a1).toNat ∧ (Hand.tabI a0.toNat == 0) = (a0 == 0) ∧ check_More.f 0 (strOfNums [a0]) = some (Hand.tabI a0.toNat) ∧ check_More.f a2 (⟨#[]⟩ : ByteArray) = some (a2 % 16777216)) then some true else none
theorem weirkeeperlaw02_CheckTable.calls (a0 : Int) (a1 : Int) (a2 : Int) (r : Bool) (w : World) (h : weirkeeperlaw02_CheckTable.f a0 a1 a2 = some r) :
    Calls Try.prog 7 #[.int .u8 a0, .int .u8 a1, .int .u32 a2] w fun e w' => e = .returned (.bool r) ∧ Below w.heap.size w w' := by
  unfold weirkeeperlaw02_CheckTable.f at h
  split at h
  · rename_i hc
    obtain ⟨h1, h2, h3, h4, h5, h6, h7, h8, h9, h10, h11, h12⟩ := hc
    obtain rfl := Option.some.inj h
    exact Table.law_calls a0 a1 a2 _ _ _ _ h1 h2 h3 h4 h5 h6 _ h7 h8 rfl rfl rfl rfl h9 h10 rfl h11 h12 w
  · cases h

end Go.Proofs.Ytjldikjnljidbaa.X
