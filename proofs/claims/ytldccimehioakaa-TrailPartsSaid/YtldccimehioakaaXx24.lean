-- Written by a program of this session (wip/tools/xprint.py) out of the translation. Not trusted: Lean checks it.
import Derived.Test.YtldccimehioakaaXx0
import Derived.Test.YtldccimehioakaaParts
namespace Go.Proofs.Ytldccimehioakaa.X
open Go.RowKit Go.Proofs.YtldccimehioakaaW.PrintWords Go.Proofs.YtldccimehioakaaW.PrintLast Go.Proofs.YtldccimehioakaaW.PrintMore
attribute [local go_sem] max2_int min2_int max_two min_two max_three min_three max_four min_four max2_str min2_str   -- for this text's walks alone
set_option linter.unusedVariables false
set_option linter.unusedSimpArgs false

/-! ### weirkeeperlaw16_TrailParts: function 4, BY HAND -/
-- IMPORT Parts
noncomputable section
open Classical in
/-- TrailParts, walked by hand: it answers true where what is told in parts is as said (that is shown in the plain text). -/
def weirkeeperlaw16_TrailParts.f (l0 : List (S30)) (a1 : Int) (a2 : Int) (a3_0 : ByteArray) (a3_1 : ByteArray) (a3_2 : Bool) : Option (Bool) := if ∃ k, Parts.Fine k l0 a1 a2 ⟨a3_0, a3_1, a3_2⟩ then some true else none
end
theorem weirkeeperlaw16_TrailParts.calls (A0 : Option Addr) (c0 : Nat) (l0 : List (S30)) (a1 : Int) (a2 : Int) (a3_0 : ByteArray) (a3_1 : ByteArray) (a3_2 : Bool) (r : Bool) (w : World) (hr0 : Kd.C k30 w A0 l0.length l0) (hc0 : l0.length ≤ c0) (h : weirkeeperlaw16_TrailParts.f l0 a1 a2 a3_0 a3_1 a3_2 = some r) :
    Calls Try.prog 4 #[.slice A0 l0.length c0, .int .i64 a1, .int .u8 a2, .agg #[.string a3_0, .string a3_1, .bool a3_2]] w fun e w' => e = .returned (.bool r) ∧ Below w.heap.size w w' := by
  unfold weirkeeperlaw16_TrailParts.f at h
  split at h
  · rename_i hc
    obtain rfl := Option.some.inj h
    obtain ⟨k, h1, h2, h3, h4⟩ := hc
    rcases h4 with h4 | ⟨h4, h5⟩ | ⟨h4, h5, h6, AT, ALL, PJ, m, E, h7⟩
    · exact Parts.walk_a k A0 c0 l0 a1 a2 a3_0 a3_1 a3_2 w hr0 hc0 h4 h1
    · exact Parts.walk_b k A0 c0 l0 a1 a2 a3_0 a3_1 a3_2 w hr0 hc0 h4 h5 h1
    · exact Parts.walk_c k A0 c0 l0 a1 a2 a3_0 a3_1 a3_2 h2 h3 _ rfl AT ALL PJ m E w hr0 hc0 h6 h4 h5 h1 h7
  · cases h

end Go.Proofs.Ytldccimehioakaa.X
