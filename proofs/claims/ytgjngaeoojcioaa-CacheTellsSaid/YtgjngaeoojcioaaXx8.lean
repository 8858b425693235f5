-- Written by a program of this session (wip/tools/xprint.py) out of the translation. Not trusted: Lean checks it.
import Derived.Test.YtgjngaeoojcioaaXx0
import Derived.Test.YtgjngaeoojcioaaExt
namespace Go.Proofs.Ytgjngaeoojcioaa.X
open Go.RowKit Go.Proofs.YtgjngaeoojcioaaW.PrintWords Go.Proofs.YtgjngaeoojcioaaW.PrintLast Go.Proofs.YtgjngaeoojcioaaW.PrintMore
attribute [local go_sem] max2_int min2_int max_two min_two max_three min_three max_four min_four max2_str min2_str   -- for this text's walks alone
set_option linter.unusedVariables false
set_option linter.unusedSimpArgs false

/-! ### cache_first: function 24, BY HAND -/
-- IMPORT Ext
def cache_first.f (l0 : List (S27)) (a1_0 : Int) (a1_1 : ByteArray) (a1_2 : Bool) : Option (List (S27)) := if l0.length ≤ 1000000 then some (⟨a1_0, a1_1, a1_2⟩ :: l0.filter fun y => !(y.f0 == a1_0)) else none
theorem cache_first.calls (A0 : Option Addr) (c0 : Nat) (l0 : List (S27)) (a1_0 : Int) (a1_1 : ByteArray) (a1_2 : Bool) (r : List (S27)) (w : World) (hr0 : Kd.C k27 w A0 l0.length l0) (hc0 : l0.length ≤ c0) (h : cache_first.f l0 a1_0 a1_1 a1_2 = some r) :
    Calls Try.prog 24 #[.slice A0 l0.length c0, .agg #[.int .i64 a1_0, .string a1_1, .bool a1_2]] w fun e w' => ∃ v0_ : Value, e = .returned (v0_) ∧ Kd.R k27 27 w' w.heap.size (fun _ => True) v0_ r ∧ Below w.heap.size w w' := by
  unfold cache_first.f at h
  split at h
  · rename_i hl
    obtain rfl := Option.some.inj h
    exact Ext.first_calls A0 c0 l0 a1_0 a1_1 a1_2 w hr0 hl
  · cases h

end Go.Proofs.Ytgjngaeoojcioaa.X
