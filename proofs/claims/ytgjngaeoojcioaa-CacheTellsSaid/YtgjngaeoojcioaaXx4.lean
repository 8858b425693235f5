-- Written by a program of this session (wip/tools/xprint.py) out of the translation. Not trusted: Lean checks it.
import Derived.Test.YtgjngaeoojcioaaXx0
import Derived.Test.YtgjngaeoojcioaaExt
namespace Go.Proofs.Ytgjngaeoojcioaa.X
open Go.RowKit Go.Proofs.YtgjngaeoojcioaaW.PrintWords Go.Proofs.YtgjngaeoojcioaaW.PrintLast Go.Proofs.YtgjngaeoojcioaaW.PrintMore
attribute [local go_sem] max2_int min2_int max_two min_two max_three min_three max_four min_four max2_str min2_str   -- for this text's walks alone
set_option linter.unusedVariables false
set_option linter.unusedSimpArgs false

/-! ### cache_place: function 23, BY HAND -/
-- IMPORT Ext
/-- The place of the first item of a number, or -1. -/
def placeI (l : List (S27)) (a : Int) : Int := match l.findIdx? (fun x => x.f0 == a) with
  | some i => (i : Int)
  | none => -1
def cache_place.f (l0 : List (S27)) (a1 : Int) : Option (Int) := some (placeI l0 a1)
theorem cache_place.calls (A0 : Option Addr) (c0 : Nat) (l0 : List (S27)) (a1 : Int) (r : Int) (w : World) (hr0 : Kd.C k27 w A0 l0.length l0) (hc0 : l0.length ≤ c0) (h : cache_place.f l0 a1 = some r) :
    Calls Try.prog 23 #[.slice A0 l0.length c0, .int .i64 a1] w fun e w' => e = .returned (.int .i64 r) ∧ Below w.heap.size w w' := by
  obtain rfl := Option.some.inj h
  exact Ext.place_calls A0 c0 l0 a1 w hr0

end Go.Proofs.Ytgjngaeoojcioaa.X
