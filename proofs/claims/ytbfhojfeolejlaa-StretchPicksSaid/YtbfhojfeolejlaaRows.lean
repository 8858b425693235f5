/-
  No cell of these rows narrows 'for every input' (looked for: loops, veiled, ifaces, maps, wideKeys, modest, calm, conditions, laid).
  DERIVED. THE GIVEN ROWS OF THIS SEAT. 5 by the template 'for every input the law returns true; each argument reads behind the call as it read before'; 0 by the template 'total and deterministic' (their statements: YtbfhojfeolejlaaTotals.lean).
  GIVEN WITH THE SEED: the statements are not yours to turn. If you find one false, say at which input.
  Laid BY PROGRAM, IN A SANDBOX (cutbox-rows.mjs): the forced cells as the released guide's own fill.sh prints them over the translation 094f3d208645d5cf… (all of the seat's roots in one cut). By AI agents, Wed Nov 11 2026. No macro, syntax, notation, axiom, sorry.
-/
import Derived.Test.YtbfhojfeolejlaaChecked
import GoSem.Claim
import GoSem.ClaimJoined
import GoSem.ClaimMapViews
import Derived.JoinedTies
import Derived.KernelRfl
namespace Go.Proofs.Ytbfhojfeolejlaa
/- THE CELL 'sum', in the pinned program and in every row, IS THE sha256 OF THE DUMP (.gsa) THAT YtbfhojfeolejlaaProg.lean LOADS. Nothing in Lean hashes anything: it is a label: what it is worth is what the hold of that sum in a sandbox is worth. -/
noncomputable def Try.pinned : Pinned := { name := "ytbfhojfeolejlaa", sum := "094f3d208645d5cf76b6ff6d548f846a2a4283aa1fff1ff5ab9334d20c798cde", checked := Try.checked }
namespace Rows
def none {H : Type} : Left H := { results := [], args := [] }

/-- 'weirkeeperlaw03.StretchMeets': WHATEVER THE INPUT: true; the input reads as it did. -/
def stretchMeetsSpec : ChangeSpec := { name := "stretchMeets", fn := fun _ => fun
  | [d1, d2] => { results := [.lit (.bool true)], args := [d1, d2] }
  | _ => none }
def stretchMeetsRow : OpenClaim := { program := "ytbfhojfeolejlaa", sum := "094f3d208645d5cf76b6ff6d548f846a2a4283aa1fff1ff5ab9334d20c798cde", func := "weirkeeper/weirkeeperlaw03.StretchMeets", spec := "stretchMeets", apart := false }
def StretchMeetsSaid : Prop := stretchMeetsRow.holds Try.pinned (OpenSpec.ofChange stretchMeetsSpec)

/-- ITS FALSE NEIGHBOUR: 'it returns false'. Refute it at one input. -/
def stretchMeetsWrong : ChangeSpec := { name := "stretchMeets", fn := fun _ => fun
  | [d1, d2] => { results := [.lit (.bool false)], args := [d1, d2] }
  | _ => none }
def StretchMeetsWrongFalsely : Prop := stretchMeetsRow.holds Try.pinned (OpenSpec.ofChange stretchMeetsWrong)

/-- 'weirkeeperlaw03.StretchWithin': WHATEVER THE INPUT: true; the input reads as it did. -/
def stretchWithinSpec : ChangeSpec := { name := "stretchWithin", fn := fun _ => fun
  | [d1, d2, d3, d4, d5] => { results := [.lit (.bool true)], args := [d1, d2, d3, d4, d5] }
  | _ => none }
def stretchWithinRow : OpenClaim := { program := "ytbfhojfeolejlaa", sum := "094f3d208645d5cf76b6ff6d548f846a2a4283aa1fff1ff5ab9334d20c798cde", func := "weirkeeper/weirkeeperlaw03.StretchWithin", spec := "stretchWithin", apart := false }
def StretchWithinSaid : Prop := stretchWithinRow.holds Try.pinned (OpenSpec.ofChange stretchWithinSpec)

/-- ITS FALSE NEIGHBOUR: 'it returns false'. Refute it at one input. -/
def stretchWithinWrong : ChangeSpec := { name := "stretchWithin", fn := fun _ => fun
  | [d1, d2, d3, d4, d5] => { results := [.lit (.bool false)], args := [d1, d2, d3, d4, d5] }
  | _ => none }
def StretchWithinWrongFalsely : Prop := stretchWithinRow.holds Try.pinned (OpenSpec.ofChange stretchWithinWrong)

/-- 'weirkeeperlaw03.StretchNone': WHATEVER THE INPUT: true; the input reads as it did. -/
def stretchNoneSpec : ChangeSpec := { name := "stretchNone", fn := fun _ => fun
  | [d1, d2, d3] => { results := [.lit (.bool true)], args := [d1, d2, d3] }
  | _ => none }
def stretchNoneRow : OpenClaim := { program := "ytbfhojfeolejlaa", sum := "094f3d208645d5cf76b6ff6d548f846a2a4283aa1fff1ff5ab9334d20c798cde", func := "weirkeeper/weirkeeperlaw03.StretchNone", spec := "stretchNone", apart := false }
def StretchNoneSaid : Prop := stretchNoneRow.holds Try.pinned (OpenSpec.ofChange stretchNoneSpec)

/-- ITS FALSE NEIGHBOUR: 'it returns false'. Refute it at one input. -/
def stretchNoneWrong : ChangeSpec := { name := "stretchNone", fn := fun _ => fun
  | [d1, d2, d3] => { results := [.lit (.bool false)], args := [d1, d2, d3] }
  | _ => none }
def StretchNoneWrongFalsely : Prop := stretchNoneRow.holds Try.pinned (OpenSpec.ofChange stretchNoneWrong)

/-- 'weirkeeperlaw03.StretchOrder': WHATEVER THE INPUT: true; the input reads as it did. -/
def stretchOrderSpec : ChangeSpec := { name := "stretchOrder", fn := fun _ => fun
  | [d1, d2] => { results := [.lit (.bool true)], args := [d1, d2] }
  | _ => none }
def stretchOrderRow : OpenClaim := { program := "ytbfhojfeolejlaa", sum := "094f3d208645d5cf76b6ff6d548f846a2a4283aa1fff1ff5ab9334d20c798cde", func := "weirkeeper/weirkeeperlaw03.StretchOrder", spec := "stretchOrder", apart := false }
def StretchOrderSaid : Prop := stretchOrderRow.holds Try.pinned (OpenSpec.ofChange stretchOrderSpec)

/-- ITS FALSE NEIGHBOUR: 'it returns false'. Refute it at one input. -/
def stretchOrderWrong : ChangeSpec := { name := "stretchOrder", fn := fun _ => fun
  | [d1, d2] => { results := [.lit (.bool false)], args := [d1, d2] }
  | _ => none }
def StretchOrderWrongFalsely : Prop := stretchOrderRow.holds Try.pinned (OpenSpec.ofChange stretchOrderWrong)

/-- 'weirkeeperlaw03.StretchPicks': WHATEVER THE INPUT: true; the input reads as it did. -/
def stretchPicksSpec : ChangeSpec := { name := "stretchPicks", fn := fun _ => fun
  | [d1, d2, d3] => { results := [.lit (.bool true)], args := [d1, d2, d3] }
  | _ => none }
def stretchPicksRow : OpenClaim := { program := "ytbfhojfeolejlaa", sum := "094f3d208645d5cf76b6ff6d548f846a2a4283aa1fff1ff5ab9334d20c798cde", func := "weirkeeper/weirkeeperlaw03.StretchPicks", spec := "stretchPicks", unfollowed := true, recurses := true, apart := false }
def StretchPicksSaid : Prop := stretchPicksRow.holds Try.pinned (OpenSpec.ofChange stretchPicksSpec)

/-- ITS FALSE NEIGHBOUR: 'it returns false'. Refute it at one input. -/
def stretchPicksWrong : ChangeSpec := { name := "stretchPicks", fn := fun _ => fun
  | [d1, d2, d3] => { results := [.lit (.bool false)], args := [d1, d2, d3] }
  | _ => none }
def StretchPicksWrongFalsely : Prop := stretchPicksRow.holds Try.pinned (OpenSpec.ofChange stretchPicksWrong)

/- THE SECOND FORM. 'bulk': how many values and letters a reading holds, each counted each time it is reached (what is shared counts as often as it is met; a slice's spare places count too). A statement '..UptoSaid' is the law's where the arguments, and the package variables that the reading takes, are together of bulk at most 1048576: NARROWER than '..Said'. Prove '..Said' where nothing that the law and all that it calls make is longer than what came in: it says more and counts as full. Else prove '..UptoSaid'. A law counts once. -/
mutual
def uptoBulk {H : Type} : DataW H → Nat
  | .lit (.string bytes) => bytes.length + 1
  | .lit _ => 1
  | .nil => 1
  | .ptr d => uptoBulk d + 1
  | .slice elems spare => uptoBulkAll elems + uptoBulkAll spare + 1
  | .agg parts => uptoBulkAll parts + 1
  | .iface _ d => uptoBulk d + 1
  | .map entries => uptoBulkEntries entries + 1
  | .held _ => 1
def uptoBulkAll {H : Type} : List (DataW H) → Nat
  | [] => 0
  | d :: r => uptoBulk d + uptoBulkAll r
def uptoBulkEntries {H : Type} : List (Lit × DataW H) → Nat
  | [] => 0
  | x :: r => uptoBulkEntry x + uptoBulkEntries r
def uptoBulkEntry {H : Type} : Lit × DataW H → Nat
  | (.string bytes, d) => bytes.length + uptoBulk d + 1
  | (_, d) => uptoBulk d + 1
 end
def uptoSmall : (H : Type) → List (DataW H) → Bool := fun _ ds => decide (uptoBulkAll ds ≤ 1048576)
def OpenSpec.upto (s : _root_.Go.ChangeSpec) : _root_.Go.OpenSpec := { _root_.Go.OpenSpec.ofChange s with cond := some uptoSmall }

/-- 'weirkeeperlaw03.StretchMeets', WHERE WHAT IT READS IS OF BULK AT MOST 1048576: true; the input reads as it did. -/
def stretchMeetsUptoRow : OpenClaim := { program := "ytbfhojfeolejlaa", sum := "094f3d208645d5cf76b6ff6d548f846a2a4283aa1fff1ff5ab9334d20c798cde", func := "weirkeeper/weirkeeperlaw03.StretchMeets", spec := "stretchMeets", apart := false, narrowed := true }
def StretchMeetsUptoSaid : Prop := stretchMeetsUptoRow.holds Try.pinned (OpenSpec.upto stretchMeetsSpec)

/-- 'weirkeeperlaw03.StretchWithin', WHERE WHAT IT READS IS OF BULK AT MOST 1048576: true; the input reads as it did. -/
def stretchWithinUptoRow : OpenClaim := { program := "ytbfhojfeolejlaa", sum := "094f3d208645d5cf76b6ff6d548f846a2a4283aa1fff1ff5ab9334d20c798cde", func := "weirkeeper/weirkeeperlaw03.StretchWithin", spec := "stretchWithin", apart := false, narrowed := true }
def StretchWithinUptoSaid : Prop := stretchWithinUptoRow.holds Try.pinned (OpenSpec.upto stretchWithinSpec)

/-- 'weirkeeperlaw03.StretchNone', WHERE WHAT IT READS IS OF BULK AT MOST 1048576: true; the input reads as it did. -/
def stretchNoneUptoRow : OpenClaim := { program := "ytbfhojfeolejlaa", sum := "094f3d208645d5cf76b6ff6d548f846a2a4283aa1fff1ff5ab9334d20c798cde", func := "weirkeeper/weirkeeperlaw03.StretchNone", spec := "stretchNone", apart := false, narrowed := true }
def StretchNoneUptoSaid : Prop := stretchNoneUptoRow.holds Try.pinned (OpenSpec.upto stretchNoneSpec)

/-- 'weirkeeperlaw03.StretchOrder', WHERE WHAT IT READS IS OF BULK AT MOST 1048576: true; the input reads as it did. -/
def stretchOrderUptoRow : OpenClaim := { program := "ytbfhojfeolejlaa", sum := "094f3d208645d5cf76b6ff6d548f846a2a4283aa1fff1ff5ab9334d20c798cde", func := "weirkeeper/weirkeeperlaw03.StretchOrder", spec := "stretchOrder", apart := false, narrowed := true }
def StretchOrderUptoSaid : Prop := stretchOrderUptoRow.holds Try.pinned (OpenSpec.upto stretchOrderSpec)

/-- 'weirkeeperlaw03.StretchPicks', WHERE WHAT IT READS IS OF BULK AT MOST 1048576: true; the input reads as it did. -/
def stretchPicksUptoRow : OpenClaim := { program := "ytbfhojfeolejlaa", sum := "094f3d208645d5cf76b6ff6d548f846a2a4283aa1fff1ff5ab9334d20c798cde", func := "weirkeeper/weirkeeperlaw03.StretchPicks", spec := "stretchPicks", unfollowed := true, recurses := true, apart := false, narrowed := true }
def StretchPicksUptoSaid : Prop := stretchPicksUptoRow.holds Try.pinned (OpenSpec.upto stretchPicksSpec)

end Rows
end Go.Proofs.Ytbfhojfeolejlaa
