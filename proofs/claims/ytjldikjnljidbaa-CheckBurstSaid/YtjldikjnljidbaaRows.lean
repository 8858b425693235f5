/-
  No cell of these rows narrows 'for every input' (looked for: loops, veiled, ifaces, maps, wideKeys, modest, calm, conditions, laid).
  DERIVED. THE GIVEN ROWS OF THIS SEAT. 8 by the template 'for every input the law returns true; each argument reads behind the call as it read before'; 0 by the template 'total and deterministic' (their statements: YtjldikjnljidbaaTotals.lean).
  GIVEN WITH THE SEED: the statements are not yours to turn. If you find one false, say at which input.
  Laid BY PROGRAM, IN A SANDBOX (cutbox-rows.mjs): the forced cells as the released guide's own fill.sh prints them over the translation d2795b42656d73ac… (all of the seat's roots in one cut). By AI agents, Wed Nov 11 2026. No macro, syntax, notation, axiom, sorry.
-/
import Derived.Test.YtjldikjnljidbaaChecked
import GoSem.Claim
import GoSem.ClaimJoined
import GoSem.ClaimMapViews
import Derived.JoinedTies
import Derived.KernelRfl
namespace Go.Proofs.Ytjldikjnljidbaa
/- THE CELL 'sum', in the pinned program and in every row, IS THE sha256 OF THE DUMP (.gsa) THAT YtjldikjnljidbaaProg.lean LOADS. Nothing in Lean hashes anything: it is a label: what it is worth is what the hold of that sum in a sandbox is worth. -/
noncomputable def Try.pinned : Pinned := { name := "ytjldikjnljidbaa", sum := "d2795b42656d73ac7827d0f9f97e90187b52313bb2fd4635a52a4f6d082de95a", checked := Try.checked }
namespace Rows
def none {H : Type} : Left H := { results := [], args := [] }

/-- 'weirkeeperlaw02.CheckTells': WHATEVER THE INPUT: true; the input reads as it did. -/
def checkTellsSpec : ChangeSpec := { name := "checkTells", fn := fun _ => fun
  | [d1, d2] => { results := [.lit (.bool true)], args := [d1, d2] }
  | _ => none }
def checkTellsRow : OpenClaim := { program := "ytjldikjnljidbaa", sum := "d2795b42656d73ac7827d0f9f97e90187b52313bb2fd4635a52a4f6d082de95a", func := "weirkeeper/weirkeeperlaw02.CheckTells", spec := "checkTells", apart := false }
def CheckTellsSaid : Prop := checkTellsRow.holds Try.pinned (OpenSpec.ofChange checkTellsSpec)

/-- ITS FALSE NEIGHBOUR: 'it returns false'. Refute it at one input. -/
def checkTellsWrong : ChangeSpec := { name := "checkTells", fn := fun _ => fun
  | [d1, d2] => { results := [.lit (.bool false)], args := [d1, d2] }
  | _ => none }
def CheckTellsWrongFalsely : Prop := checkTellsRow.holds Try.pinned (OpenSpec.ofChange checkTellsWrong)

/-- 'weirkeeperlaw02.CheckParts': WHATEVER THE INPUT: true; the input reads as it did. -/
def checkPartsSpec : ChangeSpec := { name := "checkParts", fn := fun _ => fun
  | [d] => { results := [.lit (.bool true)], args := [d] }
  | _ => none }
def checkPartsRow : OpenClaim := { program := "ytjldikjnljidbaa", sum := "d2795b42656d73ac7827d0f9f97e90187b52313bb2fd4635a52a4f6d082de95a", func := "weirkeeper/weirkeeperlaw02.CheckParts", spec := "checkParts", apart := false }
def CheckPartsSaid : Prop := checkPartsRow.holds Try.pinned (OpenSpec.ofChange checkPartsSpec)

/-- ITS FALSE NEIGHBOUR: 'it returns false'. Refute it at one input. -/
def checkPartsWrong : ChangeSpec := { name := "checkParts", fn := fun _ => fun
  | [d] => { results := [.lit (.bool false)], args := [d] }
  | _ => none }
def CheckPartsWrongFalsely : Prop := checkPartsRow.holds Try.pinned (OpenSpec.ofChange checkPartsWrong)

/-- 'weirkeeperlaw02.CheckBurst': WHATEVER THE INPUT: true; the input reads as it did. -/
def checkBurstSpec : ChangeSpec := { name := "checkBurst", fn := fun _ => fun
  | [d1, d2, d3] => { results := [.lit (.bool true)], args := [d1, d2, d3] }
  | _ => none }
def checkBurstRow : OpenClaim := { program := "ytjldikjnljidbaa", sum := "d2795b42656d73ac7827d0f9f97e90187b52313bb2fd4635a52a4f6d082de95a", func := "weirkeeper/weirkeeperlaw02.CheckBurst", spec := "checkBurst", apart := false }
def CheckBurstSaid : Prop := checkBurstRow.holds Try.pinned (OpenSpec.ofChange checkBurstSpec)

/-- ITS FALSE NEIGHBOUR: 'it returns false'. Refute it at one input. -/
def checkBurstWrong : ChangeSpec := { name := "checkBurst", fn := fun _ => fun
  | [d1, d2, d3] => { results := [.lit (.bool false)], args := [d1, d2, d3] }
  | _ => none }
def CheckBurstWrongFalsely : Prop := checkBurstRow.holds Try.pinned (OpenSpec.ofChange checkBurstWrong)

/-- 'weirkeeperlaw02.CheckThree': WHATEVER THE INPUT: true; the input reads as it did. -/
def checkThreeSpec : ChangeSpec := { name := "checkThree", fn := fun _ => fun
  | [d1, d2, d3] => { results := [.lit (.bool true)], args := [d1, d2, d3] }
  | _ => none }
def checkThreeRow : OpenClaim := { program := "ytjldikjnljidbaa", sum := "d2795b42656d73ac7827d0f9f97e90187b52313bb2fd4635a52a4f6d082de95a", func := "weirkeeper/weirkeeperlaw02.CheckThree", spec := "checkThree", apart := false }
def CheckThreeSaid : Prop := checkThreeRow.holds Try.pinned (OpenSpec.ofChange checkThreeSpec)

/-- ITS FALSE NEIGHBOUR: 'it returns false'. Refute it at one input. -/
def checkThreeWrong : ChangeSpec := { name := "checkThree", fn := fun _ => fun
  | [d1, d2, d3] => { results := [.lit (.bool false)], args := [d1, d2, d3] }
  | _ => none }
def CheckThreeWrongFalsely : Prop := checkThreeRow.holds Try.pinned (OpenSpec.ofChange checkThreeWrong)

/-- 'weirkeeperlaw02.CheckTable': WHATEVER THE INPUT: true; the input reads as it did. -/
def checkTableSpec : ChangeSpec := { name := "checkTable", fn := fun _ => fun
  | [d1, d2, d3] => { results := [.lit (.bool true)], args := [d1, d2, d3] }
  | _ => none }
def checkTableRow : OpenClaim := { program := "ytjldikjnljidbaa", sum := "d2795b42656d73ac7827d0f9f97e90187b52313bb2fd4635a52a4f6d082de95a", func := "weirkeeper/weirkeeperlaw02.CheckTable", spec := "checkTable", apart := false }
def CheckTableSaid : Prop := checkTableRow.holds Try.pinned (OpenSpec.ofChange checkTableSpec)

/-- ITS FALSE NEIGHBOUR: 'it returns false'. Refute it at one input. -/
def checkTableWrong : ChangeSpec := { name := "checkTable", fn := fun _ => fun
  | [d1, d2, d3] => { results := [.lit (.bool false)], args := [d1, d2, d3] }
  | _ => none }
def CheckTableWrongFalsely : Prop := checkTableRow.holds Try.pinned (OpenSpec.ofChange checkTableWrong)

/-- 'weirkeeperlaw02.CheckApart': WHATEVER THE INPUT: true; the input reads as it did. -/
def checkApartSpec : ChangeSpec := { name := "checkApart", fn := fun _ => fun
  | [d1, d2, d3] => { results := [.lit (.bool true)], args := [d1, d2, d3] }
  | _ => none }
def checkApartRow : OpenClaim := { program := "ytjldikjnljidbaa", sum := "d2795b42656d73ac7827d0f9f97e90187b52313bb2fd4635a52a4f6d082de95a", func := "weirkeeper/weirkeeperlaw02.CheckApart", spec := "checkApart", apart := false }
def CheckApartSaid : Prop := checkApartRow.holds Try.pinned (OpenSpec.ofChange checkApartSpec)

/-- ITS FALSE NEIGHBOUR: 'it returns false'. Refute it at one input. -/
def checkApartWrong : ChangeSpec := { name := "checkApart", fn := fun _ => fun
  | [d1, d2, d3] => { results := [.lit (.bool false)], args := [d1, d2, d3] }
  | _ => none }
def CheckApartWrongFalsely : Prop := checkApartRow.holds Try.pinned (OpenSpec.ofChange checkApartWrong)

/-- 'weirkeeperlaw02.CheckMore': WHATEVER THE INPUT: true; the input reads as it did. -/
def checkMoreSpec : ChangeSpec := { name := "checkMore", fn := fun _ => fun
  | [d1, d2, d3] => { results := [.lit (.bool true)], args := [d1, d2, d3] }
  | _ => none }
def checkMoreRow : OpenClaim := { program := "ytjldikjnljidbaa", sum := "d2795b42656d73ac7827d0f9f97e90187b52313bb2fd4635a52a4f6d082de95a", func := "weirkeeper/weirkeeperlaw02.CheckMore", spec := "checkMore", apart := false }
def CheckMoreSaid : Prop := checkMoreRow.holds Try.pinned (OpenSpec.ofChange checkMoreSpec)

/-- ITS FALSE NEIGHBOUR: 'it returns false'. Refute it at one input. -/
def checkMoreWrong : ChangeSpec := { name := "checkMore", fn := fun _ => fun
  | [d1, d2, d3] => { results := [.lit (.bool false)], args := [d1, d2, d3] }
  | _ => none }
def CheckMoreWrongFalsely : Prop := checkMoreRow.holds Try.pinned (OpenSpec.ofChange checkMoreWrong)

/-- 'weirkeeperlaw02.CheckZeros': WHATEVER THE INPUT: true; the input reads as it did. -/
def checkZerosSpec : ChangeSpec := { name := "checkZeros", fn := fun _ => fun
  | [d1, d2] => { results := [.lit (.bool true)], args := [d1, d2] }
  | _ => none }
def checkZerosRow : OpenClaim := { program := "ytjldikjnljidbaa", sum := "d2795b42656d73ac7827d0f9f97e90187b52313bb2fd4635a52a4f6d082de95a", func := "weirkeeper/weirkeeperlaw02.CheckZeros", spec := "checkZeros", apart := false }
def CheckZerosSaid : Prop := checkZerosRow.holds Try.pinned (OpenSpec.ofChange checkZerosSpec)

/-- ITS FALSE NEIGHBOUR: 'it returns false'. Refute it at one input. -/
def checkZerosWrong : ChangeSpec := { name := "checkZeros", fn := fun _ => fun
  | [d1, d2] => { results := [.lit (.bool false)], args := [d1, d2] }
  | _ => none }
def CheckZerosWrongFalsely : Prop := checkZerosRow.holds Try.pinned (OpenSpec.ofChange checkZerosWrong)

/- THE SECOND FORM. 'bulk': how many values and letters a reading holds, each counted each time it is reached (what is shared counts as often as it is met; a slice's spare places count too). A statement '..UptoSaid' is the law's where the arguments, and the package variables that the reading takes, are together of bulk at most 1048576: NARROWER than '..Said'. Prove '..Said' where nothing that the law and all that it calls make is longer than what came in: it says more and counts as full. Else prove '..UptoSaid'. A law counts once. -/
mutual
def uptoBulk {H : Type} : DataW H → Nat
  | .lit (.string bytes) => bytes.length + 1
  | .lit _ => 1
  | .nil => 1
  | .ptr d => uptoBulk d + 1
  | .slice elems spare => uptoBulkAll elems + uptoBulkAll spare + 1
  | .agg parts => uptoBulkAll parts + 1
  | .iface _ d => uptoBulk d + 1
  | .map entries => uptoBulkEntries entries + 1
  | .held _ => 1
def uptoBulkAll {H : Type} : List (DataW H) → Nat
  | [] => 0
  | d :: r => uptoBulk d + uptoBulkAll r
def uptoBulkEntries {H : Type} : List (Lit × DataW H) → Nat
  | [] => 0
  | x :: r => uptoBulkEntry x + uptoBulkEntries r
def uptoBulkEntry {H : Type} : Lit × DataW H → Nat
  | (.string bytes, d) => bytes.length + uptoBulk d + 1
  | (_, d) => uptoBulk d + 1
 end
def uptoSmall : (H : Type) → List (DataW H) → Bool := fun _ ds => decide (uptoBulkAll ds ≤ 1048576)
def OpenSpec.upto (s : _root_.Go.ChangeSpec) : _root_.Go.OpenSpec := { _root_.Go.OpenSpec.ofChange s with cond := some uptoSmall }

/-- 'weirkeeperlaw02.CheckTells', WHERE WHAT IT READS IS OF BULK AT MOST 1048576: true; the input reads as it did. -/
def checkTellsUptoRow : OpenClaim := { program := "ytjldikjnljidbaa", sum := "d2795b42656d73ac7827d0f9f97e90187b52313bb2fd4635a52a4f6d082de95a", func := "weirkeeper/weirkeeperlaw02.CheckTells", spec := "checkTells", apart := false, narrowed := true }
def CheckTellsUptoSaid : Prop := checkTellsUptoRow.holds Try.pinned (OpenSpec.upto checkTellsSpec)

/-- 'weirkeeperlaw02.CheckParts', WHERE WHAT IT READS IS OF BULK AT MOST 1048576: true; the input reads as it did. -/
def checkPartsUptoRow : OpenClaim := { program := "ytjldikjnljidbaa", sum := "d2795b42656d73ac7827d0f9f97e90187b52313bb2fd4635a52a4f6d082de95a", func := "weirkeeper/weirkeeperlaw02.CheckParts", spec := "checkParts", apart := false, narrowed := true }
def CheckPartsUptoSaid : Prop := checkPartsUptoRow.holds Try.pinned (OpenSpec.upto checkPartsSpec)

/-- 'weirkeeperlaw02.CheckBurst', WHERE WHAT IT READS IS OF BULK AT MOST 1048576: true; the input reads as it did. -/
def checkBurstUptoRow : OpenClaim := { program := "ytjldikjnljidbaa", sum := "d2795b42656d73ac7827d0f9f97e90187b52313bb2fd4635a52a4f6d082de95a", func := "weirkeeper/weirkeeperlaw02.CheckBurst", spec := "checkBurst", apart := false, narrowed := true }
def CheckBurstUptoSaid : Prop := checkBurstUptoRow.holds Try.pinned (OpenSpec.upto checkBurstSpec)

/-- 'weirkeeperlaw02.CheckThree', WHERE WHAT IT READS IS OF BULK AT MOST 1048576: true; the input reads as it did. -/
def checkThreeUptoRow : OpenClaim := { program := "ytjldikjnljidbaa", sum := "d2795b42656d73ac7827d0f9f97e90187b52313bb2fd4635a52a4f6d082de95a", func := "weirkeeper/weirkeeperlaw02.CheckThree", spec := "checkThree", apart := false, narrowed := true }
def CheckThreeUptoSaid : Prop := checkThreeUptoRow.holds Try.pinned (OpenSpec.upto checkThreeSpec)

/-- 'weirkeeperlaw02.CheckTable', WHERE WHAT IT READS IS OF BULK AT MOST 1048576: true; the input reads as it did. -/
def checkTableUptoRow : OpenClaim := { program := "ytjldikjnljidbaa", sum := "d2795b42656d73ac7827d0f9f97e90187b52313bb2fd4635a52a4f6d082de95a", func := "weirkeeper/weirkeeperlaw02.CheckTable", spec := "checkTable", apart := false, narrowed := true }
def CheckTableUptoSaid : Prop := checkTableUptoRow.holds Try.pinned (OpenSpec.upto checkTableSpec)

/-- 'weirkeeperlaw02.CheckApart', WHERE WHAT IT READS IS OF BULK AT MOST 1048576: true; the input reads as it did. -/
def checkApartUptoRow : OpenClaim := { program := "ytjldikjnljidbaa", sum := "d2795b42656d73ac7827d0f9f97e90187b52313bb2fd4635a52a4f6d082de95a", func := "weirkeeper/weirkeeperlaw02.CheckApart", spec := "checkApart", apart := false, narrowed := true }
def CheckApartUptoSaid : Prop := checkApartUptoRow.holds Try.pinned (OpenSpec.upto checkApartSpec)

/-- 'weirkeeperlaw02.CheckMore', WHERE WHAT IT READS IS OF BULK AT MOST 1048576: true; the input reads as it did. -/
def checkMoreUptoRow : OpenClaim := { program := "ytjldikjnljidbaa", sum := "d2795b42656d73ac7827d0f9f97e90187b52313bb2fd4635a52a4f6d082de95a", func := "weirkeeper/weirkeeperlaw02.CheckMore", spec := "checkMore", apart := false, narrowed := true }
def CheckMoreUptoSaid : Prop := checkMoreUptoRow.holds Try.pinned (OpenSpec.upto checkMoreSpec)

/-- 'weirkeeperlaw02.CheckZeros', WHERE WHAT IT READS IS OF BULK AT MOST 1048576: true; the input reads as it did. -/
def checkZerosUptoRow : OpenClaim := { program := "ytjldikjnljidbaa", sum := "d2795b42656d73ac7827d0f9f97e90187b52313bb2fd4635a52a4f6d082de95a", func := "weirkeeper/weirkeeperlaw02.CheckZeros", spec := "checkZeros", apart := false, narrowed := true }
def CheckZerosUptoSaid : Prop := checkZerosUptoRow.holds Try.pinned (OpenSpec.upto checkZerosSpec)

end Rows
end Go.Proofs.Ytjldikjnljidbaa
