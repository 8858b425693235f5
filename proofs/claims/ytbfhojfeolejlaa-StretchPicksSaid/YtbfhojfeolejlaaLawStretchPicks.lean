/- For every input the law StretchPicks answers true, and its arguments read afterwards as they read before; there is no condition. (The row, written by a program of this session, wip/tools/xprint.py, over the plain theorem of YtbfhojfeolejlaaPureStretchPicks and the walks of YtbfhojfeolejlaaXx...) -/
import Derived.Test.YtbfhojfeolejlaaRows
import Derived.Test.YtbfhojfeolejlaaPureStretchPicks
import Derived.WalkKit
import Derived.ProofKit
import Derived.OpenShut
import Derived.ShutString
import Derived.ChangeOld
import Derived.Below
import Derived.SizedLaws
namespace Go.Proofs.Ytbfhojfeolejlaa.stretchPicks
open Go.ChangeShapes Go.WideShapes Go.ChangeAt Go.RowKit Go.Proofs.Ytbfhojfeolejlaa.X Go.Proofs.YtbfhojfeolejlaaW Go.Proofs.YtbfhojfeolejlaaW.PrintWords
open Go.ChangeMaps (open_string shut_string)
set_option linter.unusedVariables false
theorem own : ownKnob Try.prog.godebug = none := by kernel_rfl
theorem laidOut : laidOutB Try.prog = true := by kernel_rfl
theorem walk (a0_0 : ByteArray) (a0_1 : ByteArray) (a0_2 : Bool) (a1_0 : ByteArray) (a1_1 : ByteArray) (a1_2 : Bool) (A2 : Option Addr) (c2 : Nat) (l2 : List (S42)) (w : World) (hC2 : Kd.C k42 w A2 l2.length l2) (hc2 : l2.length ≤ c2) (ok0_ : ok25 (⟨a0_0, a0_1, a0_2⟩ : S25)) (ok1_ : ok25 (⟨a1_0, a1_1, a1_2⟩ : S25)) (ok2_ : (Open.okList ok42) l2) :
    Calls Try.prog 7 #[.agg #[.string a0_0, .string a0_1, .bool a0_2], .agg #[.string a1_0, .string a1_1, .bool a1_2], .slice A2 l2.length c2] w fun e w' => e = .returned (.bool true) ∧ Below w.heap.size w w' := by
  rcases Pure.StretchPicks a0_0 a0_1 a0_2 a1_0 a1_1 a1_2 l2 ok0_ ok1_ ok2_ with ⟨k, h⟩
  · exact weirkeeperlaw03_StretchPicks.calls k a0_0 a0_1 a0_2 a1_0 a1_1 a1_2 _ _ l2 true w hC2 hc2 h
set_option maxRecDepth 100000 in
theorem lifted (os : Os) (started : os.Started) (H : Type) (enc : TypeId × Value → H) :
    ReturnsInHanded {} Try.checked os 7 .any (Rows.stretchPicksSpec.pre6 enc Try.prog Try.f7 Rows.stretchPicksRow.domain false) (Rows.stretchPicksSpec.post enc Try.prog Try.f7 false true false false) := by
  refine returnsInHanded_of_change_sized (C := Try.checked) own started (by kernel_rfl) Try.func7
    (ChangeSpec.witness6 (enc := enc) (C := Try.checked) false ⟨#[], #[.agg #[.string ByteArray.empty, .string ByteArray.empty, .bool false], .agg #[.string ByteArray.empty, .string ByteArray.empty, .bool false], .slice none 0 0], []⟩ 8 (by kernel_rfl) (by kernel_rfl) (by kernel_rfl) (by kernel_rfl)) ?_
  intro W base args ds gs before hval0 hW hcnd hsz0 _
  have hsz : (DataW.weightsEach Try.prog (Try.f7.params.toList ++ Rows.stretchPicksSpec.plain.varTypes Try.prog) (ds ++ gs)).all (· ≤ reachBytes) = true := hsz0
  have hval : ∀ (j : Nat) t v, Try.f7.params[j]? = some t → args[j]? = some v → Value.okWide Try.prog W .any base t v := hval0
  have hW' := hW
  obtain ⟨p, q, hA0, hV, rfl, hfz, hnd⟩ := hW
  have hA : DataW.TrodAll enc Try.prog W 0 (fun _ => true) true Try.f7.params.toList args.toList ds p := hA0
  rw [Try.params7] at hA hval hsz
  obtain ⟨v0, vs0, d0, ds0, p0, q0, hargs, rfl, rfl, h0, r0⟩ := trodAll_cons hA
  obtain ⟨v1, vs1, d1, ds1, p1, q1, rfl, rfl, rfl, h1, r1⟩ := trodAll_cons r0
  obtain ⟨v2, vs2, d2, ds2, p2, q2, rfl, rfl, rfl, h2, r2⟩ := trodAll_cons r1
  obtain ⟨rfl, rfl, rfl⟩ := trodAll_nil r2
  obtain rfl : args = #[v0, v1, v2] := by cases args; simp_all
  obtain ⟨rfl, rfl⟩ := trodVars_none hV
  have k0 := h0
  have lt0 : ∀ x ∈ p0, x.block < W.heap.size := by obtain ⟨m, hm⟩ := k0; exact DataW.trod_lt m _ _ _ hm
  obtain ⟨x0, cs0, rfl, hK0, ok0_⟩ := Open.arg_struct Try.underlying25 opens25 (hval 0 25 v0 rfl rfl) h0
  obtain rfl := k25_open hK0
  have k1 := h1
  have lt1 : ∀ x ∈ p1, x.block < W.heap.size := by obtain ⟨m, hm⟩ := k1; exact DataW.trod_lt m _ _ _ hm
  obtain ⟨x1, cs1, rfl, hK1, ok1_⟩ := Open.arg_struct Try.underlying25 opens25 (hval 1 25 v1 rfl rfl) h1
  obtain rfl := k25_open hK1
  have k2 := h2
  have lt2 : ∀ x ∈ p2, x.block < W.heap.size := by obtain ⟨m, hm⟩ := k2; exact DataW.trod_lt m _ _ _ hm
  obtain ⟨A2, c2, l2, rfl, hC2, hc2, ok2_⟩ := Open.arg_slice Try.underlying36 (by kernel_rfl) opens42 (hval 2 36 v2 rfl rfl) h2
  clear hA0 hval0 hsz0 hsz
  refine (walk x0.f0 x0.f1 x0.f2 x1.f0 x1.f1 x1.f2 A2 c2 l2 W hC2 hc2 ok0_ ok1_ ok2_).mono fun e W' ⟨he, bel⟩ => ?_
  subst he
  exact ⟨_, rfl, _, _, _, [], _, [], hW', trodAll_mk1 (shut_bool Try.underlying4 _), (trodAll_cons_mk (Below.trod laidOut (by kernel_rfl) (of_decide_eq_true (by kernel_rfl)) k0 bel lt0) (trodAll_cons_mk (Below.trod laidOut (by kernel_rfl) (of_decide_eq_true (by kernel_rfl)) k1 bel lt1) (trodAll_cons_mk (Below.trod laidOut (by kernel_rfl) (of_decide_eq_true (by kernel_rfl)) k2 bel lt2) trodAll_mk0))), rfl, bel.frame _, fun h => by cases h⟩
theorem over : Rows.stretchPicksRow.holds Try.pinned (OpenSpec.ofChange Rows.stretchPicksSpec) :=
  OpenClaim.holds_of_wide 7 Try.f7 rfl rfl rfl rfl rfl rfl rfl ⟨rfl, rfl, rfl, rfl, rfl⟩ rfl rfl rfl rfl rfl (by kernel_rfl) Try.func7 (by kernel_rfl)
    (of_decide_eq_true (by kernel_rfl)) (by unfold Func.isWrapper; first | (rw [if_pos (by decide +kernel)]; kernel_rfl) | (rw [if_neg (by decide +kernel)]; exact ⟨rfl, rfl⟩))
    (fun os started H enc _ => lifted os started H enc)
end Go.Proofs.Ytbfhojfeolejlaa.stretchPicks
namespace Go.Proofs.Ytbfhojfeolejlaa
/-- The row, under a short name, for the claim. -/
theorem stretchPicks_holds : Rows.StretchPicksSaid := stretchPicks.over
end Go.Proofs.Ytbfhojfeolejlaa
#print axioms Go.Proofs.Ytbfhojfeolejlaa.stretchPicks_holds
