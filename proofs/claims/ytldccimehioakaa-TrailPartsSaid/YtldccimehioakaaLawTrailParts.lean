/- For every input the law TrailParts answers true, and its arguments read afterwards as they read before; there is no condition. (The row, written by a program of this session, wip/tools/xprint.py, over the plain theorem of YtldccimehioakaaPureTrailParts and the walks of YtldccimehioakaaXx...) -/
import Derived.Test.YtldccimehioakaaRows
import Derived.Test.YtldccimehioakaaPureTrailParts
import Derived.WalkKit
import Derived.ProofKit
import Derived.OpenShut
import Derived.ShutString
import Derived.ChangeOld
import Derived.Below
import Derived.SizedLaws
namespace Go.Proofs.Ytldccimehioakaa.trailParts
open Go.ChangeShapes Go.WideShapes Go.ChangeAt Go.RowKit Go.Proofs.Ytldccimehioakaa.X Go.Proofs.YtldccimehioakaaW Go.Proofs.YtldccimehioakaaW.PrintWords
open Go.ChangeMaps (open_string shut_string)
set_option linter.unusedVariables false
theorem own : ownKnob Try.prog.godebug = none := by kernel_rfl
theorem laidOut : laidOutB Try.prog = true := by kernel_rfl
theorem walk (A0 : Option Addr) (c0 : Nat) (l0 : List (S30)) (a1 : Int) (a2 : Int) (a3_0 : ByteArray) (a3_1 : ByteArray) (a3_2 : Bool) (w : World) (hC0 : Kd.C k30 w A0 l0.length l0) (hc0 : l0.length ≤ c0) (ok0_ : (Open.okList ok30) l0) (ok1_ : (Open.okInt .i64) a1) (ok2_ : (Open.okInt .u8) a2) (ok3_ : ok35 (⟨a3_0, a3_1, a3_2⟩ : S35)) :
    Calls Try.prog 4 #[.slice A0 l0.length c0, .int .i64 a1, .int .u8 a2, .agg #[.string a3_0, .string a3_1, .bool a3_2]] w fun e w' => e = .returned (.bool true) ∧ Below w.heap.size w w' := by
  rcases Pure.TrailParts l0 a1 a2 a3_0 a3_1 a3_2 ok0_ ok1_ ok2_ ok3_ with h
  · exact weirkeeperlaw16_TrailParts.calls _ _ l0 a1 a2 a3_0 a3_1 a3_2 true w hC0 hc0 h
set_option maxRecDepth 100000 in
theorem lifted (os : Os) (started : os.Started) (H : Type) (enc : TypeId × Value → H) :
    ReturnsInHanded {} Try.checked os 4 .any (Rows.trailPartsSpec.pre6 enc Try.prog Try.f4 Rows.trailPartsRow.domain false) (Rows.trailPartsSpec.post enc Try.prog Try.f4 false true false false) := by
  refine returnsInHanded_of_change_sized (C := Try.checked) own started (by kernel_rfl) Try.func4
    (ChangeSpec.witness6 (enc := enc) (C := Try.checked) false ⟨#[], #[.slice none 0 0, .int .i64 0, .int .u8 0, .agg #[.string ByteArray.empty, .string ByteArray.empty, .bool false]], []⟩ 8 (by kernel_rfl) (by kernel_rfl) (by kernel_rfl) (by kernel_rfl)) ?_
  intro W base args ds gs before hval0 hW hcnd hsz0 _
  have hsz : (DataW.weightsEach Try.prog (Try.f4.params.toList ++ Rows.trailPartsSpec.plain.varTypes Try.prog) (ds ++ gs)).all (· ≤ reachBytes) = true := hsz0
  have hval : ∀ (j : Nat) t v, Try.f4.params[j]? = some t → args[j]? = some v → Value.okWide Try.prog W .any base t v := hval0
  have hW' := hW
  obtain ⟨p, q, hA0, hV, rfl, hfz, hnd⟩ := hW
  have hA : DataW.TrodAll enc Try.prog W 0 (fun _ => true) true Try.f4.params.toList args.toList ds p := hA0
  rw [Try.params4] at hA hval hsz
  obtain ⟨v0, vs0, d0, ds0, p0, q0, hargs, rfl, rfl, h0, r0⟩ := trodAll_cons hA
  obtain ⟨v1, vs1, d1, ds1, p1, q1, rfl, rfl, rfl, h1, r1⟩ := trodAll_cons r0
  obtain ⟨v2, vs2, d2, ds2, p2, q2, rfl, rfl, rfl, h2, r2⟩ := trodAll_cons r1
  obtain ⟨v3, vs3, d3, ds3, p3, q3, rfl, rfl, rfl, h3, r3⟩ := trodAll_cons r2
  obtain ⟨rfl, rfl, rfl⟩ := trodAll_nil r3
  obtain rfl : args = #[v0, v1, v2, v3] := by cases args; simp_all
  obtain ⟨rfl, rfl⟩ := trodVars_none hV
  have k0 := h0
  have lt0 : ∀ x ∈ p0, x.block < W.heap.size := by obtain ⟨m, hm⟩ := k0; exact DataW.trod_lt m _ _ _ hm
  obtain ⟨A0, c0, l0, rfl, hC0, hc0, ok0_⟩ := Open.arg_slice Try.underlying22 (by kernel_rfl) opens30 (hval 0 22 v0 rfl rfl) h0
  obtain ⟨a1, rfl, rfl, rfl, w1⟩ := open_int Try.underlying3 (hval 1 3 v1 rfl rfl) h1
  obtain ⟨a2, rfl, rfl, rfl, w2⟩ := open_int Try.underlying5 (hval 2 5 v2 rfl rfl) h2
  have k3 := h3
  have lt3 : ∀ x ∈ p3, x.block < W.heap.size := by obtain ⟨m, hm⟩ := k3; exact DataW.trod_lt m _ _ _ hm
  obtain ⟨x3, cs3, rfl, hK3, ok3_⟩ := Open.arg_struct Try.underlying35 opens35 (hval 3 35 v3 rfl rfl) h3
  obtain rfl := k35_open hK3
  clear hA0 hval0 hsz0 hsz
  refine (walk A0 c0 l0 a1 a2 x3.f0 x3.f1 x3.f2 W hC0 hc0 ok0_ w1 w2 ok3_).mono fun e W' ⟨he, bel⟩ => ?_
  subst he
  exact ⟨_, rfl, _, _, _, [], _, [], hW', trodAll_mk1 (shut_bool Try.underlying4 _), (trodAll_cons_mk (Below.trod laidOut (by kernel_rfl) (of_decide_eq_true (by kernel_rfl)) k0 bel lt0) (trodAll_cons_mk (shut_int Try.underlying3 w1) (trodAll_cons_mk (shut_int Try.underlying5 w2) (trodAll_cons_mk (Below.trod laidOut (by kernel_rfl) (of_decide_eq_true (by kernel_rfl)) k3 bel lt3) trodAll_mk0)))), rfl, bel.frame _, fun h => by cases h⟩
theorem over : Rows.trailPartsRow.holds Try.pinned (OpenSpec.ofChange Rows.trailPartsSpec) :=
  OpenClaim.holds_of_wide 4 Try.f4 rfl rfl rfl rfl rfl rfl rfl ⟨rfl, rfl, rfl, rfl, rfl⟩ rfl rfl rfl rfl rfl (by kernel_rfl) Try.func4 (by kernel_rfl)
    (of_decide_eq_true (by kernel_rfl)) (by unfold Func.isWrapper; first | (rw [if_pos (by decide +kernel)]; kernel_rfl) | (rw [if_neg (by decide +kernel)]; exact ⟨rfl, rfl⟩))
    (fun os started H enc _ => lifted os started H enc)
end Go.Proofs.Ytldccimehioakaa.trailParts
namespace Go.Proofs.Ytldccimehioakaa
/-- The row, under a short name, for the claim. -/
theorem trailParts_holds : Rows.TrailPartsSaid := trailParts.over
end Go.Proofs.Ytldccimehioakaa
#print axioms Go.Proofs.Ytldccimehioakaa.trailParts_holds
