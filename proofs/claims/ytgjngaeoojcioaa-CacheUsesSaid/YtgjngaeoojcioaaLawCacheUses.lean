/- For every input the law CacheUses answers true, and its arguments read afterwards as they read before; there is no condition. (The row, written by a program of this session, wip/tools/xprint.py, over the plain theorem of YtgjngaeoojcioaaPureCacheUses and the walks of YtgjngaeoojcioaaXx...) -/
import Derived.Test.YtgjngaeoojcioaaRows
import Derived.Test.YtgjngaeoojcioaaPureCacheUses
import Derived.WalkKit
import Derived.ProofKit
import Derived.OpenShut
import Derived.ShutString
import Derived.ChangeOld
import Derived.Below
import Derived.SizedLaws
namespace Go.Proofs.Ytgjngaeoojcioaa.cacheUses
open Go.ChangeShapes Go.WideShapes Go.ChangeAt Go.RowKit Go.Proofs.Ytgjngaeoojcioaa.X Go.Proofs.YtgjngaeoojcioaaW Go.Proofs.YtgjngaeoojcioaaW.PrintWords
open Go.ChangeMaps (open_string shut_string)
set_option linter.unusedVariables false
theorem own : ownKnob Try.prog.godebug = none := by kernel_rfl
theorem laidOut : laidOutB Try.prog = true := by kernel_rfl
theorem walk (a0_0 : Int) (A0_1 : Option Addr) (c0_1 : Nat) (l0_1 : List (S27)) (a1_0 : Int) (a1_1 : ByteArray) (a1_2 : Bool) (a2 : Int) (w : World) (hC0_1 : Kd.C k27 w A0_1 l0_1.length l0_1) (hc0_1 : l0_1.length ≤ c0_1) (ok0_ : ok24 (⟨a0_0, l0_1⟩ : S24)) (ok1_ : ok27 (⟨a1_0, a1_1, a1_2⟩ : S27)) (ok2_ : (Open.okInt .i64) a2) :
    Calls Try.prog 7 #[.agg #[.int .i64 a0_0, .slice A0_1 l0_1.length c0_1], .agg #[.int .i64 a1_0, .string a1_1, .bool a1_2], .int .i64 a2] w fun e w' => e = .returned (.bool true) ∧ Below w.heap.size w w' := by
  rcases Pure.CacheUses a0_0 l0_1 a1_0 a1_1 a1_2 a2 ok0_ ok1_ ok2_ with ⟨k, h⟩
  · exact weirkeeperlaw14_CacheUses.calls k a0_0 _ _ l0_1 a1_0 a1_1 a1_2 a2 true w hC0_1 hc0_1 h
set_option maxRecDepth 100000 in
theorem lifted (os : Os) (started : os.Started) (H : Type) (enc : TypeId × Value → H) :
    ReturnsInHanded {} Try.checked os 7 .any (Rows.cacheUsesSpec.pre6 enc Try.prog Try.f7 Rows.cacheUsesRow.domain false) (Rows.cacheUsesSpec.post enc Try.prog Try.f7 false true false false) := by
  refine returnsInHanded_of_change_sized (C := Try.checked) own started (by kernel_rfl) Try.func7
    (ChangeSpec.witness6 (enc := enc) (C := Try.checked) false ⟨#[], #[.agg #[.int .i64 0, .slice none 0 0], .agg #[.int .i64 0, .string ByteArray.empty, .bool false], .int .i64 0], []⟩ 8 (by kernel_rfl) (by kernel_rfl) (by kernel_rfl) (by kernel_rfl)) ?_
  intro W base args ds gs before hval0 hW hcnd hsz0 _
  have hsz : (DataW.weightsEach Try.prog (Try.f7.params.toList ++ Rows.cacheUsesSpec.plain.varTypes Try.prog) (ds ++ gs)).all (· ≤ reachBytes) = true := hsz0
  have hval : ∀ (j : Nat) t v, Try.f7.params[j]? = some t → args[j]? = some v → Value.okWide Try.prog W .any base t v := hval0
  have hW' := hW
  obtain ⟨p, q, hA0, hV, rfl, hfz, hnd⟩ := hW
  have hA : DataW.TrodAll enc Try.prog W 0 (fun _ => true) true Try.f7.params.toList args.toList ds p := hA0
  rw [Try.params7] at hA hval hsz
  obtain ⟨v0, vs0, d0, ds0, p0, q0, hargs, rfl, rfl, h0, r0⟩ := trodAll_cons hA
  obtain ⟨v1, vs1, d1, ds1, p1, q1, rfl, rfl, rfl, h1, r1⟩ := trodAll_cons r0
  obtain ⟨v2, vs2, d2, ds2, p2, q2, rfl, rfl, rfl, h2, r2⟩ := trodAll_cons r1
  obtain ⟨rfl, rfl, rfl⟩ := trodAll_nil r2
  obtain rfl : args = #[v0, v1, v2] := by cases args; simp_all
  obtain ⟨rfl, rfl⟩ := trodVars_none hV
  have k0 := h0
  have lt0 : ∀ x ∈ p0, x.block < W.heap.size := by obtain ⟨m, hm⟩ := k0; exact DataW.trod_lt m _ _ _ hm
  obtain ⟨x0, cs0, rfl, hK0, ok0_⟩ := Open.arg_struct Try.underlying24 opens24 (hval 0 24 v0 rfl rfl) h0
  obtain ⟨A0_1, c0_1, rfl, hc0_1, hC0_1⟩ := k24_open hK0
  have k1 := h1
  have lt1 : ∀ x ∈ p1, x.block < W.heap.size := by obtain ⟨m, hm⟩ := k1; exact DataW.trod_lt m _ _ _ hm
  obtain ⟨x1, cs1, rfl, hK1, ok1_⟩ := Open.arg_struct Try.underlying27 opens27 (hval 1 27 v1 rfl rfl) h1
  obtain rfl := k27_open hK1
  obtain ⟨a2, rfl, rfl, rfl, w2⟩ := open_int Try.underlying3 (hval 2 3 v2 rfl rfl) h2
  clear hA0 hval0 hsz0 hsz
  refine (walk x0.f0 A0_1 c0_1 x0.f1 x1.f0 x1.f1 x1.f2 a2 W hC0_1 hc0_1 ok0_ ok1_ w2).mono fun e W' ⟨he, bel⟩ => ?_
  subst he
  exact ⟨_, rfl, _, _, _, [], _, [], hW', trodAll_mk1 (shut_bool Try.underlying4 _), (trodAll_cons_mk (Below.trod laidOut (by kernel_rfl) (of_decide_eq_true (by kernel_rfl)) k0 bel lt0) (trodAll_cons_mk (Below.trod laidOut (by kernel_rfl) (of_decide_eq_true (by kernel_rfl)) k1 bel lt1) (trodAll_cons_mk (shut_int Try.underlying3 w2) trodAll_mk0))), rfl, bel.frame _, fun h => by cases h⟩
theorem over : Rows.cacheUsesRow.holds Try.pinned (OpenSpec.ofChange Rows.cacheUsesSpec) :=
  OpenClaim.holds_of_wide 7 Try.f7 rfl rfl rfl rfl rfl rfl rfl ⟨rfl, rfl, rfl, rfl, rfl⟩ rfl rfl rfl rfl rfl (by kernel_rfl) Try.func7 (by kernel_rfl)
    (of_decide_eq_true (by kernel_rfl)) (by unfold Func.isWrapper; first | (rw [if_pos (by decide +kernel)]; kernel_rfl) | (rw [if_neg (by decide +kernel)]; exact ⟨rfl, rfl⟩))
    (fun os started H enc _ => lifted os started H enc)
end Go.Proofs.Ytgjngaeoojcioaa.cacheUses
namespace Go.Proofs.Ytgjngaeoojcioaa
/-- The row, under a short name, for the claim. -/
theorem cacheUses_holds : Rows.CacheUsesSaid := cacheUses.over
end Go.Proofs.Ytgjngaeoojcioaa
#print axioms Go.Proofs.Ytgjngaeoojcioaa.cacheUses_holds
