-- Written by a program of this session (wip/tools/xprint.py) out of the translation. Not trusted: Lean checks it.
import Derived.Test.YtjldikjnljidbaaXx0
import Derived.Test.YtjldikjnljidbaaXx2
import Derived.Test.YtjldikjnljidbaaXx4
namespace Go.Proofs.Ytjldikjnljidbaa.X
open Go.RowKit Go.Proofs.YtjldikjnljidbaaW.PrintWords Go.Proofs.YtjldikjnljidbaaW.PrintLast Go.Proofs.YtjldikjnljidbaaW.PrintMore
attribute [local go_sem] max2_int min2_int max_two min_two max_three min_three max_four min_four max2_str min2_str   -- for this text's walks alone
set_option linter.unusedVariables false
set_option linter.unusedSimpArgs false

/-! ### weirkeeperlaw02_CheckZeros: function 10 -/
def weirkeeperlaw02_CheckZeros.f (a0 : Int) (a1 : Int) : Option (Bool) := if 0 ≤ (Int.tmod a1 300) then (if (Int.tmod a1 300 : Int).toNat ≤ 281474976710656 then ((some (List.replicate (Int.tmod a1 300 : Int).toNat 0 : List Int)).bind fun y140 => ((check_More.f 0 (strOfNums y140)).bind fun t143 => (if t143 = 0 then ((check_More.f a0 (strOfNums y140)).bind fun t144 => (if ((t144 == 0) == ((Int.tmod a0 16777216) == 0)) = true then ((weirkeeperlaw02_awake.f).bind fun t145 => (some t145)) else (none))) else (none)))) else (none)) else (none)
set_option maxHeartbeats 8000000 in
set_option maxRecDepth 100000 in
theorem weirkeeperlaw02_CheckZeros.calls (a0 : Int) (a1 : Int) (r : Bool) (w : World) (h : weirkeeperlaw02_CheckZeros.f a0 a1 = some r) :
    Calls Try.prog 10 #[.int .u32 a0, .int .u16 a1] w fun e w' => e = .returned (.bool r) ∧ Below w.heap.size w w' := by
  have HB := Aside0.mk (Below.refl w.heap.size w)
  have H : (if 0 ≤ (Int.tmod a1 300) then (if (Int.tmod a1 300 : Int).toNat ≤ 281474976710656 then ((some (List.replicate (Int.tmod a1 300 : Int).toNat 0 : List Int)).bind fun y140 => ((check_More.f 0 (strOfNums y140)).bind fun t143 => (if t143 = 0 then ((check_More.f a0 (strOfNums y140)).bind fun t144 => (if ((t144 == 0) == ((Int.tmod a0 16777216) == 0)) = true then ((weirkeeperlaw02_awake.f).bind fun t145 => (some t145)) else (none))) else (none)))) else (none)) else (none)) = some r := h
  clear h
  obtain ⟨ji3, hji3⟩ : ∃ j_ : Int, (Int.tmod a1 300) = j_ := ⟨_, rfl⟩
  replace H : (if 0 ≤ (ji3) then (if (ji3 : Int).toNat ≤ 281474976710656 then ((some (List.replicate (ji3 : Int).toNat 0 : List Int)).bind fun y140 => ((check_More.f 0 (strOfNums y140)).bind fun t143 => (if t143 = 0 then ((check_More.f a0 (strOfNums y140)).bind fun t144 => (if ((t144 == 0) == ((Int.tmod a0 16777216) == 0)) = true then ((weirkeeperlaw02_awake.f).bind fun t145 => (some t145)) else (none))) else (none)))) else (none)) else (none)) = some r := by first | (rw [hji3] at H; exact H) | (simp only [hji3] at H ⊢; exact H)
  by_cases c4 : 0 ≤ (ji3)
  · rw [if_pos c4] at H
    have c4b0 := eq_true c4
    have c4b1 : decide (0 ≤ (ji3)) = true := decide_eq_true c4
    clear c4
    by_cases c5 : (ji3 : Int).toNat ≤ 281474976710656
    · rw [if_pos c5] at H
      have c5b0 := eq_true c5
      have c5b1 : decide ((ji3 : Int).toNat ≤ 281474976710656) = true := decide_eq_true c5
      clear c5
      obtain ⟨y140, hy140⟩ : ∃ y_ : List Int, y_ = (List.replicate (ji3 : Int).toNat 0) := ⟨_, rfl⟩
      replace H : ((check_More.f 0 (strOfNums y140)).bind fun t143 => (if t143 = 0 then ((check_More.f a0 (strOfNums y140)).bind fun t144 => (if ((t144 == 0) == ((Int.tmod a0 16777216) == 0)) = true then ((weirkeeperlaw02_awake.f).bind fun t145 => (some t145)) else (none))) else (none))) = some r := by first | (rw [hy140]; with_reducible exact H) | (have H2_ := (Option.bind_some _ _).symm.trans H; rw [hy140]; with_reducible exact H2_) | (have H2_ := (Option.bind_some _ _).symm.trans H; with_reducible exact H2_) | with_reducible exact H | (rw [hy140]; exact H) | exact H
      have Ny140 := Aside0.mk hy140
      clear hy140
      replace H := Option.bind_eq_some_iff.mp H
      obtain ⟨t143, A60, H⟩ := H
      replace H : (if t143 = 0 then ((check_More.f a0 (strOfNums y140)).bind fun t144 => (if ((t144 == 0) == ((Int.tmod a0 16777216) == 0)) = true then ((weirkeeperlaw02_awake.f).bind fun t145 => (some t145)) else (none))) else (none)) = some r := H
      have A6 := Aside0.mk A60
      clear A60
      by_cases c7 : t143 = 0
      · rw [if_pos c7] at H
        have c7b0 : (t143 == 0) = true := beq_iff_eq.mpr c7
        have c7b1 : (t143 != 0) = false := bne_eq_false_iff_eq.mpr c7
        clear c7
        replace H := Option.bind_eq_some_iff.mp H
        obtain ⟨t144, A80, H⟩ := H
        replace H : (if ((t144 == 0) == ((Int.tmod a0 16777216) == 0)) = true then ((weirkeeperlaw02_awake.f).bind fun t145 => (some t145)) else (none)) = some r := H
        have A8 := Aside0.mk A80
        clear A80
        by_cases c9 : ((t144 == 0) == ((Int.tmod a0 16777216) == 0)) = true
        · rw [if_pos c9] at H
          have c9b0 : ((t144 == 0) == ((Int.tmod a0 16777216) == 0)) = true := c9
          (try (have c9b1 : decide ((t144 == 0) = ((Int.tmod a0 16777216) == 0)) = true := by simpa using c9))
          (try (have c9b2 : ((t144 == 0) == ((Int.tmod a0 16777216) == 0)) = true := by simpa using c9))
          clear c9
          replace H := Option.bind_eq_some_iff.mp H
          obtain ⟨t145, A100, H⟩ := H
          replace H : (some t145) = some r := H
          have A10 := Aside0.mk A100
          clear A100
          obtain rfl := Option.some.inj H
          go_enter Try.func10, Try.ntmps10
          go_wp2_with (first | ((with_reducible refine gate_dst (N := 8) rfl ?_); refine Kd.R_makeK (Kd.int .u8) _ 5 rfl (N := 8) rfl 31 _ _ rfl ji3 rfl rfl Try.underlying31 (.int .u8 0) 1 info5 rfl (by decide) (by omega) 0 (ok := fun _ => True) (okp := fun _ => True) rfl (fun _ hk => hk) trivial (of_decide_eq_true (by first | (with_reducible assumption) | assumption)) (Nat.le_trans (Nat.mul_le_mul_right _ (of_decide_eq_true (by first | (with_reducible assumption) | assumption) : ji3.toNat ≤ 281474976710656)) (by omega)) (Below.refl _ _) (Nat.le_refl _) ?_; intro v141 w11 ho12 hb hg_ hnew_; clear hg_ hnew_; (first | rw [← Ny140.out] at ho12 | (simp only [Int.reduceToNat] at ho12; rw [← Ny140.out] at ho12)); have n0_ := Aside0.mk (Kd.R_lower ho12 (below_size (by repeat (first | (with_reducible first | exact HB.out | apply below_alloc | apply pw_below_drewN | apply below_drew1) | exact HB.out)))); have n1_ := Aside0.mk (below_step (by repeat (first | (with_reducible first | exact HB.out | apply below_alloc | apply pw_below_drewN | apply below_drew1) | exact HB.out)) hb); clear HB; have HO142 := n0_; have HB := n1_; clear n0_ n1_; clear hb ho12; have hcv13 := own_string (P := Try.prog) Try.underlying31 Try.underlying5 Try.underlying9 (Kd.own_of_R HO142.out)) | ((with_reducible refine gate_callee (f := 14) rfl ?_); refine goesL_ (some 11) rfl rfl Try.func14 (by kernel_rfl) rfl #[.int .u32 0, .string (strOfNums y140)] rfl (by (try simp only [List.map_toArray, List.map_cons, List.map_nil]); first | done | rfl | (simp only [List.length_drop, List.length_take]; rfl)) ?_; (with_reducible refine (check_More.calls 0 (strOfNums y140) t143 _ A6.out).mono ?_); rintro e w14 ⟨rfl, hb⟩; refine ⟨_, rfl, ?_⟩; have n0_ := Aside0.mk (Kd.R_below (by (with_reducible repeat (first | apply Kd.R_alloc | apply Kd.R_drewN | apply Kd.R_drew)); exact HO142.out) hb); have n1_ := Aside0.mk (below_step (by repeat (first | (with_reducible first | exact HB.out | apply below_alloc | apply pw_below_drewN | apply below_drew1) | exact HB.out)) hb); clear HO142; clear HB; have HO142 := n0_; have HB := n1_; clear n0_ n1_; (try clear hb); (try clear hb2); (try clear hk); (try clear hi)) | (go_at_call 14; (with_reducible refine (check_More.calls a0 (strOfNums y140) t144 _ A8.out).mono ?_); rintro e w15 ⟨rfl, hb⟩; have n0_ := Aside0.mk (Kd.R_below (by (with_reducible repeat (first | apply Kd.R_alloc | apply Kd.R_drewN | apply Kd.R_drew)); exact HO142.out) hb); have n1_ := Aside0.mk (below_step (by repeat (first | (with_reducible first | exact HB.out | apply below_alloc | apply pw_below_drewN | apply below_drew1) | exact HB.out)) hb); clear HO142; clear HB; have HO142 := n0_; have HB := n1_; clear n0_ n1_; (try clear hb); (try clear hb2); (try clear hk); (try clear hi)) | (go_at_call 11; (with_reducible refine (weirkeeperlaw02_awake.calls  t145 _ A10.out).mono ?_); rintro e w16 ⟨rfl, hb⟩; have n0_ := Aside0.mk (Kd.R_below (by (with_reducible repeat (first | apply Kd.R_alloc | apply Kd.R_drewN | apply Kd.R_drew)); exact HO142.out) hb); have n1_ := Aside0.mk (below_step (by repeat (first | (with_reducible first | exact HB.out | apply below_alloc | apply pw_below_drewN | apply below_drew1) | exact HB.out)) hb); clear HO142; clear HB; have HO142 := n0_; have HB := n1_; clear n0_ n1_; (try clear hb); (try clear hb2); (try clear hk); (try clear hi)))
          go_ret
          exact ⟨by first | rfl | (simp [errW_none, errW_some] <;> rfl) | (simp only [← hji3]; first | rfl | (simp [errW_none, errW_some] <;> rfl)) | (simp [*, errW_none, errW_some] <;> rfl), by repeat (first | (with_reducible first | exact HB.out | apply below_alloc | apply pw_below_drewN | apply below_drew1) | exact HB.out)⟩
        · rw [if_neg c9] at H
          exact absurd H (by simp)
      · rw [if_neg c7] at H
        exact absurd H (by simp)
    · rw [if_neg c5] at H
      exact absurd H (by simp)
  · rw [if_neg c4] at H
    exact absurd H (by simp)

end Go.Proofs.Ytjldikjnljidbaa.X
