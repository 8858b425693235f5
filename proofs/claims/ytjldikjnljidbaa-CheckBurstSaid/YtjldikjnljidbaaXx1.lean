-- Written by a program of this session (wip/tools/xprint.py) out of the translation. Not trusted: Lean checks it.
import Derived.Test.YtjldikjnljidbaaXx0
namespace Go.Proofs.Ytjldikjnljidbaa.X
open Go.RowKit Go.Proofs.YtjldikjnljidbaaW.PrintWords Go.Proofs.YtjldikjnljidbaaW.PrintLast Go.Proofs.YtjldikjnljidbaaW.PrintMore
attribute [local go_sem] max2_int min2_int max_two min_two max_three min_three max_four min_four max2_str min2_str   -- for this text's walks alone
set_option linter.unusedVariables false
set_option linter.unusedSimpArgs false

/-! ### check_turn: function 18 -/
def check_turn.l0 : Nat → Int → Int → Option (Int)
  | 0, _, _ => none
  | k + 1, x0, x4 => if x4 < 8 then (if (Go.bits .and .u32 x0 8388608) > 0 then (check_turn.l0 k (Go.bits .xor .u32 (Go.bits .and .u32 ((x0 * 2) % 4294967296) 16777215) 8801531) (wrap64 (x4 + 1))) else (check_turn.l0 k (Go.bits .and .u32 ((x0 * 2) % 4294967296) 16777215) (wrap64 (x4 + 1)))) else (some x0)
def check_turn.f (k : Nat) (a0 : Int) : Option (Int) := check_turn.l0 k a0 0
theorem check_turn.mono_l : ∀ k, (∀ y0 y1, LeO (check_turn.l0 k y0 y1) (check_turn.l0 (k + 1) y0 y1))
  | 0 => fun _ _ r h => by simp [check_turn.l0] at h
  | k + 1 => by
    have ih0 := check_turn.mono_l k
    · intro y0 y1
      unfold check_turn.l0
      repeat' first
      | (with_reducible exact ih0 _ _)
      | (with_reducible exact LeO.refl _)
      | (with_reducible exact LeO.none _)
      | (with_reducible refine LeO.ite ?_ ?_)
      | (with_reducible refine LeO.bind ?_ (fun _ => ?_))
      | exact ih0 _ _
      | exact LeO.none _
      | refine LeO.ite ?_ ?_
      | refine LeO.bind ?_ (fun _ => ?_)
theorem check_turn.mono : ∀ a0 k, LeO (check_turn.f k a0) (check_turn.f (k + 1) a0) := by
  intro a0 k
  have ih0 := check_turn.mono_l k
  unfold check_turn.f
  repeat' first
      | (with_reducible exact ih0 _ _)
      | (with_reducible exact LeO.refl _)
      | (with_reducible exact LeO.none _)
      | (with_reducible refine LeO.ite ?_ ?_)
      | (with_reducible refine LeO.bind ?_ (fun _ => ?_))
      | exact ih0 _ _
      | exact LeO.none _
      | refine LeO.ite ?_ ?_
      | refine LeO.bind ?_ (fun _ => ?_)
set_option maxHeartbeats 8000000 in
set_option maxRecDepth 100000 in
theorem check_turn.calls (k : Nat) (a0 : Int) (r : Int) (w : World) (h : check_turn.f k a0 = some r) :
    Calls Try.prog 18 #[.int .u32 a0] w fun e w' => e = .returned (.int .u32 r) ∧ Drawn0 w w' := by
  have H : (check_turn.l0 k a0 0) = some r := h
  clear h
  have H' := Aside0.mk H
  clear H
  go_enter Try.func18, Try.ntmps18
  go_wp2
  go_loopg [0, 4] k (fun kq v0 v4 w' => ∃ (x0_1 : Int) (x4_1 : Int), v0 = .int .u32 x0_1 ∧ v4 = .int .i64 x4_1 ∧ Aside0 (check_turn.l0 kq x0_1 x4_1 = some r) ∧ Aside0 (kq ≤ k) ∧ Drawn0 w w')
  case atStart => exact ⟨(a0), (0), (by first | rfl | (simp; done) | (simp [*]; done)), (by first | rfl | (simp; done) | (simp [*]; done)), H', ⟨Nat.le_refl _⟩, by repeat (first | exact Drawn0.refl _ | apply Drawn0.step)⟩
  case round =>
    clear H'
    try clear c1
    obtain ⟨x0_1, x4_1, rfl, rfl, HA, HK1, ⟨m1, rfl⟩⟩ := hrel
    cases gk with
    | zero => exact absurd HA.out (by simp [check_turn.l0])
    | succ k1 =>
      have H := HA.out
      clear HA
      simp only [check_turn.l0] at H
      by_cases c2 : x4_1 < 8
      · rw [if_pos c2] at H
        have c2b0 : decide (x4_1 < 8) = true := decide_eq_true c2
        clear c2
        by_cases c3 : (Go.bits .and .u32 x0_1 8388608) > 0
        · rw [if_pos c3] at H
          have c3b0 : decide (0 < (Go.bits .and .u32 x0_1 8388608)) = true := decide_eq_true c3
          clear c3
          have H' := Aside0.mk H
          clear H
          go_wp2
          go_roundg k1
          case measure => have := HK1.out; omega
          case rel => exact ⟨(Go.bits .xor .u32 (Go.bits .and .u32 ((x0_1 * 2) % 4294967296) 16777215) 8801531), (wrap64 (x4_1 + 1)), (by first | rfl | (simp; done) | (simp [*]; done)), (by first | rfl | (simp; done) | (simp [*]; done)), H', ⟨by have := HK1.out; omega⟩, by repeat (first | exact Drawn0.refl _ | apply Drawn0.step)⟩
        · rw [if_neg c3] at H
          have c3b0 : decide (0 < (Go.bits .and .u32 x0_1 8388608)) = false := decide_eq_false c3
          clear c3
          have H' := Aside0.mk H
          clear H
          go_wp2
          go_roundg k1
          case measure => have := HK1.out; omega
          case rel => exact ⟨(Go.bits .and .u32 ((x0_1 * 2) % 4294967296) 16777215), (wrap64 (x4_1 + 1)), (by first | rfl | (simp; done) | (simp [*]; done)), (by first | rfl | (simp; done) | (simp [*]; done)), H', ⟨by have := HK1.out; omega⟩, by repeat (first | exact Drawn0.refl _ | apply Drawn0.step)⟩
      · rw [if_neg c2] at H
        have c2b0 : decide (x4_1 < 8) = false := decide_eq_false c2
        clear c2
        obtain rfl := Option.some.inj H
        go_wp2
        go_ret
        exact ⟨by first | rfl | (simp; done) | (simp [*]; done), by repeat (first | exact Drawn0.refl _ | apply Drawn0.step)⟩

-- NOT PRINTED: function 16 (check_Table)

end Go.Proofs.Ytjldikjnljidbaa.X
