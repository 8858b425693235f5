/- StretchOrder, plain: a list that is turned has the same elements, and what ranges have in common hangs on the elements alone. -/
import Derived.Test.YtbfhojfeolejlaaStateStretchOrder
import Derived.Test.YtbfhojfeolejlaaStretch
namespace Go.Proofs.Ytbfhojfeolejlaa.Pure
open Go Go.RowKit Go.Proofs.Ytbfhojfeolejlaa.X Go.Proofs.Ytbfhojfeolejlaa.Pl Go.Proofs.YtbfhojfeolejlaaW Go.Proofs.YtbfhojfeolejlaaW.PrintWords Go.Proofs.YtbfhojfeolejlaaW.PrintLast Go.Proofs.YtbfhojfeolejlaaW.PrintMore

theorem place (n i b : Nat) (hn : n ≤ 20) (hi : i < n) (hb : b ≤ 255) : Int.tmod (wrap64 ((wrap64 ((n : Int) - (i : Int))) + (wrap64 (b : Int)))) (n : Int) = (((n - i + b) % n : Nat) : Int) := by
  have h1 : wrap64 ((n : Int) - (i : Int)) = ((n - i : Nat) : Int) := by unfold wrap64; omega
  have h2 : wrap64 (b : Int) = (b : Int) := by unfold wrap64; omega
  rw [h1, h2, show wrap64 (((n - i : Nat) : Int) + (b : Int)) = ((n - i + b : Nat) : Int) from by unfold wrap64; omega]
  rw [Int.tmod_eq_emod_of_nonneg (by omega)]
  omega
/-- Each place is met. -/
theorem place_onto (n j b : Nat) (hj : j < n) : ∃ i, i < n ∧ (n - i + b) % n = j := by
  refine ⟨(b + n - j) % n, Nat.mod_lt _ (by omega), ?_⟩
  have h := Nat.div_add_mod (b + n - j) n
  have hlt : (b + n - j) % n < n := Nat.mod_lt _ (by omega)
  generalize (b + n - j) % n = r at *
  generalize (b + n - j) / n = q at *
  have : n - r + b = j + n * q := by omega
  rw [this, Nat.add_mul_mod_self_left, Nat.mod_eq_of_lt hj]
theorem order_loop (l : List S25) (b : Nat) (hl : l.length ≤ 20) (h0 : 0 < l.length) (hb : b ≤ 255) (d : Nat) : ∀ (k i : Nat) (x : List S25), l.length = i + d → d + 60 < k → x.length = i → (∀ a ∈ x, a ∈ l) → (∀ j, j < i → ∃ h : (l.length - j + b) % l.length < l.length, l[(l.length - j + b) % l.length] ∈ x) →
    weirkeeperlaw03_StretchOrder.l0 k l (b : Int) x l (l.length : Int) (i : Int) = some true := by
  induction d with
  | zero =>
    intro k i x hi hk hxl hx1 hx2
    obtain ⟨k, rfl⟩ : ∃ m, k = m + 1 := ⟨k - 1, by omega⟩
    have hin : ∀ a ∈ l, a ∈ x := by
      intro a ha
      obtain ⟨j, hj, rfl⟩ := List.getElem_of_mem ha
      obtain ⟨i', hi', he⟩ := place_onto l.length j b hj
      obtain ⟨hlt, hm⟩ := hx2 i' (by omega)
      simp only [he] at hm
      exact hm
    have e1 : meetB x = meetB l := meet_same l x hx1 hin
    have hr0 : rd_T25 l 0 = l[0] := rd_at l 0 h0
    have e2 : meetB (x ++ [l[0]]) = meetB l := meet_same l _ (fun a ha => by
      rcases List.mem_append.1 ha with ha | ha
      · exact hx1 a ha
      · simp at ha
        rw [ha]
        exact List.getElem_mem h0) (fun a ha => List.mem_append_left _ (hin a ha))
    simp only [weirkeeperlaw03_StretchOrder.l0]
    rw [if_neg (by omega), Meet_f l (by omega) k (by omega), Meet_f x (by omega) k (by omega), hr0, e1]
    simp only [Option.bind_some]
    rw [Meet_f (x ++ [l[0]]) (by simp; omega) k (by simp; omega), e2]
    rw [if_pos (by simp), if_pos (by omega), if_pos (by omega)]
    simp only [Option.bind_some]
    rw [if_pos (by simp), Meet_f _ (by simp) k (by simp; omega), meet_twice]
    simp only [Option.bind_some]
    rw [if_pos (by simp), awake_f k (by omega)]
    rfl
  | succ d ih =>
    intro k i x hi hk hxl hx1 hx2
    obtain ⟨k, rfl⟩ : ∃ m, k = m + 1 := ⟨k - 1, by omega⟩
    have hlt : i < l.length := by omega
    have hp : (l.length - i + b) % l.length < l.length := Nat.mod_lt _ h0
    simp only [weirkeeperlaw03_StretchOrder.l0]
    rw [if_pos (by omega), if_pos (by omega), if_pos (by omega), rd_at l i hlt, wrap_succ i (by omega), awake_f k (by omega), place l.length i b hl hlt hb, rd_at l _ hp]
    unfold weirkeeperlaw03_small.f
    have go : (if (l.length : Int) = 0 then (none : Option Bool) else if 0 ≤ (((l.length - i + b) % l.length : Nat) : Int) then if (((l.length - i + b) % l.length : Nat) : Int) < (l.length : Int) then if x.length < 3518437208883 then weirkeeperlaw03_StretchOrder.l0 k l (b : Int) (x ++ [(⟨l[(l.length - i + b) % l.length].f0, l[(l.length - i + b) % l.length].f1, l[(l.length - i + b) % l.length].f2⟩ : S25)]) l (l.length : Int) ((i + 1 : Nat) : Int) else none else none else none) = some true := by
      rw [if_neg (by omega), if_pos (by omega), if_pos (by omega), if_pos (by omega)]
      refine ih k (i + 1) _ (by omega) (by omega) (by simp [hxl]) ?_ ?_
      · intro a ha
        rcases List.mem_append.1 ha with ha | ha
        · exact hx1 a ha
        · simp at ha
          rw [ha]
          exact List.getElem_mem hp
      · intro j hj
        by_cases hji : j < i
        · obtain ⟨h1, h2⟩ := hx2 j hji
          exact ⟨h1, List.mem_append_left _ h2⟩
        · obtain rfl : j = i := by omega
          exact ⟨hp, List.mem_append_right _ (by simp)⟩
    split
    · simp only [Option.bind_some]
      split
      · exact go
      · rfl
    · rfl
theorem StretchOrder : weirkeeperlaw03_StretchOrder.Pure := by
  intro l by_ hl hby
  refine ⟨2000, ?_⟩
  have hb : 0 ≤ by_ ∧ by_ ≤ 255 := by
    unfold Open.okInt at hby
    simp [Lit.wf, IntKind.min, IntKind.max, IntKind.signed, IntKind.bits] at hby
    omega
  obtain ⟨b, rfl⟩ : ∃ b : Nat, by_ = (b : Int) := ⟨by_.toNat, by omega⟩
  unfold weirkeeperlaw03_StretchOrder.f
  have hj : ∀ x, (l.length ≤ 20 ∧ 0 < l.length) ∨ x = true → weirkeeperlaw03_StretchOrder.j0 2000 l (b : Int) x = some true := by
    intro x hx
    simp only [weirkeeperlaw03_StretchOrder.j0]
    split
    · rw [awake_f _ (by omega)]; rfl
    · rename_i hx1
      rcases hx with hx | hx
      · exact order_loop l b hx.1 hx.2 (by omega) l.length _ 0 [] (by omega) (by omega) rfl (by simp) (fun j hj => absurd hj (by omega))
      · exact absurd hx hx1
  split
  · exact hj _ (.inr rfl)
  · by_cases h0 : l.length = 0
    · exact hj _ (.inr (by simp [h0]))
    · exact hj _ (.inl ⟨by omega, by omega⟩)
end Go.Proofs.Ytbfhojfeolejlaa.Pure
