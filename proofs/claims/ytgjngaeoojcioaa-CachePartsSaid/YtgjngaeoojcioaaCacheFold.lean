/- Puts one behind the other, plain: what is there, and what went. -/
import Derived.Test.YtgjngaeoojcioaaCache
namespace Go.Proofs.Ytgjngaeoojcioaa.Pl
open Go Go.RowKit Go.Proofs.Ytgjngaeoojcioaa.X Go.Proofs.YtgjngaeoojcioaaW Go.Proofs.YtgjngaeoojcioaaW.PrintWords Go.Proofs.YtgjngaeoojcioaaW.PrintLast Go.Proofs.YtgjngaeoojcioaaW.PrintMore
set_option linter.unusedVariables false
set_option linter.unusedSimpArgs false
theorem snoc_ind {α : Type} {motive : List α → Prop} (nil : motive []) (append_singleton : ∀ l x, motive l → motive (l ++ [x])) (l : List α) : motive l := by
  rw [← List.reverse_reverse l]
  induction l.reverse with
  | nil => exact nil
  | cons x r ih => rw [List.reverse_cons]; exact append_singleton _ _ ih
theorem putStep_gt {m : Int} {s : List S27 × List S27} {x : S27} {F : List S27} (hF : front s.1 x = F) (hne : F ≠ []) (hgt : (F.length : Int) > m) : putStep m s x = (F.dropLast, s.2 ++ (if (F.getLast hne).f2 = true then [F.getLast hne] else [])) := by
  subst hF
  unfold putStep
  rw [if_pos hgt]
theorem putStep_le {m : Int} {s : List S27 × List S27} {x : S27} {F : List S27} (hF : front s.1 x = F) (hgt : ¬ (F.length : Int) > m) : putStep m s x = (F, s.2) := by
  subst hF
  unfold putStep
  rw [if_neg hgt]
theorem putStep_split (m : Int) (l o : List S27) (x : S27) : putStep m (l, o) x = ((putStep m (l, []) x).1, o ++ (putStep m (l, []) x).2) := by
  unfold putStep
  split <;> simp
/-- What went before does not matter. -/
theorem puts_split (m : Int) (items : List S27) : ∀ (l o : List S27), items.foldl (putStep m) (l, o) = ((items.foldl (putStep m) (l, [])).1, o ++ (items.foldl (putStep m) (l, [])).2) := by
  induction items with
  | nil => intro l o; simp
  | cons x r ih =>
    intro l o
    rw [List.foldl_cons, List.foldl_cons, putStep_split m l o x, ih, ih (putStep m (l, []) x).1 (putStep m (l, []) x).2, List.append_assoc]
theorem puts_append (m : Int) (a b l : List S27) : (a ++ b).foldl (putStep m) (l, []) = ((b.foldl (putStep m) ((a.foldl (putStep m) (l, [])).1, [])).1, (a.foldl (putStep m) (l, [])).2 ++ (b.foldl (putStep m) ((a.foldl (putStep m) (l, [])).1, [])).2) := by
  rw [List.foldl_append]
  exact puts_split m b _ _
theorem puts_len (m : Int) (items : List S27) : ∀ s : List S27 × List S27, (items.foldl (putStep m) s).2.length ≤ s.2.length + items.length := by
  induction items with
  | nil => intro s; simp
  | cons x r ih =>
    intro s
    rw [List.foldl_cons]
    have h1 := ih (putStep m s x)
    have h2 := putStep_out (m := m) s x
    simp only [List.length_cons]
    omega
/-- Items of unlike numbers, all dirty: the last ones are there, the others went in their order. -/
theorem puts_apart (m : Nat) (hm : 1 ≤ m) (p : List S27) (hp : (p.map (·.f0)).Nodup) (hd : ∀ x ∈ p, x.f2 = true) : p.foldl (putStep m) ([], []) = (p.reverse.take m, p.take (p.length - m)) := by
  induction p using snoc_ind with
  | nil => simp
  | append_singleton p x ih =>
    rw [List.map_append, List.nodup_append] at hp
    obtain ⟨hp1, _, hp3⟩ := hp
    have hx : x.f0 ∉ p.map (·.f0) := fun h => hp3 _ h _ (by simp) rfl
    rw [List.foldl_append, ih hp1 (fun y hy => hd y (List.mem_append_left _ hy)), List.foldl_cons, List.foldl_nil]
    have hx2 : x.f0 ∉ (p.reverse.take m).map (·.f0) := by
      intro h
      obtain ⟨y, hy, he⟩ := List.mem_map.1 h
      exact hx (he ▸ List.mem_map_of_mem (List.mem_reverse.1 (List.mem_of_mem_take hy)))
    have hf : front (p.reverse.take m) x = x :: p.reverse.take m := front_none x hx2
    have hrev : (p ++ [x]).reverse = x :: p.reverse := by simp
    have hlen : (p ++ [x]).length = p.length + 1 := by simp
    rw [hrev, hlen]
    obtain ⟨m, rfl⟩ : ∃ q, m = q + 1 := ⟨m - 1, by omega⟩
    rw [List.take_succ_cons]
    have hFl : (x :: p.reverse.take (m + 1)).length = min (m + 1) p.length + 1 := by simp
    by_cases hgt : m + 1 ≤ p.length
    · rw [putStep_gt hf (by simp) (by rw [hFl]; omega)]
      have h1 : (x :: p.reverse.take (m + 1)).dropLast = x :: p.reverse.take m := by
        rw [List.dropLast_eq_take, hFl]
        simp only [Nat.min_eq_left hgt, Nat.add_sub_cancel, List.take_succ_cons, List.take_take]
        congr 2
        omega
      have h2 : ∀ h, (x :: p.reverse.take (m + 1)).getLast h = p[p.length - (m + 1)]'(by omega) := by
        intro h
        rw [List.getLast_eq_getElem]
        simp only [List.length_cons, List.length_take, List.length_reverse, Nat.min_eq_left hgt, Nat.add_sub_cancel, List.getElem_cons_succ, List.getElem_take, List.getElem_reverse]
        congr 1
        omega
      rw [h1, h2, if_pos (hd _ (List.mem_append_left _ (List.getElem_mem _))), ← List.take_succ_eq_append_getElem (by omega), List.take_append_of_le_length (by omega)]
      congr 2
      omega
    · rw [putStep_le hf (by rw [hFl]; omega)]
      refine Prod.ext ?_ ?_
      · show x :: p.reverse.take (m + 1) = x :: p.reverse.take m
        rw [List.take_of_length_le (by simp; omega), List.take_of_length_le (by simp; omega)]
      · show p.take (p.length - (m + 1)) = (p ++ [x]).take (p.length + 1 - (m + 1))
        rw [show p.length - (m + 1) = 0 by omega, show p.length + 1 - (m + 1) = 0 by omega]
        rfl
/-- The last of each number, the last one first. -/
def dd : List S27 → List S27
  | [] => []
  | x :: q => x :: (dd q).filter fun y => !(y.f0 == x.f0)
theorem dd_nodup : ∀ q : List S27, ((dd q).map (·.f0)).Nodup
  | [] => by simp [dd]
  | x :: q => front_nodup (dd_nodup q) x
theorem take_filter_one (k : Nat) (D : List S27) (hD : (D.map (·.f0)).Nodup) (a : Int) : ((D.take (k + 1)).filter fun y => !(y.f0 == a)).take k = (D.filter fun y => !(y.f0 == a)).take k := by
  by_cases hl : k + 1 ≤ D.length
  · have hlen : k ≤ ((D.take (k + 1)).filter fun y => !(y.f0 == a)).length := by
      have hn : ((D.take (k + 1)).map (·.f0)).Nodup := hD.sublist ((List.take_sublist _ _).map _)
      generalize hE : D.take (k + 1) = E at hn
      have hEl : E.length = k + 1 := by rw [← hE, List.length_take]; omega
      by_cases ha : a ∈ E.map (·.f0)
      · have := front_len hn ⟨a, ⟨#[]⟩, false⟩ ha
        unfold front at this
        simp only [List.length_cons] at this
        omega
      · rw [filter_ne_self ha]
        omega
    conv => rhs; rw [← List.take_append_drop (k + 1) D, List.filter_append, List.take_append_of_le_length hlen]
  · rw [List.take_of_length_le (show D.length ≤ k + 1 by omega)]
/-- Puts into an empty cache leave the last ones of unlike numbers. -/
theorem puts_last (m : Nat) (hm : 1 ≤ m) (p : List S27) : (p.foldl (putStep m) ([], [])).1 = (dd p.reverse).take m := by
  induction p using snoc_ind with
  | nil => simp [dd]
  | append_singleton p x ih =>
    rw [List.foldl_append, List.foldl_cons, List.foldl_nil]
    have hrev : (p ++ [x]).reverse = x :: p.reverse := by simp
    rw [hrev, dd]
    obtain ⟨m, rfl⟩ : ∃ q, m = q + 1 := ⟨m - 1, by omega⟩
    rw [List.take_succ_cons, ← take_filter_one m _ (dd_nodup _), ← ih]
    generalize (p.foldl (putStep ((m + 1 : Nat) : Int)) ([], [])) = s at ih ⊢
    have hsl : s.1.length ≤ m + 1 := by rw [ih, List.length_take]; omega
    have hf : front s.1 x = x :: s.1.filter fun y => !(y.f0 == x.f0) := rfl
    have hfl := List.length_filter_le (fun y : S27 => !(y.f0 == x.f0)) s.1
    unfold putStep
    split
    · rename_i hgt
      show (front s.1 x).dropLast = _
      rw [hf] at hgt ⊢
      simp only [List.length_cons] at hgt
      rw [List.dropLast_eq_take, List.length_cons, Nat.add_sub_cancel]
      have : (s.1.filter fun y => !(y.f0 == x.f0)).length = m + 1 := by omega
      rw [this, List.take_succ_cons]
    · rename_i hgt
      show front s.1 x = _
      rw [hf] at hgt ⊢
      simp only [List.length_cons] at hgt
      rw [List.take_of_length_le (by omega)]
end Go.Proofs.Ytgjngaeoojcioaa.Pl
