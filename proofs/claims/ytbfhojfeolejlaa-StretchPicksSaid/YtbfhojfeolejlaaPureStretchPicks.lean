/- StretchPicks, plain: picked twice is picked from what both have; nothing is picked that was not there. -/
import Derived.Test.YtbfhojfeolejlaaStateStretchPicks
import Derived.Test.YtbfhojfeolejlaaStretch
namespace Go.Proofs.Ytbfhojfeolejlaa.Pure
open Go Go.RowKit Go.Proofs.Ytbfhojfeolejlaa.X Go.Proofs.Ytbfhojfeolejlaa.Pl Go.Proofs.YtbfhojfeolejlaaW Go.Proofs.YtbfhojfeolejlaaW.PrintWords Go.Proofs.YtbfhojfeolejlaaW.PrintLast Go.Proofs.YtbfhojfeolejlaaW.PrintMore
set_option linter.unusedVariables false
set_option linter.unusedSimpArgs false
theorem inR_eq (a b : ByteArray) (o : Bool) (k : ByteArray) : Pick.inR a b o k = inB a b o k := by
  unfold Pick.inR inB
  rw [bl_lt, bl_lt]
theorem Pick_f (a b : ByteArray) (o : Bool) (l : List S42) (hl : l.length ≤ 1000000) : stretch_Pick.f a b o l = some (l.filter fun x => inB a b o x.f0) := by
  unfold stretch_Pick.f
  rw [if_pos hl]
  congr 1
  apply List.filter_congr
  intro x _
  rw [inR_eq, Bool.not_not]
theorem rdp_at (l : List S42) (i : Nat) (h : i < l.length) : rd_T42 l (i : Int) = l[i] := by
  unfold rd_T42
  rw [Int.toNat_natCast, List.getD_eq_getElem?_getD, List.getElem?_eq_getElem h]
  rfl
theorem Same_l0 (l : List S42) (hl : l.length ≤ 1000000) (d : Nat) : ∀ (k i : Nat), l.length = i + d → d < k → weirkeeperref03_Same.l0 k l l (i : Int) = some true := by
  induction d with
  | zero =>
    intro k i hi hk
    obtain ⟨k, rfl⟩ : ∃ q, k = q + 1 := ⟨k - 1, by omega⟩
    rw [weirkeeperref03_Same.l0, if_neg (by omega)]
  | succ d ih =>
    intro k i hi hk
    obtain ⟨k, rfl⟩ : ∃ q, k = q + 1 := ⟨k - 1, by omega⟩
    have hil : i < l.length := by omega
    rw [weirkeeperref03_Same.l0, if_pos (by omega), if_pos (by omega), if_pos (by omega), rdp_at l i hil, wrap_succ i (by omega), if_neg (by simp)]
    exact ih k (i + 1) (by omega) (by omega)
theorem Same_f (l l' : List S42) (hl : l.length ≤ 1000000) (k : Nat) (hk : l.length < k) (h : l = l') : weirkeeperref03_Same.f k l l' = some true := by
  subst h
  unfold weirkeeperref03_Same.f
  rw [if_pos rfl]
  exact Same_l0 l hl l.length k 0 (by omega) hk
theorem picks_j0 (a b : S25) (l : List S42) (t : Bool) (h : t = false → l.length ≤ 60) (k : Nat) (hk : 100 ≤ k) : weirkeeperlaw03_StretchPicks.j0 (k + 1) l t a.f0 a.f1 a.f2 b.f0 b.f1 b.f2 = some true := by
  rw [weirkeeperlaw03_StretchPicks.j0]
  cases t
  · have hl := h rfl
    have hf : ∀ (p : S42 → Bool), (l.filter p).length ≤ 60 := fun p => Nat.le_trans (List.length_filter_le p l) hl
    have hff : ∀ (p q : S42 → Bool), ((l.filter p).filter q).length ≤ 60 := fun p q => Nat.le_trans (List.length_filter_le q _) (hf p)
    rw [if_neg (by simp), Pick_f b.f0 b.f1 b.f2 l (by omega), Option.bind_some, Pick_f a.f0 a.f1 a.f2 _ (by have := hf (fun x => inB b.f0 b.f1 b.f2 x.f0); omega), Option.bind_some, Pick_f a.f0 a.f1 a.f2 l (by omega), Option.bind_some, Pick_f b.f0 b.f1 b.f2 _ (by have := hf (fun x => inB a.f0 a.f1 a.f2 x.f0); omega), Option.bind_some]
    have h1 : (l.filter fun x => inB b.f0 b.f1 b.f2 x.f0).filter (fun x => inB a.f0 a.f1 a.f2 x.f0) = (l.filter fun x => inB a.f0 a.f1 a.f2 x.f0).filter (fun x => inB b.f0 b.f1 b.f2 x.f0) := by
      rw [List.filter_filter, List.filter_filter]
      apply List.filter_congr
      intro x _
      exact Bool.and_comm _ _
    rw [Same_f _ _ (by have := hff (fun x => inB b.f0 b.f1 b.f2 x.f0) (fun x => inB a.f0 a.f1 a.f2 x.f0); omega) k (by have := hff (fun x => inB b.f0 b.f1 b.f2 x.f0) (fun x => inB a.f0 a.f1 a.f2 x.f0); omega) h1, Option.bind_some, if_pos rfl]
    have ea : (⟨a.f0, a.f1, a.f2⟩ : S25) = a := rfl
    have eb : (⟨b.f0, b.f1, b.f2⟩ : S25) = b := rfl
    rw [ea, eb, Meet_f [a, b] (by simp) k (by simp; omega), Option.bind_some, Pick_f _ _ _ l (by omega), Option.bind_some]
    have h2 : (l.filter fun x => inB b.f0 b.f1 b.f2 x.f0).filter (fun x => inB a.f0 a.f1 a.f2 x.f0) = l.filter fun x => inB (meetB [a, b]).1 (meetB [a, b]).2.1 (meetB [a, b]).2.2 x.f0 := by
      rw [List.filter_filter]
      apply List.filter_congr
      intro x _
      rw [in_meet]
      simp
    rw [Same_f _ _ (by have := hff (fun x => inB b.f0 b.f1 b.f2 x.f0) (fun x => inB a.f0 a.f1 a.f2 x.f0); omega) k (by have := hff (fun x => inB b.f0 b.f1 b.f2 x.f0) (fun x => inB a.f0 a.f1 a.f2 x.f0); omega) h2, Option.bind_some, if_pos rfl, Pick_f _ _ _ l (by omega), Option.bind_some]
    have h3 : (l.filter fun x => inB (⟨#[]⟩ : ByteArray) (⟨#[]⟩ : ByteArray) true x.f0) = l := by
      rw [List.filter_eq_self]
      intro x _
      simp [inB, toList_mk]
    rw [h3, Same_f l l (by omega) k (by omega) rfl, Option.bind_some, if_pos rfl, awake_f k (by omega)]
    rfl
  · rw [if_pos rfl, awake_f k (by omega)]
    rfl
theorem small_f (a b : ByteArray) (o : Bool) : ∃ t, weirkeeperlaw03_small.f a b o = some t := by
  unfold weirkeeperlaw03_small.f
  repeat' split
  all_goals exact ⟨_, rfl⟩
theorem StretchPicks : weirkeeperlaw03_StretchPicks.Pure := by
  intro a0 a1 a2 b0 b1 b2 l _ _ _
  obtain ⟨K, hK⟩ : ∃ K : Nat, K = 200 := ⟨_, rfl⟩
  refine ⟨K + 1, ?_⟩
  unfold weirkeeperlaw03_StretchPicks.f
  obtain ⟨s, hs⟩ := small_f a0 a1 a2
  obtain ⟨t, ht⟩ := small_f b0 b1 b2
  have hj := fun t h => picks_j0 ⟨a0, a1, a2⟩ ⟨b0, b1, b2⟩ l t h K (by omega)
  rw [hs, Option.bind_some, ht]
  cases s
  · rw [if_neg (by simp)]
    exact hj true (by simp)
  · rw [if_pos rfl, Option.bind_some]
    cases t
    · rw [if_neg (by simp)]
      exact hj true (by simp)
    · rw [if_pos rfl]
      exact hj _ (fun h => by have h2 := of_decide_eq_false h; omega)
end Go.Proofs.Ytbfhojfeolejlaa.Pure
