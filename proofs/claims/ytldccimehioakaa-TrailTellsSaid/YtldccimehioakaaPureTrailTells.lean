/- TrailTells, plain: whether any changes are a trail, the last Seq, those since any one, those that are left behind any, and the newest, are what the document says, or nothing. -/
import Derived.Test.YtldccimehioakaaStateTrailTells
import Derived.Test.YtldccimehioakaaTrailRefs
namespace Go.Proofs.Ytldccimehioakaa.Pure
open Go Go.RowKit Go.Proofs.Ytldccimehioakaa.X Go.Proofs.Ytldccimehioakaa.Pl Go.Proofs.YtldccimehioakaaW Go.Proofs.YtldccimehioakaaW.PrintWords Go.Proofs.YtldccimehioakaaW.PrintLast Go.Proofs.YtldccimehioakaaW.PrintMore
set_option linter.unusedVariables false
set_option linter.unusedSimpArgs false
/-- The last one's Seq, of any changes. -/
def lastOf (l : List S30) : Int := match l.getLast? with | some x => x.f0 | none => 0
theorem tells_l0 (l : List S30) (hl : l.length ≤ 60) (hr : RightP l) (s m : Int) (rs : List S35) (hrs : rs.length ≤ 10) (d : Nat) : ∀ (K i : Nat), l.length = i + d → d + 30000 ≤ K →
    weirkeeperlaw16_TrailTells.l0 K l s m rs (sinceB l s m rs) (dropB l s) (newestB l s) (lastOf (l.take i)) l (l.length : Int) (i : Int) = some true := by
  induction d with
  | zero =>
    intro K i hi hK
    obtain ⟨q, rfl⟩ : ∃ q, K = q + 1 := ⟨K - 1, by omega⟩
    have h1 := since_le l s m rs
    have h2 := drop_le l s
    have h3 := newest_le l s
    have e1 : sinceB l s m rs = (l.filter (above s rs)).take m.toNat := by unfold sinceB; rw [if_pos hr]
    have e2 : dropB l s = l.filter (fun x => decide (s < x.f0)) := by unfold dropB; rw [if_pos hr]
    have e3 : newestB l s = l.filter (fun x => !old s l x) := by unfold newestB; rw [if_pos hr]
    have e4 : lastB l = lastOf l := by unfold lastB lastOf; rw [if_pos hr]; cases l.getLast? <;> rfl
    rw [weirkeeperlaw16_TrailTells.l0, if_neg (by omega), List.take_of_length_le (by omega), refSince_f l (by omega) s m rs (by omega) q (by omega), Option.bind_some, Same_f _ _ (by omega) q (by omega) e1, Option.bind_some, if_pos rfl]
    rw [refDrop_f l (by omega) s q (by omega), Option.bind_some, Same_f _ _ (by omega) q (by omega) e2, Option.bind_some, if_pos rfl, refNewest_f l (by omega) hr s q (by omega), Option.bind_some, Same_f _ _ (by omega) q (by omega) e3, Option.bind_some, if_pos rfl]
    rw [Last_f l (by omega) q (by omega), Option.bind_some, if_pos e4, awake_f q (by omega)]
    rfl
  | succ d ih =>
    intro K i hi hK
    obtain ⟨q, rfl⟩ : ∃ q, K = q + 1 := ⟨K - 1, by omega⟩
    have hil : i < l.length := by omega
    have hnext := ih q (i + 1) (by omega) (by omega)
    have hlast : lastOf (l.take (i + 1)) = l[i].f0 := by
      unfold lastOf
      have hc : ∀ (p : List S30) (x : S30), (p ++ [x]).getLast? = some x := fun p x => by simp
      rw [List.take_succ_eq_append_getElem hil, hc]
    rw [hlast] at hnext
    rw [weirkeeperlaw16_TrailTells.l0, if_pos (by omega), if_pos (by omega), if_pos (by omega), rdc_at l i hil, wrap_succ i (by omega)]
    exact hnext
theorem tells_j0 (l : List S30) (hok : ∀ x ∈ l, Newest.okC x) (s m : Int) (rs : List S35) (t : Bool) (h : t = false → l.length ≤ 60 ∧ rs.length ≤ 10) (k : Nat) (hk : 40000 ≤ k) : weirkeeperlaw16_TrailTells.j0 (k + 1) l s m rs t = some true := by
  rw [weirkeeperlaw16_TrailTells.j0]
  cases t
  · obtain ⟨hl, hrs⟩ := h rfl
    rw [if_neg (by simp), Since_f l (by omega) s m rs (by omega) k (by omega) (by omega), Option.bind_some, Drop_f l (by omega) s k (by omega), Option.bind_some, Newest_f l (by omega) hok s k (by omega), Option.bind_some, refRight_f l (by omega) k (by omega), Option.bind_some, Right_f l (by omega) k (by omega), Option.bind_some, if_neg (by simp)]
    by_cases hr : RightP l
    · rw [if_pos (decide_eq_true hr)]
      have := tells_l0 l hl hr s m rs hrs l.length k 0 (by omega) (by omega)
      exact this
    · have e1 : sinceB l s m rs = [] := by unfold sinceB; rw [if_neg hr]
      have e2 : dropB l s = [] := by unfold dropB; rw [if_neg hr]
      have e3 : newestB l s = [] := by unfold newestB; rw [if_neg hr]
      have e4 : lastB l = 0 := by unfold lastB; rw [if_neg hr]
      have e5 : wrap64 (wrap64 ((([] : List S30).length : Int) + (([] : List S30).length : Int)) + (([] : List S30).length : Int)) = 0 := by unfold wrap64; rfl
      rw [if_neg (by simpa using hr), e1, e2, e3, if_pos e5, Last_f l (by omega) k (by omega), Option.bind_some, if_pos e4, awake_f k (by omega)]
      rfl
  · rw [if_pos rfl, awake_f k (by omega)]
    rfl
theorem TrailTells : weirkeeperlaw16_TrailTells.Pure := by
  intro l s m rs hok _ _ _
  obtain ⟨K, hK⟩ : ∃ K : Nat, K = 50000 := ⟨_, rfl⟩
  refine ⟨K + 1, ?_⟩
  unfold weirkeeperlaw16_TrailTells.f
  have hj := fun t h => tells_j0 l (ok_of hok) s m rs t h K (by omega)
  obtain ⟨t, ht, hf⟩ := few_f l (K + 1) (by omega)
  rw [ht, Option.bind_some]
  cases t
  · rw [if_neg (by simp)]
    exact hj true (by simp)
  · obtain ⟨hl, _⟩ := hf rfl
    rw [if_pos rfl]
    exact hj _ (fun h => ⟨hl, by have h2 := of_decide_eq_false h; omega⟩)
end Go.Proofs.Ytldccimehioakaa.Pure
