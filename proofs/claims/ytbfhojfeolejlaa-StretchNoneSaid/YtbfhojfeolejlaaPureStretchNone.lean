/- StretchNone, plain. -/
import Derived.Test.YtbfhojfeolejlaaStateStretchNone
import Derived.Test.YtbfhojfeolejlaaStretch
namespace Go.Proofs.Ytbfhojfeolejlaa.Pure
open Go Go.RowKit Go.Proofs.Ytbfhojfeolejlaa.X Go.Proofs.Ytbfhojfeolejlaa.Pl Go.Proofs.YtbfhojfeolejlaaW Go.Proofs.YtbfhojfeolejlaaW.PrintWords Go.Proofs.YtbfhojfeolejlaaW.PrintLast Go.Proofs.YtbfhojfeolejlaaW.PrintMore

theorem empty_in {a b : ByteArray} {o : Bool} {k : ByteArray} (h1 : emptyB a b o = true) : inB a b o k = false := by
  revert h1
  unfold emptyB inB
  cases o <;> simp <;> grind
theorem empty_within {a b : ByteArray} {o : Bool} (c d : ByteArray) (p : Bool) (h1 : emptyB a b o = true) : withinB a b o c d p = true := by
  unfold withinB
  rw [h1]
  rfl
theorem meet_parts (a b : ByteArray) (o : Bool) (k : ByteArray) : emptyB (meetB [(⟨a, k, false⟩ : S25), (⟨k, b, o⟩ : S25)]).1 (meetB [(⟨a, k, false⟩ : S25), (⟨k, b, o⟩ : S25)]).2.1 (meetB [(⟨a, k, false⟩ : S25), (⟨k, b, o⟩ : S25)]).2.2 = true := by
  have e : meetB [(⟨a, k, false⟩ : S25), (⟨k, b, o⟩ : S25)] = (mxs a k, (if o then k else mns k b), false) := by cases o <;> simp [meetB, stepM, zM, mxs_nil]
  rw [e]
  unfold emptyB
  cases o <;> simp [mxs_toList, mns_toList] <;> (try split) <;> (try split) <;> grind
theorem parts_in (a b : ByteArray) (o : Bool) (k x : ByteArray) (h : inB a b o x = true) : (inB a k false x != inB k b o x) = true := by
  revert h
  unfold inB
  cases o <;> simp <;> grind
theorem j1_v1 (k : Nat) (hk : 10 ≤ k) (key a b : ByteArray) (o : Bool) (c d : ByteArray) (p : Bool) (hin : inB a b o c = true) : weirkeeperlaw03_StretchNone_v1.j1 (k + 1) key false a b o c d p = some true := by
  simp only [weirkeeperlaw03_StretchNone_v1.j1]
  rw [if_neg (by simp), Meet_f _ (by simp) k (by simp; omega), awake_f k (by omega)]
  simp only [Option.bind_some, In_f, Empty_f, meet_parts, hin, if_true, parts_in a b o key c hin]
theorem j1_v2 (k : Nat) (hk : 10 ≤ k) (key a b : ByteArray) (o : Bool) (c d : ByteArray) (p : Bool) (hin : inB a b o c = false) : weirkeeperlaw03_StretchNone_v2.j1 (k + 1) key false a b o c d p = some true := by
  simp only [weirkeeperlaw03_StretchNone_v2.j1]
  rw [if_neg (by simp), Meet_f _ (by simp) k (by simp; omega), awake_f k (by omega)]
  simp only [Option.bind_some, In_f, Empty_f, meet_parts, hin, if_true]
  rfl
theorem StretchNone : weirkeeperlaw03_StretchNone.Pure := by
  intro a b o c d p key _ _ _
  have h1 := @empty_in a b o key
  have h2 := @empty_within a b o c d p
  by_cases hg : a.size ≤ 300 ∧ b.size ≤ 300 ∧ c.size ≤ 300 ∧ d.size ≤ 300 ∧ key.size ≤ 300
  · obtain ⟨g1, g2, g3, g4, g7⟩ := hg
    right
    cases hin : inB a b o c
    · right
      refine ⟨12, ?_⟩
      have hj := j1_v2 10 (by omega) key a b o c d p hin
      unfold weirkeeperlaw03_StretchNone_v2.f weirkeeperlaw03_small.f
      rw [if_pos (by omega), if_pos (by omega)]
      simp only [Option.bind_some]
      rw [if_pos (by simp; omega), if_pos (by simp; omega)]
      simp only [weirkeeperlaw03_StretchNone_v2.j0, Within_f, In_f, Empty_f, Option.bind_some]
      rw [if_neg (by simp; omega)]
      revert h1 h2
      cases emptyB a b o <;> cases withinB a b o c d p <;> cases inB a b o key <;> simp [hj]
    · left
      refine ⟨12, ?_⟩
      have hj := j1_v1 10 (by omega) key a b o c d p hin
      unfold weirkeeperlaw03_StretchNone_v1.f weirkeeperlaw03_small.f
      rw [if_pos (by omega), if_pos (by omega)]
      simp only [Option.bind_some]
      rw [if_pos (by simp; omega), if_pos (by simp; omega)]
      simp only [weirkeeperlaw03_StretchNone_v1.j0, Within_f, In_f, Empty_f, Option.bind_some]
      rw [if_neg (by simp; omega)]
      revert h1 h2
      cases emptyB a b o <;> cases withinB a b o c d p <;> cases inB a b o key <;> simp [hj]
  · left
    refine ⟨12, ?_⟩
    have hj : weirkeeperlaw03_StretchNone_v0.j0 12 true = some true := by
      simp only [weirkeeperlaw03_StretchNone_v0.j0]
      rw [awake_f _ (by omega)]
      rfl
    unfold weirkeeperlaw03_StretchNone_v0.f weirkeeperlaw03_small.f
    by_cases c1 : (a.size : Int) ≤ 300
    · by_cases c2 : (b.size : Int) ≤ 300
      · by_cases c3 : (c.size : Int) ≤ 300
        · by_cases c4 : (d.size : Int) ≤ 300
          · rw [if_pos c1, if_pos c3]
            simp only [Option.bind_some]
            rw [if_pos (decide_eq_true c2), if_pos (decide_eq_true c4), show decide ((key.size : Int) > 300) = true from decide_eq_true (by omega)]
            exact hj
          · rw [if_pos c1, if_pos c3]
            simp [c2, c4, hj]
        · rw [if_pos c1, if_neg c3]
          simp [c2, hj]
      · rw [if_pos c1]
        simp [c2, hj]
    · rw [if_neg c1]
      simp [hj]
end Go.Proofs.Ytbfhojfeolejlaa.Pure
