/- StretchWithin, plain. -/
import Derived.Test.YtbfhojfeolejlaaStateStretchWithin
import Derived.Test.YtbfhojfeolejlaaStretch
namespace Go.Proofs.Ytbfhojfeolejlaa.Pure
open Go Go.RowKit Go.Proofs.Ytbfhojfeolejlaa.X Go.Proofs.Ytbfhojfeolejlaa.Pl Go.Proofs.YtbfhojfeolejlaaW Go.Proofs.YtbfhojfeolejlaaW.PrintWords Go.Proofs.YtbfhojfeolejlaaW.PrintLast Go.Proofs.YtbfhojfeolejlaaW.PrintMore

theorem within_trans {a b : ByteArray} {o : Bool} {c d : ByteArray} {p : Bool} {e f : ByteArray} {q : Bool} (h1 : withinB a b o c d p = true) (h2 : withinB c d p e f q = true) : withinB a b o e f q = true := by
  revert h1 h2
  unfold withinB emptyB
  cases o <;> cases p <;> cases q <;> simp <;> grind
theorem within_in {a b : ByteArray} {o : Bool} {c d : ByteArray} {p : Bool} {k : ByteArray} (h1 : withinB a b o c d p = true) (h2 : inB a b o k = true) : inB c d p k = true := by
  revert h1 h2
  unfold withinB emptyB inB
  cases o <;> cases p <;> simp <;> grind
theorem empty_in {a b : ByteArray} {o : Bool} {k : ByteArray} (h1 : emptyB a b o = true) : inB a b o k = false := by
  revert h1
  unfold emptyB inB
  cases o <;> simp <;> grind
theorem meet_two (a b : ByteArray) (o : Bool) (c d : ByteArray) (p : Bool) : meetB [(⟨a, b, o⟩ : S25), (⟨c, d, p⟩ : S25)] = (mxs a c, (if o then (if p then ⟨#[]⟩ else d) else if p then b else mns b d), o && p) := by
  cases o <;> cases p <;> simp [meetB, stepM, zM, mxs_nil]
theorem meet_within (a b : ByteArray) (o : Bool) (c d : ByteArray) (p : Bool) : withinB (meetB [(⟨a, b, o⟩ : S25), (⟨c, d, p⟩ : S25)]).1 (meetB [(⟨a, b, o⟩ : S25), (⟨c, d, p⟩ : S25)]).2.1 (meetB [(⟨a, b, o⟩ : S25), (⟨c, d, p⟩ : S25)]).2.2 a b o = true ∧ withinB (meetB [(⟨a, b, o⟩ : S25), (⟨c, d, p⟩ : S25)]).1 (meetB [(⟨a, b, o⟩ : S25), (⟨c, d, p⟩ : S25)]).2.1 (meetB [(⟨a, b, o⟩ : S25), (⟨c, d, p⟩ : S25)]).2.2 c d p = true := by
  rw [meet_two]
  unfold withinB emptyB
  cases o <;> cases p <;> simp [mxs_toList, mns_toList] <;> constructor <;> (try split) <;> (try split) <;> grind
theorem behind_in (a b : ByteArray) (o : Bool) (k x : ByteArray) : inB (mxs a (k ++ z0)) b o x = (inB a b o x && decide (k.toList < x.toList)) := by
  unfold inB
  have h := lt_snoc_zero k.toList x.toList
  rw [Bool.eq_iff_iff]
  cases o <;> simp [mxs_toList, toList_append, z0, toList_mk] <;> split <;> grind
theorem j1_v1 (k : Nat) (hk : 10 ≤ k) (x3 x4 a b : ByteArray) (o : Bool) (c d : ByteArray) (p : Bool) (hs : x3.size ≤ 1000000) (hin : inB a b o x4 = true) : weirkeeperlaw03_StretchWithin_v1.j1 (k + 1) x3 x4 false a b o c d p = some true := by
  simp only [weirkeeperlaw03_StretchWithin_v1.j1]
  rw [if_neg (by simp), Meet_f _ (by simp) k (by simp; omega), Behind_f _ _ _ _ hs, awake_f k (by omega)]
  simp only [Option.bind_some, Within_f, In_f, Empty_f, (meet_within a b o c d p).1, (meet_within a b o c d p).2, behind_in, hin, if_true, Bool.true_and, gtB]
  cases h : emptyB a b o
  · simp
  · simp [empty_in h]
theorem j1_v2 (k : Nat) (hk : 10 ≤ k) (x3 x4 a b : ByteArray) (o : Bool) (c d : ByteArray) (p : Bool) (hs : x3.size ≤ 1000000) (hin : inB a b o x4 = false) : weirkeeperlaw03_StretchWithin_v2.j1 (k + 1) x3 x4 false a b o c d p = some true := by
  simp only [weirkeeperlaw03_StretchWithin_v2.j1]
  rw [if_neg (by simp), Meet_f _ (by simp) k (by simp; omega), Behind_f _ _ _ _ hs, awake_f k (by omega)]
  simp only [Option.bind_some, Within_f, In_f, Empty_f, (meet_within a b o c d p).1, (meet_within a b o c d p).2, behind_in, hin, if_true, Bool.false_and, beq_self_eq_true]
  cases h : emptyB a b o
  · simp
  · simp [empty_in h]
theorem StretchWithin : weirkeeperlaw03_StretchWithin.Pure := by
  intro a b o c d p e f q key x _ _ _ _ _
  have h1 := @within_trans a b o c d p e f q
  have h2 := @within_in a b o c d p key
  by_cases hg : a.size ≤ 300 ∧ b.size ≤ 300 ∧ c.size ≤ 300 ∧ d.size ≤ 300 ∧ e.size ≤ 300 ∧ f.size ≤ 300 ∧ key.size ≤ 300 ∧ x.size ≤ 300
  · obtain ⟨g1, g2, g3, g4, g5, g6, g7, g8⟩ := hg
    have hk : key.size ≤ 1000000 := by omega
    right
    cases hin : inB a b o x
    · right
      refine ⟨12, ?_⟩
      have hj := j1_v2 10 (by omega) key x a b o c d p hk hin
      unfold weirkeeperlaw03_StretchWithin_v2.f weirkeeperlaw03_small.f
      rw [if_pos (by omega), if_pos (by omega), if_pos (by omega)]
      simp only [Option.bind_some]
      rw [if_pos (by simp; omega), if_pos (by simp; omega), if_pos (by simp; omega), if_neg (by omega)]
      simp only [weirkeeperlaw03_StretchWithin_v2.j0, Within_f, In_f, Option.bind_some]
      rw [if_neg (by simp; omega)]
      revert h1 h2
      cases withinB a b o c d p <;> cases withinB c d p e f q <;> cases withinB a b o e f q <;> cases inB a b o key <;> cases inB c d p key <;> simp [hj]
    · left
      refine ⟨12, ?_⟩
      have hj := j1_v1 10 (by omega) key x a b o c d p hk hin
      unfold weirkeeperlaw03_StretchWithin_v1.f weirkeeperlaw03_small.f
      rw [if_pos (by omega), if_pos (by omega), if_pos (by omega)]
      simp only [Option.bind_some]
      rw [if_pos (by simp; omega), if_pos (by simp; omega), if_pos (by simp; omega), if_neg (by omega)]
      simp only [weirkeeperlaw03_StretchWithin_v1.j0, Within_f, In_f, Option.bind_some]
      rw [if_neg (by simp; omega)]
      revert h1 h2
      cases withinB a b o c d p <;> cases withinB c d p e f q <;> cases withinB a b o e f q <;> cases inB a b o key <;> cases inB c d p key <;> simp [hj]
  · left
    refine ⟨12, ?_⟩
    have hj : weirkeeperlaw03_StretchWithin_v0.j0 12 true = some true := by
      simp only [weirkeeperlaw03_StretchWithin_v0.j0]
      rw [awake_f _ (by omega)]
      rfl
    unfold weirkeeperlaw03_StretchWithin_v0.f weirkeeperlaw03_small.f
    by_cases c1 : (a.size : Int) ≤ 300
    · by_cases c2 : (b.size : Int) ≤ 300
      · by_cases c3 : (c.size : Int) ≤ 300
        · by_cases c4 : (d.size : Int) ≤ 300
          · by_cases c5 : (e.size : Int) ≤ 300
            · by_cases c6 : (f.size : Int) ≤ 300
              · rw [if_pos c1, if_pos c3, if_pos c5]
                simp only [Option.bind_some]
                rw [if_pos (decide_eq_true c2), if_pos (decide_eq_true c4), if_pos (decide_eq_true c6)]
                split
                · exact hj
                · rw [show decide ((x.size : Int) > 300) = true from decide_eq_true (by omega)]
                  exact hj
              · rw [if_pos c1, if_pos c3, if_pos c5]
                simp [c2, c4, c6, hj]
            · rw [if_pos c1, if_pos c3, if_neg c5]
              simp [c2, c4, hj]
          · rw [if_pos c1, if_pos c3]
            simp [c2, c4, hj]
        · rw [if_pos c1, if_neg c3]
          simp [c2, hj]
      · rw [if_pos c1]
        simp [c2, hj]
    · rw [if_neg c1]
      simp [hj]
end Go.Proofs.Ytbfhojfeolejlaa.Pure
