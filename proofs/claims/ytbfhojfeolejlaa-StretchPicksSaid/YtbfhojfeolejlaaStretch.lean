/- What the printed functions of the statements on ranges come to: plain facts. -/
import Derived.Test.YtbfhojfeolejlaaXx4
import Derived.Test.YtbfhojfeolejlaaRange
namespace Go.Proofs.Ytbfhojfeolejlaa.Pl
open Go Go.RowKit Go.Proofs.Ytbfhojfeolejlaa.X Go.Proofs.YtbfhojfeolejlaaW Go.Proofs.YtbfhojfeolejlaaW.PrintWords Go.Proofs.YtbfhojfeolejlaaW.PrintMore

theorem refIn_f (a b : ByteArray) (o : Bool) (k : ByteArray) : weirkeeperref03_In.f a b o k = some (inB a b o k) := by
  unfold weirkeeperref03_In.f inB
  rw [bl_lt, bl_lt]
  by_cases h : k.toList < a.toList <;> cases o <;> simp [h]
def emptyB (a b : ByteArray) (o : Bool) : Bool := !o && !decide (a.toList < b.toList)
theorem leB (x y : ByteArray) : (Op.bytesLess x.toList y.toList || x.toList == y.toList) = !decide (y.toList < x.toList) := by
  rw [bl_lt, Bool.eq_iff_iff]
  simp
  grind
theorem gtB (x y : ByteArray) : (!Op.bytesLess x.toList y.toList && !(x.toList == y.toList)) = decide (y.toList < x.toList) := by
  rw [bl_lt, Bool.eq_iff_iff]
  simp
  grind
theorem Empty_f (a b : ByteArray) (o : Bool) : stretch_Empty.f a b o = some (emptyB a b o) := by
  unfold stretch_Empty.f emptyB
  rw [leB]
  cases o <;> simp
def withinB (a b : ByteArray) (o : Bool) (c d : ByteArray) (p : Bool) : Bool := emptyB a b o || (!decide (a.toList < c.toList) && (p || (!o && !decide (d.toList < b.toList))))
theorem Within_f (a b : ByteArray) (o : Bool) (c d : ByteArray) (p : Bool) : stretch_Within.f a b o c d p = some (withinB a b o c d p) := by
  unfold stretch_Within.f withinB
  rw [Empty_f, leB, bl_lt]
  simp only [Option.bind_some]
  cases emptyB a b o <;> cases o <;> cases p <;> by_cases h : a.toList < c.toList <;> simp [h]
def z0 : ByteArray := ⟨#[0]⟩
theorem Behind_f (a b : ByteArray) (o : Bool) (k : ByteArray) (h : k.size ≤ 1000000) : stretch_Behind.f a b o k = some (mxs a (k ++ z0), b, o) := by
  unfold stretch_Behind.f z0
  rw [if_pos (by omega)]
theorem Right_f (a b : ByteArray) (o : Bool) : stretch_Right.f a b o = some (decide (a.size ≤ 16) && (decide (b.size ≤ 17) && (!o || b.toList == ([] : List UInt8)))) := by
  unfold stretch_Right.f
  by_cases h1 : a.size ≤ 16
  · rw [if_pos (by omega)]
    by_cases h2 : b.size ≤ 17
    · rw [if_pos (by omega)]
      cases o <;> simp [h1, h2]
    · rw [if_neg (by omega)]
      simp [h2]
  · rw [if_neg (by omega)]
    simp [h1]
theorem mxs_eq {x y z : ByteArray} (h : (if x.toList < y.toList then y.toList else x.toList) = z.toList) : mxs x y = z := toList_inj (by rw [mxs_toList]; exact h)
theorem awake_meet : meetB [(⟨(⟨#[97]⟩ : ByteArray), (⟨#[]⟩ : ByteArray), true⟩ : S25), (⟨(⟨#[]⟩ : ByteArray), (⟨#[99]⟩ : ByteArray), false⟩ : S25)] = ((⟨#[97]⟩ : ByteArray), (⟨#[99]⟩ : ByteArray), false) := by
  have h1 : mxs (⟨#[]⟩ : ByteArray) (⟨#[97]⟩ : ByteArray) = ⟨#[97]⟩ := mxs_eq (by simp [toList_mk])
  have h2 : mxs (⟨#[97]⟩ : ByteArray) (⟨#[]⟩ : ByteArray) = ⟨#[97]⟩ := mxs_eq (by simp [toList_mk])
  simp [meetB, stepM, zM, h1, h2]
theorem awake_f (k : Nat) (hk : 3 ≤ k) : weirkeeperlaw03_awake.f k = some true := by
  unfold weirkeeperlaw03_awake.f
  rw [Meet_f _ (by simp) k (by simp; omega), awake_meet]
  simp only [Option.bind_some, In_f, Within_f, Empty_f, Right_f, Behind_f _ _ _ (⟨#[98]⟩ : ByteArray) (by decide)]
  have h3 : mxs (⟨#[97]⟩ : ByteArray) ((⟨#[98]⟩ : ByteArray) ++ z0) = ⟨#[98, 0]⟩ := mxs_eq (by simp [toList_mk, toList_append, z0]; decide)
  rw [h3]
  simp [inB, withinB, emptyB, toList_mk, ByteArray.size]
  decide
/-! ### What ranges have in common: the order does not matter -/
theorem mxs_comm (x y : ByteArray) : mxs x y = mxs y x := toList_inj (by simp only [mxs_toList]; grind)
theorem mxs_right (x y z : ByteArray) : mxs (mxs x y) z = mxs (mxs x z) y := toList_inj (by simp only [mxs_toList]; grind)
theorem mns_right (x y z : ByteArray) : mns (mns x y) z = mns (mns x z) y := toList_inj (by simp only [mns_toList]; grind)
theorem mns_comm (x y : ByteArray) : mns x y = mns y x := toList_inj (by simp only [mns_toList]; grind)
theorem mxs_twice (x y : ByteArray) : mxs (mxs x y) y = mxs x y := toList_inj (by simp only [mxs_toList]; grind)
theorem mns_twice (x y : ByteArray) : mns (mns x y) y = mns x y := toList_inj (by simp only [mns_toList]; grind)
theorem mns_self (x : ByteArray) : mns x x = x := toList_inj (by simp only [mns_toList]; grind)
theorem mxs_self (x : ByteArray) : mxs x x = x := toList_inj (by simp only [mxs_toList]; grind)
theorem mxs_nil (x : ByteArray) : mxs ⟨#[]⟩ x = x := mxs_eq (by
  rw [toList_mk]
  cases h : x.toList <;> simp)
theorem step_right (o : ByteArray × ByteArray × Bool) (a b : S25) : stepM (stepM o a) b = stepM (stepM o b) a := by
  obtain ⟨l, h, p⟩ := o
  obtain ⟨a0, a1, a2⟩ := a
  obtain ⟨b0, b1, b2⟩ := b
  cases p <;> cases a2 <;> cases b2 <;> simp [stepM, mxs_right l a0 b0, mns_right h a1 b1, mns_comm a1 b1]
theorem step_twice (o : ByteArray × ByteArray × Bool) (a : S25) : stepM (stepM o a) a = stepM o a := by
  obtain ⟨l, h, p⟩ := o
  obtain ⟨a0, a1, a2⟩ := a
  cases p <;> cases a2 <;> simp [stepM, mxs_twice, mns_twice, mns_self]
theorem step_fold (l : List S25) (o : ByteArray × ByteArray × Bool) (a : S25) : stepM (l.foldl stepM o) a = l.foldl stepM (stepM o a) := by
  induction l generalizing o with
  | nil => rfl
  | cons r l ih => rw [List.foldl_cons, List.foldl_cons, ih, step_right]
theorem step_in (l : List S25) (o : ByteArray × ByteArray × Bool) (a : S25) (h : a ∈ l) : stepM (l.foldl stepM o) a = l.foldl stepM o := by
  induction l generalizing o with
  | nil => simp at h
  | cons r l ih =>
    rw [List.foldl_cons]
    rcases List.mem_cons.1 h with rfl | h
    · rw [step_fold, step_twice]
    · exact ih _ h
theorem fold_in (l l' : List S25) (o : ByteArray × ByteArray × Bool) (h : ∀ a ∈ l', a ∈ l) : l'.foldl stepM (l.foldl stepM o) = l.foldl stepM o := by
  induction l' with
  | nil => rfl
  | cons r l' ih =>
    rw [List.foldl_cons, step_in l o r (h r (by simp))]
    exact ih fun a ha => h a (by simp [ha])
theorem fold_comm (l l' : List S25) (o : ByteArray × ByteArray × Bool) : l'.foldl stepM (l.foldl stepM o) = l.foldl stepM (l'.foldl stepM o) := by
  induction l' generalizing o with
  | nil => rfl
  | cons r l' ih => rw [List.foldl_cons, List.foldl_cons, step_fold, ih]
/-- Ranges that are the same, in whatever order, and however often, have the same in common. -/
theorem meet_same (l l' : List S25) (h : ∀ a ∈ l', a ∈ l) (h' : ∀ a ∈ l, a ∈ l') : meetB l' = meetB l := by
  unfold meetB
  rw [← fold_in l l' zM h, fold_comm, fold_in l' l zM h']
theorem meet_open (l : List S25) (o : ByteArray × ByteArray × Bool) (ho : o.2.2 = true → o.2.1 = ⟨#[]⟩) : (l.foldl stepM o).2.2 = true → (l.foldl stepM o).2.1 = ⟨#[]⟩ := by
  induction l generalizing o with
  | nil => exact ho
  | cons r l ih =>
    rw [List.foldl_cons]
    refine ih _ ?_
    unfold stepM
    split
    · exact ho
    · split
      · simp
      · rename_i h
        intro h'
        exact absurd h' h
theorem meet_twice (l : List S25) : meetB [⟨(meetB l).1, (meetB l).2.1, (meetB l).2.2⟩, ⟨(meetB l).1, (meetB l).2.1, (meetB l).2.2⟩] = meetB l := by
  have h : (meetB l).2.2 = true → (meetB l).2.1 = ⟨#[]⟩ := meet_open l zM (fun _ => rfl)
  have h1 : ∀ m : ByteArray × ByteArray × Bool, (m.2.2 = true → m.2.1 = ⟨#[]⟩) → stepM zM ⟨m.1, m.2.1, m.2.2⟩ = m := by
    rintro ⟨a, b, c⟩ hm
    cases c
    · simp [stepM, zM, mxs_nil]
    · have hb : b = ⟨#[]⟩ := hm rfl
      subst hb
      simp [stepM, zM, mxs_nil]
  have h1 := h1 _ h
  show stepM (stepM zM _) _ = _
  rw [step_twice, h1]
end Go.Proofs.Ytbfhojfeolejlaa.Pl
