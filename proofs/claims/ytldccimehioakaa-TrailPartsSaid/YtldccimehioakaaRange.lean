/- Ranges, as the printed functions of package stretch tell them: which keys they have, and what any have in common. Plain facts on lists. -/
import Derived.Test.YtldccimehioakaaXx3
import Derived.Test.YtldccimehioakaaXx29
import Derived.Test.YtldccimehioakaaOrd
namespace Go.Proofs.Ytldccimehioakaa.Pl
open Go Go.RowKit Go.Proofs.Ytldccimehioakaa.X Go.Proofs.YtldccimehioakaaW Go.Proofs.YtldccimehioakaaW.PrintWords Go.Proofs.YtldccimehioakaaW.PrintMore

def inB (a b : ByteArray) (o : Bool) (k : ByteArray) : Bool := !decide (k.toList < a.toList) && (o || decide (k.toList < b.toList))
theorem In_f (a b : ByteArray) (o : Bool) (k : ByteArray) : stretch_In.f a b o k = some (inB a b o k) := by
  unfold stretch_In.f inB
  rw [bl_lt, bl_lt]
  by_cases h : k.toList < a.toList <;> cases o <;> simp [h]
def stepM (o : ByteArray × ByteArray × Bool) (r : S35) : ByteArray × ByteArray × Bool :=
  if r.f2 = true then (mxs o.1 r.f0, o.2.1, o.2.2) else if o.2.2 = true then (mxs o.1 r.f0, r.f1, false) else (mxs o.1 r.f0, mns o.2.1 r.f1, o.2.2)
def zM : ByteArray × ByteArray × Bool := (⟨#[]⟩, ⟨#[]⟩, true)
def meetB (l : List S35) : ByteArray × ByteArray × Bool := l.foldl stepM zM
theorem rd_at (l : List S35) (i : Nat) (h : i < l.length) : rd_T35 l (i : Int) = l[i] := by
  unfold rd_T35
  rw [Int.toNat_natCast, List.getD_eq_getElem?_getD, List.getElem?_eq_getElem h]
  rfl
theorem drop_at (l : List S35) (i : Nat) (h : i < l.length) : l.drop i = l[i] :: l.drop (i + 1) := List.drop_eq_getElem_cons h
theorem wrap_succ (i : Nat) (h : i ≤ 1000000000000) : wrap64 ((i : Int) + 1) = ((i + 1 : Nat) : Int) := by
  unfold wrap64
  omega
theorem Meet_l0 (l : List S35) (hl : l.length ≤ 1000000) (d : Nat) : ∀ (k i : Nat) (o : ByteArray × ByteArray × Bool), l.length = i + d → d < k → stretch_Meet.l0 k l (l.length : Int) (i : Int) o.1 o.2.1 o.2.2 = some ((l.drop i).foldl stepM o) := by
  induction d with
  | zero =>
    intro k i o hi hk
    obtain ⟨k, rfl⟩ : ∃ m, k = m + 1 := ⟨k - 1, by omega⟩
    simp only [stretch_Meet.l0]
    rw [if_neg (by omega), List.drop_eq_nil_of_le (by omega)]
    rfl
  | succ d ih =>
    intro k i o hi hk
    obtain ⟨k, rfl⟩ : ∃ m, k = m + 1 := ⟨k - 1, by omega⟩
    have hlt : i < l.length := by omega
    simp only [stretch_Meet.l0]
    rw [if_pos (by omega), if_pos (by omega), if_pos (by omega), rd_at l i hlt, wrap_succ i (by omega), drop_at l i hlt, List.foldl_cons]
    by_cases h1 : l[i].f2 = true
    · rw [if_pos h1, show stepM o l[i] = (mxs o.1 l[i].f0, o.2.1, o.2.2) from by unfold stepM; rw [if_pos h1]]
      exact ih k (i + 1) (mxs o.1 l[i].f0, o.2.1, o.2.2) (by omega) (by omega)
    · rw [if_neg h1]
      by_cases h2 : o.2.2 = true
      · rw [if_pos h2, show stepM o l[i] = (mxs o.1 l[i].f0, l[i].f1, false) from by unfold stepM; rw [if_neg h1, if_pos h2]]
        exact ih k (i + 1) (mxs o.1 l[i].f0, l[i].f1, false) (by omega) (by omega)
      · rw [if_neg h2, show stepM o l[i] = (mxs o.1 l[i].f0, mns o.2.1 l[i].f1, o.2.2) from by unfold stepM; rw [if_neg h1, if_neg h2]]
        exact ih k (i + 1) (mxs o.1 l[i].f0, mns o.2.1 l[i].f1, o.2.2) (by omega) (by omega)
theorem Meet_f (l : List S35) (hl : l.length ≤ 1000000) (k : Nat) (hk : l.length < k) : stretch_Meet.f k l = some (meetB l) := by
  have := Meet_l0 l hl l.length k 0 zM (by omega) hk
  exact this
theorem in_step (o : ByteArray × ByteArray × Bool) (r : S35) (k : ByteArray) : inB (stepM o r).1 (stepM o r).2.1 (stepM o r).2.2 k = (inB o.1 o.2.1 o.2.2 k && inB r.f0 r.f1 r.f2 k) := by
  obtain ⟨a, b, c⟩ := o
  obtain ⟨x, y, z⟩ := r
  unfold stepM inB
  rw [Bool.eq_iff_iff]
  cases c <;> cases z <;> simp [mxs_toList, mns_toList] <;> split <;> (try split) <;> grind
theorem in_meet_from (l : List S35) (o : ByteArray × ByteArray × Bool) (k : ByteArray) : inB (l.foldl stepM o).1 (l.foldl stepM o).2.1 (l.foldl stepM o).2.2 k = (inB o.1 o.2.1 o.2.2 k && l.all fun r => inB r.f0 r.f1 r.f2 k) := by
  induction l generalizing o with
  | nil => simp
  | cons r l ih => rw [List.foldl_cons, ih, in_step, List.all_cons, Bool.and_assoc]
theorem in_meet (l : List S35) (k : ByteArray) : inB (meetB l).1 (meetB l).2.1 (meetB l).2.2 k = l.all fun r => inB r.f0 r.f1 r.f2 k := by
  unfold meetB
  rw [in_meet_from]
  simp [zM, inB, toList_mk]
end Go.Proofs.Ytldccimehioakaa.Pl
