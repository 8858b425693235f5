/- The law's 'same', plain. -/
import Derived.Test.YtgjngaeoojcioaaCache
import Derived.Test.YtgjngaeoojcioaaXx17
import Derived.Test.YtgjngaeoojcioaaXx18
import Derived.Test.YtgjngaeoojcioaaXx21
import Derived.Test.YtgjngaeoojcioaaXx22
namespace Go.Proofs.Ytgjngaeoojcioaa.Pl
open Go Go.RowKit Go.Proofs.Ytgjngaeoojcioaa.X Go.Proofs.YtgjngaeoojcioaaW Go.Proofs.YtgjngaeoojcioaaW.PrintWords Go.Proofs.YtgjngaeoojcioaaW.PrintLast Go.Proofs.YtgjngaeoojcioaaW.PrintMore
def re (x : S27) : S33 := ⟨x.f0, x.f1, x.f2⟩
theorem refs_l0 (l : List S27) (hl : l.length ≤ 1000000) (d : Nat) : ∀ (k i : Nat), l.length = i + d → d < k → weirkeeperlaw14_refs.l0 k ((l.take i).map re) l (l.length : Int) (i : Int) = some (l.map re) := by
  induction d with
  | zero =>
    intro k i hi hk
    obtain ⟨k, rfl⟩ : ∃ q, k = q + 1 := ⟨k - 1, by omega⟩
    rw [weirkeeperlaw14_refs.l0, if_neg (by omega), List.take_of_length_le (by omega)]
  | succ d ih =>
    intro k i hi hk
    obtain ⟨k, rfl⟩ : ∃ q, k = q + 1 := ⟨k - 1, by omega⟩
    have hil : i < l.length := by omega
    rw [weirkeeperlaw14_refs.l0, if_pos (by omega), if_pos (by omega), if_pos (by omega), if_pos (by simp; omega), rd_at l i hil, wrap_succ i (by omega), ← ih k (i + 1) (by omega) (by omega), List.take_succ_eq_append_getElem hil, List.map_append]
    rfl
theorem refs_f (l : List S27) (hl : l.length ≤ 1000000) (k : Nat) (hk : l.length < k) : weirkeeperlaw14_refs.f k l = some (l.map re) := by
  unfold weirkeeperlaw14_refs.f
  exact refs_l0 l hl l.length k 0 (by omega) hk
theorem ref_f (m : Int) (l : List S27) (hl : l.length ≤ 1000000) (k : Nat) (hk : l.length < k) : weirkeeperlaw14_ref.f k m l = some (m, l.map re) := by
  unfold weirkeeperlaw14_ref.f
  rw [refs_f l hl k hk]
  rfl
theorem rd_at33 (l : List S33) (i : Nat) (h : i < l.length) : rd_T33 l (i : Int) = l[i] := by
  unfold rd_T33
  rw [Int.toNat_natCast, List.getD_eq_getElem?_getD, List.getElem?_eq_getElem h]
  rfl
theorem ne_33 (x y : S33) : (!(x.f0 == y.f0) || (!(x.f1.toList == y.f1.toList) || !(x.f2 == y.f2))) = true ↔ x ≠ y := by
  obtain ⟨a, b, c⟩ := x
  obtain ⟨a', b', c'⟩ := y
  have hb : b.toList = b'.toList ↔ b = b' := ⟨fun h => toList_inj h, fun h => by rw [h]⟩
  by_cases h1 : a = a' <;> by_cases h2 : b = b' <;> by_cases h3 : c = c' <;> simp [h1, h2, h3, hb]
open Classical in
theorem Same_l0 (l l' : List S33) (hl : l.length ≤ 1000000) (he : l.length = l'.length) (d : Nat) : ∀ (k i : Nat), l.length = i + d → d < k → weirkeeperref14_Same.l0 k l l' (i : Int) = some (decide (l.drop i = l'.drop i)) := by
  induction d with
  | zero =>
    intro k i hi hk
    obtain ⟨k, rfl⟩ : ∃ q, k = q + 1 := ⟨k - 1, by omega⟩
    rw [weirkeeperref14_Same.l0, if_neg (by omega), List.drop_eq_nil_of_le (by omega), List.drop_eq_nil_of_le (by omega)]
    simp
  | succ d ih =>
    intro k i hi hk
    obtain ⟨k, rfl⟩ : ∃ q, k = q + 1 := ⟨k - 1, by omega⟩
    have hil : i < l.length := by omega
    have hil' : i < l'.length := by omega
    rw [weirkeeperref14_Same.l0, if_pos (by omega), if_pos (by omega), if_pos (by omega), rd_at33 l i hil, rd_at33 l' i hil', wrap_succ i (by omega), List.drop_eq_getElem_cons hil, List.drop_eq_getElem_cons hil']
    by_cases hne : l[i] = l'[i]
    · rw [if_neg (fun h => (ne_33 _ _).1 h hne), ih k (i + 1) (by omega) (by omega), hne]
      congr 1
      rw [decide_eq_decide]
      simp only [List.cons.injEq, true_and]
    · rw [if_pos ((ne_33 _ _).2 hne), decide_eq_false]
      intro h
      injection h with h1 _
      exact hne h1
theorem Same_f (l l' : List S33) (hl : l.length ≤ 1000000) (k : Nat) (hk : l.length < k) (h : l = l') : weirkeeperref14_Same.f k l l' = some true := by
  classical
  subst h
  unfold weirkeeperref14_Same.f
  rw [if_pos rfl, show (0 : Int) = ((0 : Nat) : Int) from rfl, Same_l0 l l hl rfl l.length k 0 (by omega) hk]
  simp
theorem same_f (m : Int) (l : List S27) (hl : l.length ≤ 1000000) (k : Nat) (hk : l.length < k) : weirkeeperlaw14_same.f k m l m (l.map re) = some true := by
  unfold weirkeeperlaw14_same.f
  rw [if_pos rfl, refs_f l hl k hk, Option.bind_some, Same_f _ _ (by simpa using hl) k (by simpa using hk) rfl]
  rfl
end Go.Proofs.Ytgjngaeoojcioaa.Pl
