/- Words of our own: an argument of whatever kind (numbers, bools, strings, structs, slices of these), opened into the printer's reading of it. -/
import Derived.Test.YtgjngaeoojcioaaWMore
import Derived.Test.YtgjngaeoojcioaaRows
import Derived.Deep.Slices
import Derived.Deep.Fields
import Derived.ChangeSame
import Derived.WalkKit
import Derived.ProofKit
import Derived.OpenShut
import Derived.ShutString
import Derived.ChangeOld
import Derived.Below
import Derived.SizedLaws
namespace Go.Proofs.YtgjngaeoojcioaaW.Open
open Go.RowKit Go.ChangeShapes Go.WideShapes Go.Deep Go.Proofs.YtgjngaeoojcioaaW.PrintWords
set_option linter.unusedVariables false

/-- What a reading of type t tells: the printer's kind d holds of the cells, for a datum that is well formed (ok). -/
def Opens {α : Type} (P : Program) (t : TypeId) (d : Kd α) (ok : α → Prop) : Prop :=
  ∀ {H : Type} {enc : TypeId × Value → H} {w : World} {base : Nat} {spare : Nat → Bool} {held : Bool} {fuel : Nat} {cs : List Value} {x : DataW H × List MemPlace}, DataW.trod enc P w base spare held fuel t cs = some x → ∃ v : α, d.K w v cs ∧ ok v

theorem choose_list {α : Type} {p : Nat → α → Prop} (n : Nat) (h : ∀ i, i < n → ∃ v, p i v) : ∃ l : List α, l.length = n ∧ ∀ i v, l[i]? = some v → p i v := by
  induction n with
  | zero => exact ⟨[], rfl, fun i v hv => by simp at hv⟩
  | succ n ih =>
    obtain ⟨l, hl, hp⟩ := ih (fun i hi => h i (by omega))
    obtain ⟨v, hv⟩ := h n (by omega)
    refine ⟨l ++ [v], by simp [hl], fun i u hu => ?_⟩
    by_cases hi : i < l.length
    · rw [List.getElem?_append_left hi] at hu
      exact hp i u hu
    · rw [List.getElem?_append_right (by omega)] at hu
      have h0 : i - l.length = 0 := by
        have := (List.getElem?_eq_some_iff.1 hu).1
        simp at this
        omega
      rw [h0] at hu
      simp at hu
      subst hu
      have : i = n := by omega
      subst this
      exact hv
def okInt (k : IntKind) (n : Int) : Prop := (Lit.int k n).wf = true
def okStr (s : ByteArray) : Prop := s.size ≤ maxLen
def okBool (_ : Bool) : Prop := True
def okList {α : Type} (ok : α → Prop) (l : List α) : Prop := l.length ≤ maxLen ∧ ∀ x ∈ l, ok x

theorem opens_int {P : Program} {t : TypeId} {k : IntKind} (ht : P.underlying t = some (.int k)) : Opens P t (Kd.int k) (okInt k) := by
  intro H enc w base spare held fuel cs x h
  obtain ⟨n, rfl, _, hw⟩ := DataW.trod_int ht h
  exact ⟨n, rfl, hw⟩
theorem opens_bool {P : Program} {t : TypeId} (ht : P.underlying t = some .bool) : Opens P t Kd.bool okBool := by
  intro H enc w base spare held fuel cs x h
  obtain ⟨b, rfl, _⟩ := DataW.trod_bool ht h
  exact ⟨b, rfl, trivial⟩
theorem opens_str {P : Program} {t : TypeId} (ht : P.underlying t = some .string) : Opens P t Kd.string okStr := by
  intro H enc w base spare held fuel cs x h
  obtain ⟨s, rfl, _, hs⟩ := DataW.trod_string ht h
  exact ⟨s, rfl, hs⟩
theorem opens_slice {α : Type} {P : Program} {t e : TypeId} {d : Kd α} {ok : α → Prop} (ht : P.underlying t = some (.slice e)) (hc : P.cellsOf e = d.sz) (ho : Opens P e d ok) : Opens P t (Kd.slice e d) (okList ok) := by
  intro H enc w base spare held fuel cs x h
  rcases open_slice ht h with ⟨rfl, _⟩ | ⟨a, len, cap, m, n, D, Pl, rfl, hb, hl, hm, hmm, _, hi⟩
  · exact ⟨[], ⟨none, 0, rfl, Nat.le_refl _, rfl, by simp, fun h => absurd h (by simp)⟩, by simp [okList]⟩
  · have hml : len ≤ m := by rw [hmm]; split <;> omega
    have hx : ∀ i, i < len → ∃ v : α, ok v ∧ ∃ c : List Value, c.length = d.sz ∧ d.K w v c ∧ ∀ j u, c[j]? = some u → w.cell? (a.add (i * d.sz + j)) = some u := by
      intro i hil
      obtain ⟨cs', hcs, ht'⟩ := hi i (by omega)
      obtain ⟨v, hK, hok⟩ := ho ht'
      rw [hc] at hcs
      obtain ⟨_, hcl, hat⟩ := World.cells?_some hcs
      refine ⟨v, hok, cs', hcl, hK, fun j u hj => ?_⟩
      have hjl : j < d.sz := by rw [← hcl]; exact (List.getElem?_eq_some_iff.1 hj).1
      have := hat j hjl
      rw [← Go.Deep.add_add, this, hj]
    obtain ⟨l, hll, hV⟩ := choose_list (p := fun i v => ok v ∧ ∃ c : List Value, c.length = d.sz ∧ d.K w v c ∧ ∀ j u, c[j]? = some u → w.cell? (a.add (i * d.sz + j)) = some u) len hx
    refine ⟨l, ⟨some a, cap, by rw [hll], by rw [hll]; exact hl, rfl, by rw [hll]; unfold maxLen at hm; omega, fun _ => ⟨a, rfl, fun j p hj => (hV j p hj).2⟩⟩, by rw [hll]; omega, ?_⟩
    intro x hx'
    obtain ⟨i, hi', rfl⟩ := List.getElem_of_mem hx'
    exact (hV i _ (List.getElem?_eq_getElem hi')).1
/-- A slice argument. -/
theorem arg_slice {α : Type} {P : Program} {t e : TypeId} {d : Kd α} {ok : α → Prop} {H : Type} {enc : TypeId × Value → H} {w : World} {base : Nat} {spare : Nat → Bool} {held : Bool} {r : Reach} {b0 : Nat} {v : Value} {x : DataW H} {p : List MemPlace}
    (ht : P.underlying t = some (.slice e)) (hc : P.cellsOf e = d.sz) (ho : Opens P e d ok) (hv : Value.okWide P w r b0 t v) (h : DataW.Trod enc P w base spare held t v x p) :
    ∃ (A : Option Addr) (c : Nat) (l : List α), v = .slice A l.length c ∧ d.C w A l.length l ∧ l.length ≤ c ∧ okList ok l := by
  obtain ⟨a0, len, cap, rfl⟩ := okWide_slice ht hv
  obtain ⟨fuel, hf⟩ := h
  obtain ⟨l, ⟨A, c, he, hle, hC⟩, hok⟩ := opens_slice ht hc ho hf
  simp [Value.cells] at he
  obtain ⟨rfl, rfl, rfl⟩ := he
  exact ⟨_, _, l, rfl, hC, hle, hok⟩
/-- A struct argument: its cells. -/
theorem arg_struct {α : Type} {P : Program} {t : TypeId} {d : Kd α} {ok : α → Prop} {H : Type} {enc : TypeId × Value → H} {w : World} {base : Nat} {spare : Nat → Bool} {held : Bool} {r : Reach} {b0 : Nat} {v : Value} {x : DataW H} {p : List MemPlace} {fs : Array Field}
    (ht : P.underlying t = some (.struct fs)) (ho : Opens P t d ok) (hv : Value.okWide P w r b0 t v) (h : DataW.Trod enc P w base spare held t v x p) :
    ∃ (a : α) (cs : List Value), v = .agg cs.toArray ∧ d.K w a cs ∧ ok a := by
  obtain ⟨cs, rfl, _⟩ := okWide_struct ht hv
  obtain ⟨fuel, hf⟩ := h
  obtain ⟨a, hK, hok⟩ := ho hf
  exact ⟨a, cs.toList, by simp, by simpa [Value.cells] using hK, hok⟩
end Go.Proofs.YtgjngaeoojcioaaW.Open
