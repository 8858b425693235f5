/- The cache, plain: what Right, Put, Get and Clean answer, in lists. -/
import Derived.Test.YtgjngaeoojcioaaOrd
import Derived.Test.YtgjngaeoojcioaaXx9
import Derived.Test.YtgjngaeoojcioaaXx10
import Derived.Test.YtgjngaeoojcioaaXx11
import Derived.Test.YtgjngaeoojcioaaXx12
import Derived.Test.YtgjngaeoojcioaaXx13
namespace Go.Proofs.Ytgjngaeoojcioaa.Pl
open Go Go.RowKit Go.Proofs.Ytgjngaeoojcioaa.X Go.Proofs.YtgjngaeoojcioaaW Go.Proofs.YtgjngaeoojcioaaW.PrintWords Go.Proofs.YtgjngaeoojcioaaW.PrintLast Go.Proofs.YtgjngaeoojcioaaW.PrintMore
set_option linter.unusedVariables false
set_option linter.unusedSimpArgs false
theorem up {α : Type} {f : Nat → Option α} (h : ∀ k, LeO (f k) (f (k + 1))) {n k : Nat} (hnk : n ≤ k) {r : α} (hr : f n = some r) : f k = some r := by
  induction hnk with
  | refl => exact hr
  | step _ ih => exact h _ _ ih
theorem rd_at (l : List S27) (i : Nat) (h : i < l.length) : rd_T27 l (i : Int) = l[i] := by
  unfold rd_T27
  rw [Int.toNat_natCast, List.getD_eq_getElem?_getD, List.getElem?_eq_getElem h]
  rfl
theorem wrap_succ (i : Nat) (h : i ≤ 1000000000000) : wrap64 ((i : Int) + 1) = ((i + 1 : Nat) : Int) := by
  unfold wrap64
  omega
/-- What is a cache. -/
def GoodC (m : Int) (l : List S27) : Prop := (l.map (·.f0)).Nodup ∧ 1 ≤ m ∧ m ≤ 100 ∧ (l.length : Int) ≤ m
instance (m : Int) (l : List S27) : Decidable (GoodC m l) := by unfold GoodC; exact inferInstance
theorem placeI_eq (l : List S27) (j : Nat) (h : j < l.length) : placeI l l[j].f0 = (j : Int) ↔ ∀ i (hi : i < j), l[i].f0 ≠ l[j].f0 := by
  unfold placeI
  constructor
  · intro hp i hi he
    rcases hf : l.findIdx? (fun x => x.f0 == l[j].f0) with _ | q
    · rw [hf] at hp
      have hp : (-1 : Int) = (j : Int) := hp
      omega
    · rw [hf] at hp
      have hp : (q : Int) = (j : Int) := hp
      obtain rfl : q = j := by omega
      rw [List.findIdx?_eq_some_iff_getElem] at hf
      obtain ⟨_, _, hlt⟩ := hf
      have := hlt i hi
      simp [he] at this
  · intro hlt
    have : l.findIdx? (fun x => x.f0 == l[j].f0) = some j := by
      rw [List.findIdx?_eq_some_iff_getElem]
      exact ⟨h, by simp, fun i hi => by simpa using hlt i hi⟩
    rw [this]
open Classical in
theorem Right_l0 (m : Int) (l : List S27) (hl : l.length ≤ 1000000) (d : Nat) : ∀ (k i : Nat), l.length = i + d → d < k → cache_Right.l0 k l (l.length : Int) (i : Int) m l = some (decide ((∀ j (h : j < l.length), i ≤ j → placeI l l[j].f0 = (j : Int)) ∧ 1 ≤ m ∧ m ≤ 100 ∧ (l.length : Int) ≤ m)) := by
  induction d with
  | zero =>
    intro k i hi hk
    obtain ⟨k, rfl⟩ : ∃ q, k = q + 1 := ⟨k - 1, by omega⟩
    rw [cache_Right.l0, if_neg (by omega)]
    have hall : ∀ j (h : j < l.length), i ≤ j → placeI l l[j].f0 = (j : Int) := fun j h h2 => by omega
    by_cases h1 : m ≥ 1
    · by_cases h2 : m ≤ 100
      · rw [if_pos h1, if_pos h2]
        by_cases h3 : (l.length : Int) ≤ m
        · rw [decide_eq_true h3, decide_eq_true ⟨hall, h1, h2, h3⟩]
        · rw [decide_eq_false h3, decide_eq_false (fun h => h3 h.2.2.2)]
      · rw [if_pos h1, if_neg h2, decide_eq_false (fun h => h2 h.2.2.1)]
    · rw [if_neg h1, decide_eq_false (fun h => h1 h.2.1)]
  | succ d ih =>
    intro k i hi hk
    obtain ⟨k, rfl⟩ : ∃ q, k = q + 1 := ⟨k - 1, by omega⟩
    have hil : i < l.length := by omega
    rw [cache_Right.l0, if_pos (by omega), if_pos (by omega), if_pos (by omega), rd_at l i hil, wrap_succ i (by omega)]
    unfold cache_place.f
    rw [Option.bind_some]
    by_cases hp : placeI l l[i].f0 = (i : Int)
    · rw [if_pos hp, ih k (i + 1) (by omega) (by omega)]
      congr 1
      rw [decide_eq_decide]
      refine and_congr_left (fun _ => ⟨fun h j hj hij => ?_, fun h j hj hij => h j hj (by omega)⟩)
      rcases Nat.lt_or_ge i j with h2 | h2
      · exact h j hj (by omega)
      · obtain rfl : j = i := by omega
        exact hp
    · rw [if_neg hp, decide_eq_false (fun h => hp (h.1 i hil (Nat.le_refl _)))]
theorem Right_f (m : Int) (l : List S27) (hl : l.length ≤ 1000000) (k : Nat) (hk : l.length < k) : cache_Right.f k m l = some (decide (GoodC m l)) := by
  classical
  unfold cache_Right.f
  rw [show (0 : Int) = ((0 : Nat) : Int) from rfl, Right_l0 m l hl l.length k 0 (by omega) hk]
  congr 1
  rw [decide_eq_decide]
  unfold GoodC
  refine and_congr_left (fun _ => ?_)
  rw [List.Nodup, List.pairwise_iff_getElem]
  constructor
  · intro h i j hi hj hij
    simp only [List.length_map] at hi hj
    simp only [List.getElem_map]
    exact (placeI_eq l j hj).1 (h j hj (by omega)) i hij
  · intro h j hj _
    refine (placeI_eq l j hj).2 (fun i hi => ?_)
    have := h i j (by simpa using (by omega : i < l.length)) (by simpa using hj) hi
    simpa using this
/-- Items with one first. -/
def front (l : List S27) (x : S27) : List S27 := x :: l.filter fun y => !(y.f0 == x.f0)
theorem first_f (l : List S27) (hl : l.length ≤ 1000000) (x : S27) : cache_first.f l x.f0 x.f1 x.f2 = some (front l x) := by
  unfold cache_first.f
  rw [if_pos hl]
  rfl
theorem front_nodup {l : List S27} (h : (l.map (·.f0)).Nodup) (x : S27) : ((front l x).map (·.f0)).Nodup := by
  unfold front
  rw [List.map_cons, List.nodup_cons]
  constructor
  · intro hm
    rw [List.mem_map] at hm
    obtain ⟨y, hy, he⟩ := hm
    rw [List.mem_filter] at hy
    simp [he] at hy
  · exact h.sublist (List.filter_sublist.map _)
theorem front_len_le (l : List S27) (x : S27) : (front l x).length ≤ l.length + 1 := by
  unfold front
  have := List.length_filter_le (fun y : S27 => !(y.f0 == x.f0)) l
  simp
  omega
theorem filter_ne_self {l : List S27} {a : Int} (h : a ∉ l.map (·.f0)) : (l.filter fun y => !(y.f0 == a)) = l := by
  rw [List.filter_eq_self]
  intro y hy
  have : y.f0 ≠ a := fun e => h (by rw [← e]; exact List.mem_map_of_mem hy)
  simpa using this
/-- With an item's number in it, there are as many items behind it. -/
theorem front_len {l : List S27} (h : (l.map (·.f0)).Nodup) (x : S27) (hx : x.f0 ∈ l.map (·.f0)) : (front l x).length = l.length := by
  induction l with
  | nil => cases hx
  | cons y r ih =>
    rw [List.map_cons, List.nodup_cons] at h
    unfold front at ih ⊢
    by_cases he : y.f0 = x.f0
    · have h2 := filter_ne_self (l := r) (a := x.f0) (by rw [← he]; exact h.1)
      rw [List.filter_cons, if_neg (by simp [he]), h2]
      rfl
    · rw [List.map_cons, List.mem_cons] at hx
      have := ih h.2 (hx.resolve_left (fun e => he e.symm))
      rw [List.filter_cons, if_pos (by simpa using he)]
      simp only [List.length_cons] at this ⊢
      omega
theorem front_none {l : List S27} (x : S27) (hx : x.f0 ∉ l.map (·.f0)) : front l x = x :: l := by
  unfold front
  rw [filter_ne_self hx]
/-- One item is put: what there is then, and what went. -/
def putStep (m : Int) (s : List S27 × List S27) (x : S27) : List S27 × List S27 :=
  if ((front s.1 x).length : Int) > m then ((front s.1 x).dropLast, s.2 ++ (if ((front s.1 x).getLast (by simp [front])).f2 = true then [(front s.1 x).getLast (by simp [front])] else [])) else (front s.1 x, s.2)
theorem putStep_good {m : Int} {s : List S27 × List S27} (h : GoodC m s.1) (x : S27) : GoodC m (putStep m s x).1 := by
  obtain ⟨h1, h2, h3, h4⟩ := h
  have hn := front_nodup h1 x
  unfold putStep
  split
  · rename_i hgt
    refine ⟨hn.sublist ((List.dropLast_sublist _).map _), h2, h3, ?_⟩
    have := front_len_le s.1 x
    rw [List.length_dropLast]
    omega
  · exact ⟨hn, h2, h3, by show ((front s.1 x).length : Int) ≤ m; omega⟩
theorem putStep_out {m : Int} (s : List S27 × List S27) (x : S27) : (putStep m s x).2.length ≤ s.2.length + 1 := by
  unfold putStep
  split
  · rw [List.length_append]
    split <;> simp
  · show s.2.length ≤ _
    omega
theorem Put_l0 (m : Int) (items : List S27) (hi : items.length ≤ 1000000) (d : Nat) : ∀ (k i : Nat) (s : List S27 × List S27), items.length = i + d → d < k → GoodC m s.1 → s.2.length ≤ i →
    cache_Put.l0 k s.2 items (items.length : Int) (i : Int) m s.1 = some (m, ((items.drop i).foldl (putStep m) s).1, ((items.drop i).foldl (putStep m) s).2, 0) := by
  induction d with
  | zero =>
    intro k i s hd hk hg ho
    obtain ⟨k, rfl⟩ : ∃ q, k = q + 1 := ⟨k - 1, by omega⟩
    rw [cache_Put.l0, if_neg (by omega), List.drop_eq_nil_of_le (by omega)]
    rfl
  | succ d ih =>
    intro k i s hd hk hg ho
    obtain ⟨k, rfl⟩ : ∃ q, k = q + 1 := ⟨k - 1, by omega⟩
    have hil : i < items.length := by omega
    have hlen : s.1.length ≤ 100 := by have := hg.2.2; omega
    rw [cache_Put.l0, if_pos (by omega), if_pos (by omega), if_pos (by omega), rd_at items i hil, first_f s.1 (by omega), Option.bind_some, wrap_succ i (by omega), List.drop_eq_getElem_cons hil, List.foldl_cons]
    have hg2 := putStep_good hg items[i]
    have ho2 := putStep_out (m := m) s items[i]
    have hst := ih k (i + 1) (putStep m s items[i]) (by omega) (by omega) hg2 (by omega)
    rw [← hst]
    have hfl := front_len_le s.1 items[i]
    have hf0 : 0 < (front s.1 items[i]).length := by simp [front]
    clear hst hg2 ho2
    generalize hF : front s.1 items[i] = F at hfl hf0 ⊢
    have hw : wrap64 ((F.length : Int) - 1) = ((F.length - 1 : Nat) : Int) := by unfold wrap64; omega
    have hlast : rd_T27 F ((F.length - 1 : Nat) : Int) = F.getLast (by intro e; rw [e] at hf0; simp at hf0) := by
      rw [rd_at F (F.length - 1) (by omega), List.getLast_eq_getElem]
    have hne : F ≠ [] := by intro e; rw [e] at hf0; simp at hf0
    have hps : putStep m s items[i] = if ((F.length : Nat) : Int) > m then (F.dropLast, s.2 ++ (if (F.getLast hne).f2 = true then [F.getLast hne] else [])) else (F, s.2) := by
      subst hF
      rfl
    rw [hps]
    by_cases hgt : (F.length : Int) > m
    · rw [if_pos hgt, if_pos hgt, hw, if_pos (by omega), if_pos (by omega), hlast, Int.toNat_natCast, ← List.dropLast_eq_take]
      by_cases hd2 : (F.getLast hne).f2 = true
      · rw [if_pos hd2, if_pos hd2, if_pos (by omega), if_pos (by omega)]
      · rw [if_neg hd2, if_neg hd2, if_pos (by omega), List.append_nil]
    · rw [if_neg hgt, if_neg hgt]
theorem Put_f (m : Int) (l items : List S27) (hl : l.length ≤ 1000000) (hi : items.length ≤ 1000000) (k : Nat) (hk : l.length < k) (hk2 : items.length < k) :
    cache_Put.f k m l items = if GoodC m l then some (m, (items.foldl (putStep m) (l, [])).1, (items.foldl (putStep m) (l, [])).2, 0) else some (m, l, [], 1) := by
  unfold cache_Put.f
  rw [Right_f m l hl k hk, Option.bind_some]
  by_cases hg : GoodC m l
  · rw [if_pos (decide_eq_true hg), if_pos hg, show (0 : Int) = ((0 : Nat) : Int) from rfl]
    exact Put_l0 m items hi items.length k 0 (l, []) (by omega) hk2 hg (Nat.le_refl _)
  · rw [if_neg (by simpa using hg), if_neg hg]
theorem puts_good {m : Int} : ∀ (items : List S27) (s : List S27 × List S27), GoodC m s.1 → GoodC m (items.foldl (putStep m) s).1
  | [], s, h => h
  | x :: r, s, h => puts_good r _ (putStep_good h x)
theorem place_head (x : S27) (r : List S27) : placeI (x :: r) x.f0 = 0 := by
  have := (placeI_eq (x :: r) 0 (by simp)).2 (fun i hi => by omega)
  simpa using this
theorem place_cases (l : List S27) (a : Int) : (placeI l a = -1 ∧ a ∉ l.map (·.f0)) ∨ ∃ i : Nat, ∃ h : i < l.length, placeI l a = (i : Int) ∧ l[i].f0 = a := by
  unfold placeI
  rcases hf : l.findIdx? (fun x => x.f0 == a) with _ | q
  · left
    refine ⟨by rw [hf], fun hm => ?_⟩
    rw [List.findIdx?_eq_none_iff] at hf
    rw [List.mem_map] at hm
    obtain ⟨y, hy, he⟩ := hm
    have := hf y hy
    simp [he] at this
  · right
    have hf2 := hf
    rw [List.findIdx?_eq_some_iff_getElem] at hf
    obtain ⟨hq, hp, _⟩ := hf
    exact ⟨q, hq, by rw [hf2], by simpa using hp⟩
theorem Get_none (m : Int) (l : List S27) (a : Int) (k : Nat) (h : a ∉ l.map (·.f0)) : cache_Get.f k m l a = some (m, l, 0, ⟨#[]⟩, false, false) := by
  rcases place_cases l a with ⟨hp, _⟩ | ⟨i, hi, hp, he⟩
  · unfold cache_Get.f cache_place.f
    rw [Option.bind_some, if_pos (by omega)]
  · exact absurd (by rw [← he]; exact List.mem_map_of_mem (List.getElem_mem hi)) h
theorem Get_bad (m : Int) (l : List S27) (a : Int) (k : Nat) (hl : l.length ≤ 1000000) (hk : l.length < k) (h : ¬ GoodC m l) : cache_Get.f k m l a = some (m, l, 0, ⟨#[]⟩, false, false) := by
  unfold cache_Get.f cache_place.f
  rw [Option.bind_some]
  split
  · rfl
  · rw [Right_f m l hl k hk, Option.bind_some, if_neg (by simpa using h)]
theorem Get_at (m : Int) (l : List S27) (x : S27) (k : Nat) (hg : GoodC m l) (hk : l.length < k) (hx : x ∈ l) : cache_Get.f k m l x.f0 = some (m, front l x, x.f0, x.f1, x.f2, true) := by
  have hl : l.length ≤ 100 := by have := hg.2.2; omega
  rcases place_cases l x.f0 with ⟨hp, hn⟩ | ⟨i, hi, hp, he⟩
  · exact absurd (List.mem_map_of_mem hx) hn
  · have hxe : l[i] = x := by
      obtain ⟨j, hj, rfl⟩ := List.getElem_of_mem hx
      have h2 : (l.map (·.f0))[i]'(by simpa using hi) = (l.map (·.f0))[j]'(by simpa using hj) := by simpa using he
      have hpw := List.pairwise_iff_getElem.1 (show List.Pairwise (· ≠ ·) (l.map (·.f0)) from hg.1)
      rcases Nat.lt_trichotomy i j with h3 | h3 | h3
      · exact absurd h2 (hpw i j (by simpa using hi) (by simpa using hj) h3)
      · subst h3
        rfl
      · exact absurd h2.symm (hpw j i (by simpa using hj) (by simpa using hi) h3)
    unfold cache_Get.f cache_place.f
    rw [Option.bind_some, hp, if_neg (by omega), Right_f m l (by omega) k hk, Option.bind_some, if_pos (decide_eq_true hg), if_pos (by omega), if_pos (by omega), rd_at l i hi, hxe, first_f l (by omega), Option.bind_some]
/-- Used twice is used once. -/
theorem front_front (l : List S27) (x : S27) : front (front l x) x = front l x := by
  unfold front
  rw [List.filter_cons, if_neg (by simp), List.filter_filter]
  simp
theorem front_good {m : Int} {l : List S27} (hg : GoodC m l) (x : S27) (hx : x.f0 ∈ l.map (·.f0)) : GoodC m (front l x) := ⟨front_nodup hg.1 x, hg.2.1, hg.2.2.1, by rw [front_len hg.1 x hx]; exact hg.2.2.2⟩
theorem awake_at : weirkeeperlaw14_awake.f 12 = some true := by decide +kernel
theorem awake_f (k : Nat) (hk : 12 ≤ k) : weirkeeperlaw14_awake.f k = some true := up (fun k => weirkeeperlaw14_awake.mono k) hk awake_at
end Go.Proofs.Ytgjngaeoojcioaa.Pl
