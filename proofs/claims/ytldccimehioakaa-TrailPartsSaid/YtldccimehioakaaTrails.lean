/- Trails, plain: what few, Right, Last, Since, Drop and Newest answer, in lists. -/
import Derived.Test.YtldccimehioakaaRange
import Derived.Test.YtldccimehioakaaXopen
import Derived.Test.YtldccimehioakaaXx2
import Derived.Test.YtldccimehioakaaXx14
import Derived.Test.YtldccimehioakaaXx15
import Derived.Test.YtldccimehioakaaXx18
namespace Go.Proofs.Ytldccimehioakaa.Pl
open Go Go.RowKit Go.Proofs.Ytldccimehioakaa.X Go.Proofs.YtldccimehioakaaW Go.Proofs.YtldccimehioakaaW.PrintWords Go.Proofs.YtldccimehioakaaW.PrintLast Go.Proofs.YtldccimehioakaaW.PrintMore
set_option linter.unusedVariables false
set_option linter.unusedSimpArgs false
theorem up {α : Type} {f : Nat → Option α} (h : ∀ k, LeO (f k) (f (k + 1))) {n k : Nat} (hnk : n ≤ k) {r : α} (hr : f n = some r) : f k = some r := by
  induction hnk with
  | refl => exact hr
  | step _ ih => exact h _ _ ih
theorem snoc_ind {α : Type} {motive : List α → Prop} (nil : motive []) (snoc : ∀ l x, motive l → motive (l ++ [x])) (l : List α) : motive l := by
  rw [← List.reverse_reverse l]
  induction l.reverse with
  | nil => exact nil
  | cons x r ih => rw [List.reverse_cons]; exact snoc _ _ ih
theorem rdc_at (l : List S30) (i : Nat) (h : i < l.length) : rd_T30 l (i : Int) = l[i] := by
  unfold rd_T30
  rw [Int.toNat_natCast, List.getD_eq_getElem?_getD, List.getElem?_eq_getElem h]
  rfl
theorem wrap_pred (i : Nat) (h : i ≤ 1000000000000) : wrap64 (((i + 1 : Nat) : Int) - 1) = (i : Int) := by
  unfold wrap64
  omega
/-! ### few -/
theorem few_l0 (l : List S30) (hl : l.length ≤ 60) (d : Nat) : ∀ (k i : Nat), l.length = i + d → d < k → ∃ t, weirkeeperlaw16_few.l0 k l (l.length : Int) (i : Int) = some t ∧ (t = true → ∀ x ∈ l.drop i, x.f1.size ≤ 300) := by
  induction d with
  | zero =>
    intro k i hi hk
    obtain ⟨k, rfl⟩ : ∃ q, k = q + 1 := ⟨k - 1, by omega⟩
    refine ⟨true, ?_, fun _ x hx => ?_⟩
    · rw [weirkeeperlaw16_few.l0, if_neg (by omega)]
    · rw [List.drop_eq_nil_of_le (by omega)] at hx
      cases hx
  | succ d ih =>
    intro k i hi hk
    obtain ⟨k, rfl⟩ : ∃ q, k = q + 1 := ⟨k - 1, by omega⟩
    have hil : i < l.length := by omega
    rw [weirkeeperlaw16_few.l0, if_pos (by omega), if_pos (by omega), if_pos (by omega), rdc_at l i hil, wrap_succ i (by omega)]
    obtain ⟨t, h1, h2⟩ := ih k (i + 1) (by omega) (by omega)
    by_cases ha : (l[i].f1.size : Int) > 300
    · exact ⟨false, by rw [if_pos ha], fun h => by cases h⟩
    · rw [if_neg ha]
      by_cases hb : (l[i].f3.size : Int) > 300
      · exact ⟨false, by rw [if_pos hb], fun h => by cases h⟩
      · rw [if_neg hb]
        by_cases hc : (l[i].f5.size : Int) > 300
        · exact ⟨false, by rw [if_pos hc], fun h => by cases h⟩
        · rw [if_neg hc]
          refine ⟨t, h1, fun ht x hx => ?_⟩
          rw [List.drop_eq_getElem_cons hil] at hx
          rcases List.mem_cons.1 hx with rfl | hx
          · omega
          · exact h2 ht x hx
theorem few_f (l : List S30) (k : Nat) (hk : 100 ≤ k) : ∃ t, weirkeeperlaw16_few.f k l = some t ∧ (t = true → l.length ≤ 60 ∧ ∀ x ∈ l, x.f1.size ≤ 300) := by
  unfold weirkeeperlaw16_few.f
  by_cases hl : (l.length : Int) > 60
  · exact ⟨false, by rw [if_pos hl], fun h => by cases h⟩
  · rw [if_neg hl]
    obtain ⟨t, h1, h2⟩ := few_l0 l (by omega) l.length k 0 (by omega) (by omega)
    exact ⟨t, h1, fun ht => ⟨by omega, h2 ht⟩⟩
/-! ### May -/
def mayB (x : S30) : Bool := decide (x.f1.size ≤ 16) && (decide (x.f3.size ≤ 32) && (decide (x.f5.size ≤ 32) && (decide (1 ≤ x.f0) && (decide (x.f0 ≤ 2147483647) && ((x.f2 || decide (x.f3.toList = [])) && ((x.f4 || decide (x.f5.toList = [])) && (x.f2 || x.f4)))))))
theorem leaf_one (a b : ByteArray) (k : Nat) (hk : 2 ≤ k) : leaf_Right.f k [(⟨a, b⟩ : S49)] = some (decide (a.size ≤ 16) && decide (b.size ≤ 32)) := by
  obtain ⟨q, rfl⟩ : ∃ q, k = q + 2 := ⟨k - 2, by omega⟩
  have h0 : rd_T49 [(⟨a, b⟩ : S49)] 0 = ⟨a, b⟩ := rfl
  have hw : wrap64 ((0 : Int) + 1) = 1 := by unfold wrap64; rfl
  have hl : (([(⟨a, b⟩ : S49)] : List S49).length : Int) = 1 := rfl
  unfold leaf_Right.f
  rw [leaf_Right.l0, hl, if_pos (by omega), if_pos (by omega), if_pos (by omega), h0]
  by_cases h1 : a.size ≤ 16
  · rw [if_neg (show ¬ (a.size : Int) > 16 by omega)]
    by_cases h2 : b.size ≤ 32
    · rw [if_neg (show ¬ (b.size : Int) > 32 by omega), if_neg (by omega), hw, leaf_Right.l0, if_neg (by omega)]
      simp [h1, h2]
    · rw [if_pos (show (b.size : Int) > 32 by omega)]
      simp [h2]
  · rw [if_pos (show (a.size : Int) > 16 by omega)]
    simp [h1]
theorem May_f (x : S30) (k : Nat) (hk : 2 ≤ k) : flat_May.f k x.f0 x.f1 x.f2 x.f3 x.f4 x.f5 = some (mayB x) := by
  obtain ⟨a, b, c, d, e, f⟩ := x
  unfold flat_May.f mayB
  rw [leaf_one b d k hk, Option.bind_some, leaf_one b f k hk, Option.bind_some]
  by_cases h1 : b.size ≤ 16 <;> by_cases h2 : d.size ≤ 32 <;> by_cases h3 : f.size ≤ 32 <;> by_cases h4 : 1 ≤ a <;> by_cases h5 : a ≤ 2147483647 <;> cases c <;> cases e <;> by_cases h6 : d.toList = [] <;> by_cases h7 : f.toList = [] <;> simp [h1, h2, h3, h4, h5, h6, h7]
theorem may_pos {x : S30} (h : mayB x = true) : 1 ≤ x.f0 := by
  unfold mayB at h
  simp only [Bool.and_eq_true, decide_eq_true_eq] at h
  exact h.2.2.2.1
/-! ### Right -/
def Step (l : List S30) (j : Nat) (h : j < l.length) : Prop := mayB l[j] = true ∧ (∀ h0 : 0 < j, (l[j - 1]'(by omega)).f0 < l[j].f0)
def RightP (l : List S30) : Prop := (∀ x ∈ l, mayB x = true) ∧ l.Pairwise (fun a b => a.f0 < b.f0)
instance (l : List S30) : Decidable (RightP l) := by unfold RightP; exact inferInstance
theorem right_iff (l : List S30) : (∀ j h, Step l j h) ↔ RightP l := by
  constructor
  · intro h
    refine ⟨fun x hx => ?_, ?_⟩
    · obtain ⟨j, hj, rfl⟩ := List.getElem_of_mem hx
      exact (h j hj).1
    · rw [List.pairwise_iff_getElem]
      intro i j hi hj hij
      induction j with
      | zero => omega
      | succ j ih =>
        have h1 := (h (j + 1) hj).2 (by omega)
        rcases Nat.lt_or_ge i j with h2 | h2
        · exact Int.lt_trans (ih (by omega) h2) h1
        · obtain rfl : i = j := by omega
          exact h1
  · rintro ⟨h1, h2⟩ j hj
    refine ⟨h1 _ (List.getElem_mem hj), fun h0 => ?_⟩
    exact (List.pairwise_iff_getElem.1 h2) (j - 1) j (by omega) hj (by omega)
open Classical in
theorem Right_l0 (l : List S30) (hl : l.length ≤ 1000000) (d : Nat) : ∀ (k i : Nat), l.length = i + d → d + 2 ≤ k → trail_Right.l0 k l l (l.length : Int) (i : Int) = some (decide (∀ j h, i ≤ j → Step l j h)) := by
  induction d with
  | zero =>
    intro k i hi hk
    obtain ⟨k, rfl⟩ : ∃ q, k = q + 1 := ⟨k - 1, by omega⟩
    rw [trail_Right.l0, if_neg (by omega), decide_eq_true (fun j h hij => by omega)]
  | succ d ih =>
    intro k i hi hk
    obtain ⟨k, rfl⟩ : ∃ q, k = q + 1 := ⟨k - 1, by omega⟩
    have hil : i < l.length := by omega
    have hnext := ih k (i + 1) (by omega) (by omega)
    rw [trail_Right.l0, if_pos (by omega), if_pos (by omega), if_pos (by omega), rdc_at l i hil, May_f l[i] k (by omega), Option.bind_some, wrap_succ i (by omega)]
    by_cases hm : mayB l[i] = true
    · rw [if_pos hm]
      have hstep : ∀ (hs : Step l i hil), (∀ j h, i ≤ j → Step l j h) ↔ (∀ j h, i + 1 ≤ j → Step l j h) := fun hs => ⟨fun h j hj hij => h j hj (by omega), fun h j hj hij => by
        rcases Nat.lt_or_ge i j with h2 | h2
        · exact h j hj (by omega)
        · obtain rfl : i = j := by omega
          exact hs⟩
      by_cases h0 : 0 < i
      · obtain ⟨p, rfl⟩ : ∃ p, i = p + 1 := ⟨i - 1, by omega⟩
        rw [if_pos (by omega), wrap_pred p (by omega), if_pos (by omega), if_pos (by omega), rdc_at l p (by omega)]
        by_cases hlt : l[p].f0 ≥ l[p + 1].f0
        · rw [if_pos hlt, decide_eq_false]
          intro h
          have := (h (p + 1) hil (Nat.le_refl _)).2 (by omega)
          simp only [Nat.add_sub_cancel] at this
          omega
        · rw [if_neg hlt, hnext]
          congr 1
          rw [decide_eq_decide, hstep ⟨hm, fun _ => by simp only [Nat.add_sub_cancel]; omega⟩]
      · obtain rfl : i = 0 := by omega
        rw [if_neg (by omega), hnext]
        congr 1
        rw [decide_eq_decide, hstep ⟨hm, fun h => absurd h h0⟩]
    · rw [if_neg hm, decide_eq_false]
      intro h
      exact hm (h i hil (Nat.le_refl _)).1
theorem Right_f (l : List S30) (hl : l.length ≤ 1000000) (k : Nat) (hk : l.length + 2 ≤ k) : trail_Right.f k l = some (decide (RightP l)) := by
  classical
  unfold trail_Right.f
  rw [show (0 : Int) = ((0 : Nat) : Int) from rfl, Right_l0 l hl l.length k 0 (by omega) hk]
  congr 1
  rw [decide_eq_decide, ← right_iff]
  exact ⟨fun h j hj => h j hj (by omega), fun h j hj _ => h j hj⟩
theorem right_sub {l l' : List S30} (h : RightP l) (hs : l'.Sublist l) : RightP l' := ⟨fun x hx => h.1 x (hs.subset hx), h.2.sublist hs⟩
theorem right_nil : RightP [] := ⟨by simp, by simp⟩
/-! ### Same -/
theorem Same_l0 (l : List S30) (hl : l.length ≤ 1000000) (d : Nat) : ∀ (k i : Nat), l.length = i + d → d < k → weirkeeperref13_Same.l0 k l l (i : Int) = some true := by
  induction d with
  | zero =>
    intro k i hi hk
    obtain ⟨k, rfl⟩ : ∃ q, k = q + 1 := ⟨k - 1, by omega⟩
    rw [weirkeeperref13_Same.l0, if_neg (by omega)]
  | succ d ih =>
    intro k i hi hk
    obtain ⟨k, rfl⟩ : ∃ q, k = q + 1 := ⟨k - 1, by omega⟩
    have hil : i < l.length := by omega
    rw [weirkeeperref13_Same.l0, if_pos (by omega), if_pos (by omega), if_pos (by omega), rdc_at l i hil, wrap_succ i (by omega), if_neg (by simp)]
    exact ih k (i + 1) (by omega) (by omega)
theorem Same_f (l l' : List S30) (hl : l.length ≤ 1000000) (k : Nat) (hk : l.length < k) (h : l = l') : weirkeeperref13_Same.f k l l' = some true := by
  subst h
  unfold weirkeeperref13_Same.f
  rw [if_pos rfl]
  exact Same_l0 l hl l.length k 0 (by omega) hk
/-! ### Last, Since, Drop, Newest -/
def lastB (l : List S30) : Int := if RightP l then (match l.getLast? with | some x => x.f0 | none => 0) else 0
theorem Last_f (l : List S30) (hl : l.length ≤ 1000000) (k : Nat) (hk : l.length + 2 ≤ k) : trail_Last.f k l = some (lastB l) := by
  unfold trail_Last.f lastB
  by_cases h0 : (l.length : Int) = 0
  · have : l = [] := List.eq_nil_of_length_eq_zero (by omega)
    subst this
    rw [if_pos h0]
    simp
  · rw [if_neg h0, Right_f l hl k hk, Option.bind_some]
    by_cases hr : RightP l
    · obtain ⟨n, hn⟩ : ∃ n, l.length = n + 1 := ⟨l.length - 1, by omega⟩
      rw [if_pos (decide_eq_true hr), if_pos hr, hn, wrap_pred n (by omega), if_pos (by omega), if_pos (by omega), rdc_at l n (by omega), List.getLast?_eq_getElem?, show l.length - 1 = n by omega, List.getElem?_eq_getElem (by omega)]
    · rw [if_neg (by simpa using hr), if_neg hr]
def above (s : Int) (rs : List S35) (x : S30) : Bool := decide (s < x.f0) && rs.all fun r => inB r.f0 r.f1 r.f2 x.f1
def sinceB (l : List S30) (s most : Int) (rs : List S35) : List S30 := if RightP l then (l.filter (above s rs)).take most.toNat else []
theorem inR_eq (a b : ByteArray) (o : Bool) (k : ByteArray) : Trail.inR a b o k = inB a b o k := by
  unfold Trail.inR inB
  rw [bl_lt, bl_lt]
theorem Since_f (l : List S30) (hl : l.length ≤ 1000000) (s most : Int) (rs : List S35) (hrs : rs.length ≤ 1000000) (k : Nat) (hk : l.length + 2 ≤ k) (hk2 : rs.length < k) : trail_Since.f k l s most rs = some (sinceB l s most rs) := by
  unfold trail_Since.f
  rw [if_pos hl, Right_f l hl k hk, Option.bind_some, Meet_f rs hrs k hk2, Option.bind_some]
  congr 1
  unfold Trail.sinceL Trail.kept sinceB
  by_cases hr : RightP l
  · rw [if_pos (decide_eq_true hr), if_pos hr]
    congr 1
    unfold Fun.keep
    apply List.filter_congr
    intro x _
    show (!(decide (x.f0 ≤ s) || !Trail.inR (meetB rs).1 (meetB rs).2.1 (meetB rs).2.2 x.f1)) = above s rs x
    rw [inR_eq, in_meet, above, Bool.not_or, Bool.not_not]
    congr 1
    by_cases h : x.f0 ≤ s
    · rw [decide_eq_true h, decide_eq_false (by omega)]
      rfl
    · rw [decide_eq_false h, decide_eq_true (by omega)]
      rfl
  · rw [if_neg (by simpa using hr), if_neg hr]
    simp
def dropB (l : List S30) (s : Int) : List S30 := if RightP l then l.filter (fun x => decide (s < x.f0)) else []
theorem Drop_f (l : List S30) (hl : l.length ≤ 1000000) (s : Int) (k : Nat) (hk : l.length + 2 ≤ k) : trail_Drop.f k l s = some (dropB l s) := by
  unfold trail_Drop.f
  rw [if_pos hl, Right_f l hl k hk, Option.bind_some]
  congr 1
  unfold Trail.kept dropB
  by_cases hr : RightP l
  · rw [if_pos (decide_eq_true hr), if_pos hr]
    unfold Fun.keep
    apply List.filter_congr
    intro x _
    show (!decide (x.f0 ≤ s)) = decide (s < x.f0)
    by_cases h : x.f0 ≤ s
    · rw [decide_eq_true h, decide_eq_false (by omega)]
      rfl
    · rw [decide_eq_false h, decide_eq_true (by omega)]
      rfl
  · rw [if_neg (by simpa using hr), if_neg hr]
/-- Is there a later one of its key, up to a Seq? -/
def old (s : Int) (l : List S30) (x : S30) : Bool := l.any fun y => decide (y.f0 ≤ s) && (decide (y.f1 = x.f1) && decide (x.f0 < y.f0))
theorem old_iff (s : Int) (l : List S30) (x : S30) : old s l x = true ↔ ∃ y ∈ l, y.f0 ≤ s ∧ y.f1 = x.f1 ∧ x.f0 < y.f0 := by
  unfold old
  simp only [List.any_eq_true, Bool.and_eq_true, decide_eq_true_eq]
theorem last_spec (s : Int) (k : ByteArray) (l : List S30) : RightP l → (∀ x ∈ l, x.f0 ≤ s → x.f1 = k → x.f0 ≤ Newest.lastUp s l k) ∧ (Newest.lastUp s l k = 0 ∨ ∃ x ∈ l, x.f0 ≤ s ∧ x.f1 = k ∧ x.f0 = Newest.lastUp s l k) := by
  induction l using snoc_ind with
  | nil => intro _; exact ⟨by simp, .inl rfl⟩
  | snoc l x ih =>
    intro hr
    obtain ⟨h1, h2⟩ := ih (right_sub hr (List.sublist_append_left _ _))
    have hlt : ∀ y ∈ l, y.f0 < x.f0 := by
      intro y hy
      have := List.pairwise_append.1 hr.2
      exact this.2.2 y hy x (by simp)
    have hst : Newest.lastUp s (l ++ [x]) k = if x.f0 ≤ s ∧ x.f1 = k then x.f0 else Newest.lastUp s l k := by
      unfold Newest.lastUp
      rw [List.foldl_append]
      rfl
    rw [hst]
    by_cases hx : x.f0 ≤ s ∧ x.f1 = k
    · rw [if_pos hx]
      refine ⟨fun y hy _ _ => ?_, .inr ⟨x, by simp, hx.1, hx.2, rfl⟩⟩
      rcases List.mem_append.1 hy with hy | hy
      · exact Int.le_of_lt (hlt y hy)
      · rw [List.mem_singleton.1 hy]
        exact Int.le_refl _
    · rw [if_neg hx]
      refine ⟨fun y hy ha hb => ?_, ?_⟩
      · rcases List.mem_append.1 hy with hy | hy
        · exact h1 y hy ha hb
        · rw [List.mem_singleton.1 hy] at ha hb
          exact absurd ⟨ha, hb⟩ hx
      · rcases h2 with h2 | ⟨y, hy, h3⟩
        · exact .inl h2
        · exact .inr ⟨y, List.mem_append_left _ hy, h3⟩
theorem last_old (s : Int) {l : List S30} (hr : RightP l) {x : S30} (hx : x ∈ l) : decide (x.f0 < Newest.lastUp s l x.f1) = old s l x := by
  obtain ⟨h1, h2⟩ := last_spec s x.f1 l hr
  have hp := may_pos (hr.1 x hx)
  rw [Bool.eq_iff_iff, decide_eq_true_eq, old_iff]
  constructor
  · intro h
    rcases h2 with h2 | ⟨y, hy, h3, h4, h5⟩
    · omega
    · exact ⟨y, hy, h3, h4, by omega⟩
  · rintro ⟨y, hy, h3, h4, h5⟩
    have := h1 y hy h3 h4
    omega
def newestB (l : List S30) (s : Int) : List S30 := if RightP l then l.filter (fun x => !old s l x) else []
theorem Newest_f (l : List S30) (hl : l.length ≤ 1000000) (hok : ∀ x ∈ l, Newest.okC x) (s : Int) (k : Nat) (hk : l.length + 2 ≤ k) : trail_Newest.f k l s = some (newestB l s) := by
  unfold trail_Newest.f
  rw [if_pos hl, if_pos hok, Right_f l hl k hk, Option.bind_some]
  congr 1
  unfold Trail.kept newestB
  by_cases hr : RightP l
  · rw [if_pos (decide_eq_true hr), if_pos hr]
    unfold Fun.keep
    apply List.filter_congr
    intro x hx
    exact congrArg (! ·) (last_old s hr hx)
  · rw [if_neg (by simpa using hr), if_neg hr]
theorem since_le (l : List S30) (s most : Int) (rs : List S35) : (sinceB l s most rs).length ≤ l.length := by
  unfold sinceB
  split
  · exact Nat.le_trans (by rw [List.length_take]; exact Nat.min_le_right _ _) (List.length_filter_le _ _)
  · simp
theorem drop_le (l : List S30) (s : Int) : (dropB l s).length ≤ l.length := by
  unfold dropB
  split
  · exact List.length_filter_le _ _
  · simp
theorem newest_le (l : List S30) (s : Int) : (newestB l s).length ≤ l.length := by
  unfold newestB
  split
  · exact List.length_filter_le _ _
  · simp
theorem since_right (l : List S30) (s most : Int) (rs : List S35) : RightP (sinceB l s most rs) := by
  unfold sinceB
  split
  · rename_i h
    exact right_sub h ((List.take_sublist _ _).trans List.filter_sublist)
  · exact right_nil
theorem drop_right (l : List S30) (s : Int) : RightP (dropB l s) := by
  unfold dropB
  split
  · rename_i h
    exact right_sub h List.filter_sublist
  · exact right_nil
theorem newest_right (l : List S30) (s : Int) : RightP (newestB l s) := by
  unfold newestB
  split
  · rename_i h
    exact right_sub h List.filter_sublist
  · exact right_nil
theorem ok_of {l : List S30} (h : Open.okList ok30 l) : ∀ x ∈ l, Newest.okC x := by
  intro x hx
  have := h.2 x hx
  unfold ok30 at this
  exact ⟨this.1, this.2.1⟩
theorem awake_at : weirkeeperlaw16_awake.f 12 = some true := by decide +kernel
theorem awake_f (k : Nat) (hk : 12 ≤ k) : weirkeeperlaw16_awake.f k = some true := up (fun k => weirkeeperlaw16_awake.mono k) hk awake_at
end Go.Proofs.Ytldccimehioakaa.Pl
