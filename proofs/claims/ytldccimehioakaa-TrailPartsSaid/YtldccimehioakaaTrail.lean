/- trail.without, Drop, Since and Newest, walked: functions that hand a function value on. -/
import Derived.Test.YtldccimehioakaaFun
import Derived.Test.YtldccimehioakaaXx6
import Derived.Test.YtldccimehioakaaXx3
import Derived.Test.YtldccimehioakaaXx29
import Derived.Maps.OwnOps
import Derived.Maps.OwnSet
namespace Go.Proofs.Ytldccimehioakaa.Trail
open Go Go.RowKit Go.Proofs.Ytldccimehioakaa.X Go.Proofs.YtldccimehioakaaW Go.Proofs.YtldccimehioakaaW.PrintWords Go.Proofs.YtldccimehioakaaW.PrintLast Go.Proofs.YtldccimehioakaaW.PrintMore Go.Proofs.Ytldccimehioakaa.Fun
attribute [local go_sem] max2_int min2_int max_two min_two
set_option linter.unusedVariables false
set_option linter.unusedSimpArgs false
set_option maxRecDepth 100000
set_option maxHeartbeats 1000000
theorem cap_lt {L : List (Nat × Obj)} {w : World} (h : Cap L w) : ∀ q ∈ L, q.1 < w.heap.size := fun q hq => blk_lt (h q hq)
theorem without_ok {f : FuncId} {ex : Array Value} {L : List (Nat × Obj)} {p : S30 → Bool} {X : S30 → Prop} (hp : Pred f ex L p X) (A : Option Addr) (c : Nat) (l : List S30) (w : World) (hC : Kd.C k30 w A l.length l) (hc : l.length ≤ c) (hl : l.length ≤ 1000000) (hL : Cap L w) (k : Nat) (hr : trail_Right.f k l = some true) (hX : ∀ x ∈ l, X x := by intros; trivial) :
    Calls Try.prog 23 #[.slice A l.length c, .func (.func f) #[] ex] w fun e w' => ∃ v, e = .returned v ∧ Kd.R k30 30 w' w.heap.size (fun _ => True) v (keep p l) ∧ Below w.heap.size w w' := by
  have HC := Aside0.mk hC
  have HL := Aside0.mk hL
  have HR := Aside0.mk hr
  have HDom := Aside0.mk hX
  clear hC hL hr hX
  go_enter Try.func23, Try.ntmps23
  go_wp2_with (first | (go_at_call 15; refine (trail_Right.calls k A c l true w HC.out hc HR.out).mono ?_; rintro e w2 ⟨rfl, hb⟩; have HB := Aside0.mk hb; clear hb) | (go_at_call 31; refine (clone_calls A c l w2 (Kd.C_below HC.out HB.out) hl).mono ?_; rintro e w3 ⟨v3, rfl, h3, hb3⟩; have HO := Aside0.mk h3; have HB3 := Aside0.mk hb3; have HL3 := Aside0.mk ((HL.out.below HB.out).below hb3); have NE := Aside0.mk (fun q hq he => (by have h_ := Kd.R_base h3 q.1 (Eq.symm he); have h2_ := cap_lt (HL.out.below HB.out) q hq; omega : False) : ∀ q ∈ L, some q.1 ≠ (v3 : Value).ownBlock); clear h3 hb3) | (go_at_call 30; refine (delete_any hp v3 l w3 w2.heap.size (fun _ => True) HO.out hl HL3.out NE.out HDom.out).mono ?_; rintro e w4 ⟨v4, rfl, h4, hg4, ho4⟩; have HO4 := Aside0.mk h4; have HG4 := Aside0.mk hg4; clear h4 hg4 ho4))
  go_ret
  exact ⟨_, rfl, Kd.R_lower HO4.out HB.out.size, (below_step HB.out HB3.out).grown HG4.out (below_step HB.out HB3.out).size (fun k hk => Nat.le_trans HB.out.size (Kd.R_base HO.out k hk))⟩
theorem without_bad (fv : Value) (A : Option Addr) (c : Nat) (l : List S30) (w : World) (hC : Kd.C k30 w A l.length l) (hc : l.length ≤ c) (k : Nat) (hr : trail_Right.f k l = some false) :
    Calls Try.prog 23 #[.slice A l.length c, fv] w fun e w' => e = .returned (.slice none 0 0) ∧ Below w.heap.size w w' := by
  have HC := Aside0.mk hC
  have HR := Aside0.mk hr
  clear hC hr
  go_enter Try.func23, Try.ntmps23
  go_wp2_with (go_at_call 15; refine (trail_Right.calls k A c l false w HC.out hc HR.out).mono ?_; rintro e w2 ⟨rfl, hb⟩; have HB := Aside0.mk hb; clear hb)
  go_ret
  exact ⟨rfl, HB.out⟩
/-- Any way: those of which it does not hold, or nothing. -/
def kept (r : Bool) (p : S30 → Bool) (l : List S30) : List S30 := if r = true then keep p l else []
theorem kept_le (r : Bool) (p : S30 → Bool) (l : List S30) : (kept r p l).length ≤ l.length := by
  unfold kept
  split
  · exact keep_le p l
  · simp
theorem without_any {f : FuncId} {ex : Array Value} {L : List (Nat × Obj)} {p : S30 → Bool} {X : S30 → Prop} (hp : Pred f ex L p X) (A : Option Addr) (c : Nat) (l : List S30) (w : World) (hC : Kd.C k30 w A l.length l) (hc : l.length ≤ c) (hl : l.length ≤ 1000000) (hL : Cap L w) (k : Nat) (r : Bool) (hr : trail_Right.f k l = some r) (hX : ∀ x ∈ l, X x := by intros; trivial) :
    Calls Try.prog 23 #[.slice A l.length c, .func (.func f) #[] ex] w fun e w' => ∃ v, e = .returned v ∧ Kd.R k30 30 w' w.heap.size (fun _ => True) v (kept r p l) ∧ Below w.heap.size w w' := by
  cases r
  · refine (without_bad _ A c l w hC hc k hr).mono ?_
    rintro e w' ⟨rfl, hb⟩
    exact ⟨_, rfl, Kd.R_nil _ _ _ _ _, hb⟩
  · exact without_ok hp A c l w hC hc hl hL k hr hX
/-! ### Drop -/
theorem drop_pred (g : Nat) (s : Int) : Pred 26 #[.pointer (some ⟨g, 0, none⟩)] [(g, .cells #[.int .i64 s] 3 (0, 0))] (fun x => decide (x.f0 ≤ s)) := by
  refine ⟨fun args w => rfl, fun w x hL _ => ?_⟩
  have hg := hL _ (List.mem_singleton.2 rfl)
  have HG := Aside0.mk hg
  clear hL hg
  have hu30 := Try.underlying30
  show Calls Try.prog 26 #[.agg #[.int .i64 x.f0, .string x.f1, .bool x.f2, .string x.f3, .bool x.f4, .string x.f5], .pointer (some ⟨g, 0, none⟩)] w _
  go_enter Try.func26, Try.ntmps26
  go_wp2_with ((with_reducible refine gate_dst (N := 2) rfl ?_); refine box_event ?hg (N := 2) ?hd (cs := #[.int .i64 x.f0, .string x.f1, .bool x.f2, .string x.f3, .bool x.f4, .string x.f5]) (t := 30) ?hr ?_; (case hd => rfl); (case hg => rfl); (case hr => first | (go_simp; done) | (go_simp; rfl)); intro g0 hg0 w2 hbox hb; have h0_ := (blk_cell hbox 0).trans rfl; have h1_ := (blk_cell (blk_below HG.out hb) 0).trans rfl; have HB := Aside0.mk hb; clear hbox hb hg0)
  go_ret
  exact ⟨rfl, HB.out⟩
theorem drop_calls (A : Option Addr) (c : Nat) (l : List S30) (s : Int) (w : World) (hC : Kd.C k30 w A l.length l) (hc : l.length ≤ c) (hl : l.length ≤ 1000000) (k : Nat) (r : Bool) (hr : trail_Right.f k l = some r) :
    Calls Try.prog 12 #[.slice A l.length c, .int .i64 s] w fun e w' => ∃ v, e = .returned v ∧ Kd.R k30 30 w' w.heap.size (fun _ => True) v (kept r (fun x => decide (x.f0 ≤ s)) l) ∧ Below w.heap.size w w' := by
  have HC := Aside0.mk hC
  have HR := Aside0.mk hr
  clear hC hr
  go_enter Try.func12, Try.ntmps12
  go_wp2_with (first | ((with_reducible refine gate_dst (N := 3) rfl ?_); refine box_event ?hg (N := 3) ?hd (cs := #[.int .i64 s]) (t := 3) ?hr ?_; (case hd => rfl); (case hg => rfl); (case hr => first | (go_simp; done) | (go_simp; rfl)); intro g hg0 w2 hbox hb; have HB := Aside0.mk hb; have BK := Aside0.mk hbox; clear hbox hb hg0) | (go_at_call 23; refine (without_any (drop_pred g s) A c l w2 (Kd.C_below HC.out HB.out) hc hl (fun q hq => by rw [List.mem_singleton.1 hq]; exact BK.out) k r HR.out).mono ?_; rintro e w3 ⟨v3, rfl, h3, hb3⟩; have HO := Aside0.mk h3; have HB3 := Aside0.mk hb3; clear h3 hb3))
  go_ret
  exact ⟨_, rfl, Kd.R_lower HO.out HB.out.size, below_step HB.out HB3.out⟩
/-! ### Since -/
/-- Is a key in a range? -/
def inR (a b : ByteArray) (o : Bool) (k : ByteArray) : Bool := !Op.bytesLess k.toList a.toList && (o || Op.bytesLess k.toList b.toList)
theorem in_f (a b : ByteArray) (o : Bool) (k : ByteArray) : stretch_In.f a b o k = some (inR a b o k) := by
  unfold stretch_In.f inR
  cases h1 : Op.bytesLess k.toList a.toList <;> cases o <;> simp [h1]
theorem since_pred (g h : Nat) (s : Int) (a b : ByteArray) (o : Bool) : Pred 24 #[.pointer (some ⟨g, 0, none⟩), .pointer (some ⟨h, 0, none⟩)] [(g, .cells #[.int .i64 s] 3 (0, 0)), (h, .cells #[.string a, .string b, .bool o] 35 (0, 0))] (fun x => decide (x.f0 ≤ s) || !inR a b o x.f1) := by
  refine ⟨fun args w => rfl, fun w x hL _ => ?_⟩
  have hg := hL _ (List.mem_cons_self ..)
  have hh := hL _ (List.mem_cons_of_mem _ (List.mem_singleton.2 rfl))
  have HG := Aside0.mk hg
  have HH := Aside0.mk hh
  clear hL hg hh
  have hu30 := Try.underlying30
  have hu35 := Try.underlying35
  have HI := Aside0.mk (in_f a b o x.f1)
  generalize inR a b o x.f1 = i at HI ⊢
  show Calls Try.prog 24 #[.agg #[.int .i64 x.f0, .string x.f1, .bool x.f2, .string x.f3, .bool x.f4, .string x.f5], .pointer (some ⟨g, 0, none⟩), .pointer (some ⟨h, 0, none⟩)] w _
  by_cases hs : x.f0 ≤ s
  · rw [decide_eq_true hs, Bool.true_or]
    have hd := decide_eq_true hs
    clear hs
    go_enter Try.func24, Try.ntmps24
    go_wp2_with (((with_reducible refine gate_dst (N := 3) rfl ?_); refine box_event ?hg (N := 3) ?hd (cs := #[.int .i64 x.f0, .string x.f1, .bool x.f2, .string x.f3, .bool x.f4, .string x.f5]) (t := 30) ?hr ?_; (case hd => rfl); (case hg => rfl); (case hr => first | (go_simp; done) | (go_simp; rfl)); intro g0 hg0 w2 hbox hb; have h0_ := (blk_cell hbox 0).trans rfl; have h1_ := (blk_cell hbox 1).trans rfl; have h2_ := (blk_cell (blk_below HG.out hb) 0).trans rfl; have HB := Aside0.mk hb; clear hbox hb hg0))
    go_ret
    exact ⟨rfl, HB.out⟩
  · rw [decide_eq_false hs, Bool.false_or]
    have hd := decide_eq_false hs
    clear hs
    go_enter Try.func24, Try.ntmps24
    go_wp2_with (first | ((with_reducible refine gate_dst (N := 3) rfl ?_); refine box_event ?hg (N := 3) ?hd (cs := #[.int .i64 x.f0, .string x.f1, .bool x.f2, .string x.f3, .bool x.f4, .string x.f5]) (t := 30) ?hr ?_; (case hd => rfl); (case hg => rfl); (case hr => first | (go_simp; done) | (go_simp; rfl)); intro g0 hg0 w2 hbox hb; have h0_ := (blk_cell hbox 0).trans rfl; have h1_ := (blk_cell hbox 1).trans rfl; have h2_ := (blk_cell (blk_below HG.out hb) 0).trans rfl; have h3_ := (blk_cell (blk_below HH.out hb) 0).trans rfl; have h4_ := (blk_cell (blk_below HH.out hb) 1).trans rfl; have h5_ := (blk_cell (blk_below HH.out hb) 2).trans rfl; have HB := Aside0.mk hb; clear hbox hb hg0) | (go_at_call 25; refine (stretch_In.calls a b o x.f1 i _ HI.out).mono ?_; rintro e w3 ⟨rfl, hb⟩; have HB2 := Aside0.mk hb; clear hb))
    go_ret
    exact ⟨rfl, below_step HB.out HB2.out⟩
/-- Since's answer: the first ones of those that are kept. -/
def sinceL (r : Bool) (s most : Int) (m : ByteArray × ByteArray × Bool) (l : List S30) : List S30 := (kept r (fun x => decide (x.f0 ≤ s) || !inR m.1 m.2.1 m.2.2 x.f1) l).take most.toNat
theorem info_30 : (Try.prog.info? 30).map (fun i => (i.zero, i.size, i.bytes)) = some (some (.agg #[.int .i64 0, .string (⟨#[]⟩ : ByteArray), .bool false, .string (⟨#[]⟩ : ByteArray), .bool false, .string (⟨#[]⟩ : ByteArray)]), 6, 72) := by kernel_rfl
theorem info_35 : (Try.prog.info? 35).map (·.size) = some 3 := by kernel_rfl
theorem one_35 (a b : ByteArray) (o : Bool) : (#[.string a, .string b, .bool o] : Array Value).all (·.oneCell') = true := by
  rw [Array.all_eq_true_iff_forall_mem]
  intro v hv
  simp only [List.mem_toArray, List.mem_cons, List.not_mem_nil, or_false] at hv
  rcases hv with rfl | rfl | rfl <;> rfl
theorem since_calls (A : Option Addr) (c : Nat) (l : List S30) (s most : Int) (AR : Option Addr) (cR : Nat) (rs : List S35) (w : World) (hC : Kd.C k30 w A l.length l) (hc : l.length ≤ c) (hCR : Kd.C k35 w AR rs.length rs) (hcR : rs.length ≤ cR) (hl : l.length ≤ 1000000) (k : Nat) (r : Bool) (hr : trail_Right.f k l = some r) (m : ByteArray × ByteArray × Bool) (hm : stretch_Meet.f k rs = some m) :
    Calls Try.prog 11 #[.slice A l.length c, .int .i64 s, .int .i64 most, .slice AR rs.length cR] w fun e w' => ∃ v, e = .returned v ∧ Kd.R k30 30 w' w.heap.size (fun _ => True) v (sinceL r s most m l) ∧ Below w.heap.size w w' := by
  obtain ⟨a, b, o⟩ := m
  have HC := Aside0.mk hC
  have HCR := Aside0.mk hCR
  have HR := Aside0.mk hr
  have HM := Aside0.mk hm
  have hkl := kept_le r (fun x => decide (x.f0 ≤ s) || !inR a b o x.f1) l
  have HK := Aside0.mk (rfl : kept r (fun x => decide (x.f0 ≤ s) || !inR a b o x.f1) l = kept r (fun x => decide (x.f0 ≤ s) || !inR a b o x.f1) l)
  show Calls Try.prog 11 #[.slice A l.length c, .int .i64 s, .int .i64 most, .slice AR rs.length cR] w fun e w' => ∃ v, e = .returned v ∧ Kd.R k30 30 w' w.heap.size (fun _ => True) v ((kept r (fun x => decide (x.f0 ≤ s) || !inR a b o x.f1) l).take most.toNat) ∧ Below w.heap.size w w'
  have hW : ∀ (g h : Nat) (w2 : World), Kd.C k30 w2 A l.length l → Cap [(g, .cells #[.int .i64 s] 3 (0, 0)), (h, .cells #[.string a, .string b, .bool o] 35 (0, 0))] w2 → Calls Try.prog 23 #[.slice A l.length c, .func (.func 24) #[] #[.pointer (some ⟨g, 0, none⟩), .pointer (some ⟨h, 0, none⟩)]] w2 fun e w' => ∃ v, e = .returned v ∧ Kd.R k30 30 w' w2.heap.size (fun _ => True) v (kept r (fun x => decide (x.f0 ≤ s) || !inR a b o x.f1) l) ∧ Below w2.heap.size w2 w' :=
    fun g h w2 hC2 hL => without_any (since_pred g h s a b o) A c l w2 hC2 hc hl hL k r hr
  generalize kept r (fun x => decide (x.f0 ≤ s) || !inR a b o x.f1) l = K at hW hkl ⊢
  have HW := Aside0.mk hW
  clear hC hCR hr hm hW HK
  obtain ⟨i0, hi0, _, _, _⟩ := info_parts info_30
  have hu35 := Try.underlying35
  have HI := Aside0.mk hi0
  clear hi0
  have hK6 : K.length ≤ 1000000 := by omega
  clear hkl
  rcases (by omega : most ≤ 0 ∨ (0 < most ∧ most ≤ (K.length : Int)) ∨ ((K.length : Int) < most ∧ ¬ 0 < (K.length : Int)) ∨ ((K.length : Int) < most ∧ 0 < (K.length : Int))) with h1 | ⟨h1, h2⟩ | ⟨h1, h2⟩ | ⟨h1, h2⟩
  · have hj := True.intro
    go_enter Try.func11, Try.ntmps11
    go_wp2_with (first | ((with_reducible refine gate_dst (N := 5) rfl ?_); refine box_event ?hg (N := 5) ?hd (cs := #[.int .i64 s]) (t := 3) ?hr ?_; (case hd => rfl); (case hg => rfl); (case hr => first | (go_simp; done) | (go_simp; rfl)); intro g hg w2 hbox hb; have HB := Aside0.mk hb; have BK := Aside0.mk hbox; clear hbox hb hg) | (go_at_call 22; refine (stretch_Meet.calls k AR cR rs a b o w2 (Kd.C_below HCR.out HB.out) hcR HM.out).mono ?_; rintro e w3 ⟨rfl, hb⟩; have HB3 := Aside0.mk (below_step HB.out hb); have BK3 := Aside0.mk (blk_below BK.out hb); clear hb) | ((with_reducible refine gate_dst (N := 9) rfl ?_); refine box_event ?hg (N := 9) ?hd (cs := #[.string (⟨#[]⟩ : ByteArray), .string (⟨#[]⟩ : ByteArray), .bool false]) (t := 35) ?hr ?_; (case hd => rfl); (case hg => rfl); (case hr => first | (go_simp; done) | (go_simp; rfl)); intro gr hgr w4 hbox hb; have HB4 := Aside0.mk (below_step HB3.out hb); have HB34 := Aside0.mk hb; have BH4 := Aside0.mk hbox; have HN := Aside0.mk hgr; clear hbox hb hgr) | ((with_reducible refine gate_store (t := 35) (p := 9) rfl ?_); refine store_row_event rfl 35 _ _ rfl gr #[.string a, .string b, .bool o] rfl rfl 35 #[.string (⟨#[]⟩ : ByteArray), .string (⟨#[]⟩ : ByteArray), .bool false] BH4.out info_35 rfl (one_35 a b o) ?_; intro w5 hk hbel; have HB5 := Aside0.mk (hbel w HB4.out (by rw [HN.out]; exact HB3.out.size)); have BK5 := Aside0.mk (blk_below BK3.out (hbel w3 HB34.out (Nat.le_of_eq HN.out.symm))); have BH5 := Aside0.mk hk; clear hk hbel) | (go_at_call 23; refine (HW.out g gr w5 (Kd.C_below HC.out HB5.out) (fun q hq => by rcases List.mem_cons.1 hq with e_ | hq; rw [e_]; exact BK5.out; rw [List.mem_singleton.1 hq]; exact BH5.out)).mono ?_; rintro e w6 ⟨v6, rfl, h6, hb6⟩; obtain ⟨A6, c6, e6⟩ := Kd.R_slice h6; subst e6; have HO6 := Aside0.mk h6; have HB6 := Aside0.mk (below_step HB5.out hb6); have HT := Aside0.mk (Kd.R_take (m := ((0 : Int)).toNat) h6 (by omega)); have hcut := cut_to (P := Try.prog) 22 30 .i64 Try.underlying22 HI.out A6 K.length c6 (0 : Int) (Int.le_refl _) (by omega) (Kd.R_reads' h6).2.1; have hle := (Kd.R_reads' h6).2.1; clear h6 hb6))
    go_ret
    refine ⟨_, rfl, ?_, HB6.out⟩
    have h_ := Kd.R_lower HT.out HB5.out.size
    have e_ : K.take ((0 : Int)).toNat = K.take most.toNat := by rw [show most.toNat = 0 by omega]; rfl
    rw [e_] at h_
    exact h_
  · have hj := True.intro
    go_enter Try.func11, Try.ntmps11
    go_wp2_with (first | ((with_reducible refine gate_dst (N := 5) rfl ?_); refine box_event ?hg (N := 5) ?hd (cs := #[.int .i64 s]) (t := 3) ?hr ?_; (case hd => rfl); (case hg => rfl); (case hr => first | (go_simp; done) | (go_simp; rfl)); intro g hg w2 hbox hb; have HB := Aside0.mk hb; have BK := Aside0.mk hbox; clear hbox hb hg) | (go_at_call 22; refine (stretch_Meet.calls k AR cR rs a b o w2 (Kd.C_below HCR.out HB.out) hcR HM.out).mono ?_; rintro e w3 ⟨rfl, hb⟩; have HB3 := Aside0.mk (below_step HB.out hb); have BK3 := Aside0.mk (blk_below BK.out hb); clear hb) | ((with_reducible refine gate_dst (N := 9) rfl ?_); refine box_event ?hg (N := 9) ?hd (cs := #[.string (⟨#[]⟩ : ByteArray), .string (⟨#[]⟩ : ByteArray), .bool false]) (t := 35) ?hr ?_; (case hd => rfl); (case hg => rfl); (case hr => first | (go_simp; done) | (go_simp; rfl)); intro gr hgr w4 hbox hb; have HB4 := Aside0.mk (below_step HB3.out hb); have HB34 := Aside0.mk hb; have BH4 := Aside0.mk hbox; have HN := Aside0.mk hgr; clear hbox hb hgr) | ((with_reducible refine gate_store (t := 35) (p := 9) rfl ?_); refine store_row_event rfl 35 _ _ rfl gr #[.string a, .string b, .bool o] rfl rfl 35 #[.string (⟨#[]⟩ : ByteArray), .string (⟨#[]⟩ : ByteArray), .bool false] BH4.out info_35 rfl (one_35 a b o) ?_; intro w5 hk hbel; have HB5 := Aside0.mk (hbel w HB4.out (by rw [HN.out]; exact HB3.out.size)); have BK5 := Aside0.mk (blk_below BK3.out (hbel w3 HB34.out (Nat.le_of_eq HN.out.symm))); have BH5 := Aside0.mk hk; clear hk hbel) | (go_at_call 23; refine (HW.out g gr w5 (Kd.C_below HC.out HB5.out) (fun q hq => by rcases List.mem_cons.1 hq with e_ | hq; rw [e_]; exact BK5.out; rw [List.mem_singleton.1 hq]; exact BH5.out)).mono ?_; rintro e w6 ⟨v6, rfl, h6, hb6⟩; obtain ⟨A6, c6, e6⟩ := Kd.R_slice h6; subst e6; have HO6 := Aside0.mk h6; have HB6 := Aside0.mk (below_step HB5.out hb6); have HT := Aside0.mk (Kd.R_take (m := (most).toNat) h6 (by omega)); have hcut := cut_to (P := Try.prog) 22 30 .i64 Try.underlying22 HI.out A6 K.length c6 most (by omega) h2 (Kd.R_reads' h6).2.1; have hle := (Kd.R_reads' h6).2.1; clear h6 hb6))
    go_ret
    refine ⟨_, rfl, ?_, HB6.out⟩
    have h_ := Kd.R_lower HT.out HB5.out.size
    have e_ : K.take (most).toNat = K.take most.toNat := by rfl
    rw [e_] at h_
    exact h_
  · have hj := True.intro
    go_enter Try.func11, Try.ntmps11
    go_wp2_with (first | ((with_reducible refine gate_dst (N := 5) rfl ?_); refine box_event ?hg (N := 5) ?hd (cs := #[.int .i64 s]) (t := 3) ?hr ?_; (case hd => rfl); (case hg => rfl); (case hr => first | (go_simp; done) | (go_simp; rfl)); intro g hg w2 hbox hb; have HB := Aside0.mk hb; have BK := Aside0.mk hbox; clear hbox hb hg) | (go_at_call 22; refine (stretch_Meet.calls k AR cR rs a b o w2 (Kd.C_below HCR.out HB.out) hcR HM.out).mono ?_; rintro e w3 ⟨rfl, hb⟩; have HB3 := Aside0.mk (below_step HB.out hb); have BK3 := Aside0.mk (blk_below BK.out hb); clear hb) | ((with_reducible refine gate_dst (N := 9) rfl ?_); refine box_event ?hg (N := 9) ?hd (cs := #[.string (⟨#[]⟩ : ByteArray), .string (⟨#[]⟩ : ByteArray), .bool false]) (t := 35) ?hr ?_; (case hd => rfl); (case hg => rfl); (case hr => first | (go_simp; done) | (go_simp; rfl)); intro gr hgr w4 hbox hb; have HB4 := Aside0.mk (below_step HB3.out hb); have HB34 := Aside0.mk hb; have BH4 := Aside0.mk hbox; have HN := Aside0.mk hgr; clear hbox hb hgr) | ((with_reducible refine gate_store (t := 35) (p := 9) rfl ?_); refine store_row_event rfl 35 _ _ rfl gr #[.string a, .string b, .bool o] rfl rfl 35 #[.string (⟨#[]⟩ : ByteArray), .string (⟨#[]⟩ : ByteArray), .bool false] BH4.out info_35 rfl (one_35 a b o) ?_; intro w5 hk hbel; have HB5 := Aside0.mk (hbel w HB4.out (by rw [HN.out]; exact HB3.out.size)); have BK5 := Aside0.mk (blk_below BK3.out (hbel w3 HB34.out (Nat.le_of_eq HN.out.symm))); have BH5 := Aside0.mk hk; clear hk hbel) | (go_at_call 23; refine (HW.out g gr w5 (Kd.C_below HC.out HB5.out) (fun q hq => by rcases List.mem_cons.1 hq with e_ | hq; rw [e_]; exact BK5.out; rw [List.mem_singleton.1 hq]; exact BH5.out)).mono ?_; rintro e w6 ⟨v6, rfl, h6, hb6⟩; obtain ⟨A6, c6, e6⟩ := Kd.R_slice h6; subst e6; have HO6 := Aside0.mk h6; have HB6 := Aside0.mk (below_step HB5.out hb6); have HT := Aside0.mk (Kd.R_take (m := ((0 : Int)).toNat) h6 (by omega)); have hcut := cut_to (P := Try.prog) 22 30 .i64 Try.underlying22 HI.out A6 K.length c6 (0 : Int) (Int.le_refl _) (by omega) (Kd.R_reads' h6).2.1; have hle := (Kd.R_reads' h6).2.1; clear h6 hb6))
    go_ret
    refine ⟨_, rfl, ?_, HB6.out⟩
    have h_ := Kd.R_lower HT.out HB5.out.size
    have e_ : K.take ((0 : Int)).toNat = K.take most.toNat := by rw [List.eq_nil_of_length_eq_zero (show K.length = 0 by omega)]; simp
    rw [e_] at h_
    exact h_
  · have hj := True.intro
    go_enter Try.func11, Try.ntmps11
    go_wp2_with (first | ((with_reducible refine gate_dst (N := 5) rfl ?_); refine box_event ?hg (N := 5) ?hd (cs := #[.int .i64 s]) (t := 3) ?hr ?_; (case hd => rfl); (case hg => rfl); (case hr => first | (go_simp; done) | (go_simp; rfl)); intro g hg w2 hbox hb; have HB := Aside0.mk hb; have BK := Aside0.mk hbox; clear hbox hb hg) | (go_at_call 22; refine (stretch_Meet.calls k AR cR rs a b o w2 (Kd.C_below HCR.out HB.out) hcR HM.out).mono ?_; rintro e w3 ⟨rfl, hb⟩; have HB3 := Aside0.mk (below_step HB.out hb); have BK3 := Aside0.mk (blk_below BK.out hb); clear hb) | ((with_reducible refine gate_dst (N := 9) rfl ?_); refine box_event ?hg (N := 9) ?hd (cs := #[.string (⟨#[]⟩ : ByteArray), .string (⟨#[]⟩ : ByteArray), .bool false]) (t := 35) ?hr ?_; (case hd => rfl); (case hg => rfl); (case hr => first | (go_simp; done) | (go_simp; rfl)); intro gr hgr w4 hbox hb; have HB4 := Aside0.mk (below_step HB3.out hb); have HB34 := Aside0.mk hb; have BH4 := Aside0.mk hbox; have HN := Aside0.mk hgr; clear hbox hb hgr) | ((with_reducible refine gate_store (t := 35) (p := 9) rfl ?_); refine store_row_event rfl 35 _ _ rfl gr #[.string a, .string b, .bool o] rfl rfl 35 #[.string (⟨#[]⟩ : ByteArray), .string (⟨#[]⟩ : ByteArray), .bool false] BH4.out info_35 rfl (one_35 a b o) ?_; intro w5 hk hbel; have HB5 := Aside0.mk (hbel w HB4.out (by rw [HN.out]; exact HB3.out.size)); have BK5 := Aside0.mk (blk_below BK3.out (hbel w3 HB34.out (Nat.le_of_eq HN.out.symm))); have BH5 := Aside0.mk hk; clear hk hbel) | (go_at_call 23; refine (HW.out g gr w5 (Kd.C_below HC.out HB5.out) (fun q hq => by rcases List.mem_cons.1 hq with e_ | hq; rw [e_]; exact BK5.out; rw [List.mem_singleton.1 hq]; exact BH5.out)).mono ?_; rintro e w6 ⟨v6, rfl, h6, hb6⟩; obtain ⟨A6, c6, e6⟩ := Kd.R_slice h6; subst e6; have HO6 := Aside0.mk h6; have HB6 := Aside0.mk (below_step HB5.out hb6); have HT := Aside0.mk (Kd.R_take (m := ((K.length : Int)).toNat) h6 (by omega)); have hcut := cut_to (P := Try.prog) 22 30 .i64 Try.underlying22 HI.out A6 K.length c6 (K.length : Int) (by omega) (Int.le_refl _) (Kd.R_reads' h6).2.1; have hle := (Kd.R_reads' h6).2.1; clear h6 hb6))
    go_ret
    refine ⟨_, rfl, ?_, HB6.out⟩
    have h_ := Kd.R_lower HT.out HB5.out.size
    have e_ : K.take ((K.length : Int)).toNat = K.take most.toNat := by rw [Int.toNat_natCast, List.take_length, List.take_of_length_le (by omega)]
    rw [e_] at h_
    exact h_
end Go.Proofs.Ytldccimehioakaa.Trail
