/- The functions of the cache that hand a function value on: place, first. -/
import Derived.Test.YtgjngaeoojcioaaFun
namespace Go.Proofs.Ytgjngaeoojcioaa.Ext
open Go Go.RowKit Go.Proofs.Ytgjngaeoojcioaa.X Go.Proofs.YtgjngaeoojcioaaW Go.Proofs.YtgjngaeoojcioaaW.PrintWords Go.Proofs.YtgjngaeoojcioaaW.PrintLast Go.Proofs.YtgjngaeoojcioaaW.PrintMore Go.Proofs.Ytgjngaeoojcioaa.Fun
set_option linter.unusedVariables false
set_option linter.unusedSimpArgs false
theorem below_of_grown {w w1 : World} (h : w.grownBy w1 none) : Below w.heap.size w w1 := ⟨h.os, h.tape, h.output, h.size, fun k hk => h.block k hk (by simp)⟩
theorem lit_apart {v1 v3 : Value} {w : World} (h : ∃ b, v1.ownBlock = some b ∧ w.heap.size ≤ b) (hl : ∀ k, v3.ownBlock = some k → k < w.heap.size) : v1.ownBlock ≠ v3.ownBlock := by
  obtain ⟨b, hb, hle⟩ := h
  intro he
  have := hl b (he.symm.trans hb)
  omega
theorem row_apart {α β : Type} {d : Kd α} {d' : Kd β} {e e' base : Nat} {ok ok' : Nat → Prop} {w w1 : World} {v v' : Value} {xs : List α} {ys : List β} (h : d.R e w base ok v xs) (hx : 0 < xs.length) (h' : d'.R e' w1 w.heap.size ok' v' ys) : v.ownBlock ≠ v'.ownBlock := by
  obtain ⟨g, cap, he, _, hlt, _⟩ := Kd.R_form h hx
  intro hee
  have h1 : v'.ownBlock = some g := by rw [← hee, he]; rfl
  have := Kd.R_base h' g h1
  omega
set_option maxRecDepth 100000
set_option maxHeartbeats 1000000
/-- place's function value: is the item's number that one? -/
theorem place_pred (g : Nat) (at_ : Int) : Pred 28 #[.pointer (some ⟨g, 0, none⟩)] [(g, .cells #[.int .i64 at_] 3 (0, 0))] (fun x => x.f0 == at_) := by
  refine ⟨fun args w => rfl, fun w x hL => ?_⟩
  have hg := hL _ (List.mem_singleton.2 rfl)
  have HG := Aside0.mk hg
  clear hL hg
  have hu27 := Try.underlying27
  show Calls Try.prog 28 #[.agg #[.int .i64 x.f0, .string x.f1, .bool x.f2], .pointer (some ⟨g, 0, none⟩)] w _
  go_enter Try.func28, Try.ntmps28
  go_wp2_with ((with_reducible refine gate_dst (N := 2) rfl ?_); refine box_event ?hg (N := 2) ?hd (cs := #[.int .i64 x.f0, .string x.f1, .bool x.f2]) (t := 27) ?hr ?_; (case hd => rfl); (case hg => rfl); (case hr => first | (go_simp; done) | (go_simp; rfl)); intro g0 hg0 w2 hbox hb; have h0_ := (blk_cell hbox 0).trans rfl; have h1_ := (blk_cell (blk_below HG.out hb) 0).trans rfl; have HB := Aside0.mk hb; clear hbox hb hg0)
  go_ret
  exact ⟨rfl, HB.out⟩
/-- first's function value: has it the item's number? -/
theorem first_pred (g : Nat) (x0 : Int) (x1 : ByteArray) (x2 : Bool) : Pred 30 #[.pointer (some ⟨g, 0, none⟩)] [(g, .cells #[.int .i64 x0, .string x1, .bool x2] 27 (0, 0))] (fun y => y.f0 == x0) := by
  refine ⟨fun args w => rfl, fun w x hL => ?_⟩
  have hg := hL _ (List.mem_singleton.2 rfl)
  have HG := Aside0.mk hg
  clear hL hg
  have hu27 := Try.underlying27
  show Calls Try.prog 30 #[.agg #[.int .i64 x.f0, .string x.f1, .bool x.f2], .pointer (some ⟨g, 0, none⟩)] w _
  go_enter Try.func30, Try.ntmps30
  go_wp2_with ((with_reducible refine gate_dst (N := 2) rfl ?_); refine box_event ?hg (N := 2) ?hd (cs := #[.int .i64 x.f0, .string x.f1, .bool x.f2]) (t := 27) ?hr ?_; (case hd => rfl); (case hg => rfl); (case hr => first | (go_simp; done) | (go_simp; rfl)); intro g0 hg0 w2 hbox hb; have h0_ := (blk_cell hbox 0).trans rfl; have h1_ := (blk_cell (blk_below HG.out hb) 0).trans rfl; have HB := Aside0.mk hb; clear hbox hb hg0)
  go_ret
  exact ⟨rfl, HB.out⟩
theorem place_calls (A : Option Addr) (c : Nat) (l : List S27) (a1 : Int) (w : World) (hC : Kd.C k27 w A l.length l) :
    Calls Try.prog 23 #[.slice A l.length c, .int .i64 a1] w fun e w' => e = .returned (.int .i64 (idx (fun x => x.f0 == a1) l)) ∧ Below w.heap.size w w' := by
  have HC := Aside0.mk hC
  clear hC
  go_enter Try.func23, Try.ntmps23
  go_wp2_with (first | ((with_reducible refine gate_dst (N := 3) rfl ?_); refine box_event ?hg (N := 3) ?hd (cs := #[.int .i64 a1]) (t := 3) ?hr ?_; (case hd => rfl); (case hg => rfl); (case hr => first | (go_simp; done) | (go_simp; rfl)); intro g0 hg0 w2 hbox hb; have HB := Aside0.mk hb; have BK := Aside0.mk hbox; clear hbox hb hg0) | (go_at_call 27; refine (index_calls (place_pred g0 a1) A c l w2 (Kd.C_below HC.out HB.out) (fun q hq => by rw [List.mem_singleton.1 hq]; exact BK.out)).mono ?_; rintro e w3 ⟨rfl, hb⟩; have HB2 := Aside0.mk (below_step HB.out hb); clear hb))
  go_ret
  exact ⟨rfl, HB2.out⟩
def first.T1 : Bool × List (List Nat × List Nat) := (true, [([], []), ([0], [0]), ([], []), ([2], [2]), ([], []), ([3, 4, 3], [3, 4]), ([1, 5, 5], [1, 5]), ([6, 6, 0, 1, 2, 3, 4, 5, 6], [6])])
def first.B1 : List Nat := [0, 1, 0, 4, 0, 28, 63, 127]
theorem first.tab1 : rtab .any (opsOf Try.f24 1) = first.T1 := by kernel_rfl
theorem first.bits1 : waitsOk first.T1.2 first.B1 = true := by kernel_rfl
theorem first_calls (A : Option Addr) (c : Nat) (l : List S27) (x0 : Int) (x1 : ByteArray) (x2 : Bool) (w : World) (hC : Kd.C k27 w A l.length l) (hl : l.length ≤ 1000000) :
    Calls Try.prog 24 #[.slice A l.length c, .agg #[.int .i64 x0, .string x1, .bool x2]] w fun e w' => ∃ v, e = .returned v ∧ Kd.R k27 27 w' w.heap.size (fun _ => True) v (⟨x0, x1, x2⟩ :: keep (fun y => y.f0 == x0) l) ∧ Below w.heap.size w w' := by
  have HC := Aside0.mk hC
  clear hC
  have hu27 := Try.underlying27
  go_enter Try.func24, Try.ntmps24
  go_wp2_with ((with_reducible refine gate_dst (N := 3) rfl ?_); refine box_event ?hg (N := 3) ?hd (cs := #[.int .i64 x0, .string x1, .bool x2]) (t := 27) ?hr ?_; (case hd => rfl); (case hg => rfl); (case hr => first | (go_simp; done) | (go_simp; rfl)); intro g hg0 w2 hbox hb; have HB := Aside0.mk (below_drew1 hb); have BK := Aside0.mk (blk_drew hbox); clear hbox hb hg0)
  have D13 := True.intro
  refine start_ (n := 8) (S := fun w' => True) (ds := []) #[false, false, false, false, false, false, false, false] (by kernel_rfl) rfl rfl trivial (fun hHeld => ?_); refine with_tabW first.tab1 first.bits1 (fun HT_ HW_ => ?_)
  generalize w2.drew = w3 at HB BK ⊢
  refine pure_ (i := 2) (N := some 7) (v := ?_) (a' := ?_) #[false, false, true, false, false, false, false, false] rfl rfl (any_of HT_.out (by kernel_rfl)) (fun _ _ _ h => h) (Or.inl ⟨by rfl, ?_⟩) ?_ ?_
  rotate_left
  · intro w'
    go_simp
    with_reducible rfl
  rotate_left
  · simp only [Act.put, List.setIfInBounds_toArray, List.set_cons_zero, List.set_cons_succ, i64_w, i32_w]
    rfl
  refine pure_ (i := 4) (N := some 9) (v := ?_) (a' := ?_) #[false, false, true, false, true, false, false, false] rfl rfl (any_of HT_.out (by kernel_rfl)) (fun _ _ _ h => h) (Or.inl ⟨by rfl, ?_⟩) ?_ ?_
  rotate_left
  · intro w'
    go_simp
    with_reducible rfl
  rotate_left
  · simp only [Act.put, List.setIfInBounds_toArray, List.set_cons_zero, List.set_cons_succ, i64_w, i32_w]
    rfl
  refine inv_at [0, 1, 3, 5, 6, 7] (fun a0_ b a w' => ∃ (v1 : Value) (v3 : Value) (v5 : Value) (v6 : Value) (m7_ : Value), a = putSel a0_ b [(0, 5, (.agg #[.int .i64 x0, .string x1, .bool x2])), (1, 6, v1), (3, 8, v3), (5, 10, v5), (6, 11, v6), (7, 4, m7_)] ∧ (Below w.heap.size w w') ∧ (b 6 = false → w'.heap[g]? = some (.cells #[.int .i64 x0, .string x1, .bool x2] 27 (0, 0))) ∧ (b 1 = true → b 6 = false → Kd.R k27 27 w' w.heap.size (fun _ => True) v1 [(⟨x0, x1, x2⟩ : S27)]) ∧ (b 3 = true → b 5 = false → Kd.R k27 27 w' w.heap.size (fun _ => True) v3 l) ∧ (b 3 = true → some g ≠ (v3 : Value).ownBlock) ∧ (b 3 = true → b 6 = false → ∀ k, (v3 : Value).ownBlock = some k → k < w'.heap.size) ∧ ((b 1 = true → b 3 = true → (v1 : Value).ownBlock ≠ (v3 : Value).ownBlock)) ∧ (b 5 = true → b 6 = false → Kd.R k27 27 w' w.heap.size (fun _ => True) v5 (keep (fun y => y.f0 == x0) l)) ∧ (b 6 = true → Kd.R k27 27 w' w.heap.size (fun _ => True) v6 ((⟨x0, x1, x2⟩ : S27) :: (keep (fun y => y.f0 == x0) l))) ∧ (b 7 = true → (m7_ : Value) = v6)) HT_.out HW_.out (by kernel_rfl) (by kernel_rfl) ?_ ?_ ?_
  · exact ⟨.bool false, .bool false, .bool false, .bool false, .bool false, by simp only [putSel, Bool.false_eq_true, if_false], HB.out, fun _ => BK.out, fun h_ => absurd h_ (by decide), fun h_ => absurd h_ (by decide), fun h_ => absurd h_ (by decide), fun h_ => absurd h_ (by decide), fun h_ => absurd h_ (by decide), fun h_ => absurd h_ (by decide), fun h_ => absurd h_ (by decide), fun h_ => absurd h_ (by decide)⟩
  · skip
    clear BK D13 HB
    refine steps_cons ?_ ?_
    · rintro b a w' ⟨v1, v3, v5, v6, m7_, ha, Q_HB, Q_BK, Q_R1, Q_R3, Q_N3, Q_L3, Q_D13, Q_R5, Q_R6, Q_X7_⟩ hb_ hon hoff
      refine ⟨_, rfl, fun K hK => ?_⟩
      have e3 : a.tmps[3]? = some (.pointer (some ⟨g, 0, none⟩)) := by rw [ha]; exact (putSel_off rfl).trans rfl
      replace ha := Aside0.mk ha
      have HB := Aside0.mk Q_HB
      have BK := Aside0.mk (Q_BK (hoff 6 (by kernel_rfl)))
      have D13 := Aside0.mk Q_D13
      have hc0_ : w'.cell? ⟨g, 0, none⟩ = some (.int .i64 x0) := (blk_cell BK.out 0).trans rfl
      have hc1_ : w'.cell? ⟨g, 1, none⟩ = some (.string x1) := (blk_cell BK.out 1).trans rfl
      have hc2_ : w'.cell? ⟨g, 2, none⟩ = some (.bool x2) := (blk_cell BK.out 2).trans rfl
      refine value_ (w1 := w') (v := (.agg #[.int .i64 x0, .string x1, .bool x2])) (by rfl) rfl ?_ ?_
      · go_simp
        (try simp only [i64_w])
        try rfl
      refine hK.out _ _ ⟨v1, v3, v5, v6, m7_, (by rw [ha.out]; exact putSel_upk 0 hb_ rfl rfl rfl), Q_HB, Q_BK, fun h0_ _ => absurd ((hoff 1 (by kernel_rfl)).symm.trans h0_) (by decide), Q_R3, Q_N3, Q_L3, Q_D13, Q_R5, fun h0_ => absurd ((hoff 6 (by kernel_rfl)).symm.trans h0_) (by decide), fun h0_ => absurd ((hoff 7 (by kernel_rfl)).symm.trans h0_) (by decide)⟩
    refine steps_cons ?_ ?_
    · rintro b a w' ⟨v1, v3, v5, v6, m7_, ha, Q_HB, Q_BK, Q_R1, Q_R3, Q_N3, Q_L3, Q_D13, Q_R5, Q_R6, Q_X7_⟩ hb_ hon hoff
      refine ⟨_, rfl, fun K hK => ?_⟩
      have e5 : a.tmps[5]? = some ((.agg #[.int .i64 x0, .string x1, .bool x2])) := by rw [ha]; exact putSel_on (e := (0, 5, (.agg #[.int .i64 x0, .string x1, .bool x2]))) 0 rfl rfl (hon 0 (by kernel_rfl)) rfl
      replace ha := Aside0.mk ha
      have HB := Aside0.mk Q_HB
      have BK := Aside0.mk (Q_BK (hoff 6 (by kernel_rfl)))
      have D13 := Aside0.mk Q_D13
      refine Kd.R_lit_step k27 w.heap.size 27 (w0 := w) (by rfl) (N := 6) rfl (xs := [(⟨x0, x1, x2⟩ : S27)]) (inner := [.int .i64 x0, .string x1, .bool x2]) (ok := fun _ => True) (okp := fun _ => True) ?hr ?hp (fun _ hk => hk) trivial HB.out HB.out.size (by simp) ?_
      case hr => first | (go_simp; done) | (go_simp; rfl)
      case hp => exact (Reps.c3 (k27_mkM _ _ _ (⟨x0, x1, x2⟩ : S27)) (Reps.none _ _))
      intro v1_ w1_ h1_ hb1 hg1 hn1
      have hbel := below_of_grown hg1
      have z_D13 := fun (_ : up b 1 1 = true) (h3_ : b 3 = true) => (show (v1_ : Value).ownBlock ≠ (v3 : Value).ownBlock from lit_apart hn1 (fun k hk => Q_L3 h3_ (hoff 6 (by kernel_rfl)) k hk))
      refine hK.out _ _ ⟨v1_, v3, v5, v6, m7_, (by rw [ha.out]; exact putSel_upk 1 hb_ rfl rfl rfl), hb1, fun _ => blk_below BK.out hbel, fun _ _ => h1_, fun h0_ h1_ => Kd.R_below (Q_R3 h0_ h1_) hbel, Q_N3, fun h0_ h1_ => fun k hk => Nat.lt_of_lt_of_le ((Q_L3 h0_ h1_) k hk) hbel.size, z_D13, fun h0_ h1_ => Kd.R_below (Q_R5 h0_ h1_) hbel, fun h0_ => absurd ((hoff 6 (by kernel_rfl)).symm.trans h0_) (by decide), fun h0_ => absurd ((hoff 7 (by kernel_rfl)).symm.trans h0_) (by decide)⟩
    refine steps_cons ?_ ?_
    · rintro b a w' ⟨v1, v3, v5, v6, m7_, ha, Q_HB, Q_BK, Q_R1, Q_R3, Q_N3, Q_L3, Q_D13, Q_R5, Q_R6, Q_X7_⟩ hb_ hon hoff
      refine ⟨_, rfl, fun K hK => ?_⟩
      have e7 : a.tmps[7]? = some ((.slice A l.length c)) := by rw [ha]; exact (putSel_off rfl).trans rfl
      replace ha := Aside0.mk ha
      have HB := Aside0.mk Q_HB
      have BK := Aside0.mk (Q_BK (hoff 6 (by kernel_rfl)))
      have D13 := Aside0.mk Q_D13
      refine goes_ Try.func26 rfl rfl #[.slice A l.length c] (by rfl) rfl rfl (by first | (simp only [List.map_toArray, List.map_cons, List.map_nil, Act.eval, Array.getD_eq_getD_getElem?, Option.getD_some, e7]; done) | (simp only [List.map_toArray, List.map_cons, List.map_nil, Act.eval, Array.getD_eq_getD_getElem?, Option.getD_some, e7]; rfl)) ?_
      refine (clone_calls A c l w' (Kd.C_below HC.out HB.out) hl).mono ?_
      rintro e_ w4_ ⟨v3_, rfl, h3, hbel⟩
      refine ⟨_, rfl, ?_⟩
      have hN3 : some g ≠ (v3_ : Value).ownBlock := fun he => by have h_ := Kd.R_base h3 g he.symm; have h2_ := blk_lt BK.out; omega
      have z_D13 := fun (h1_ : b 1 = true) (_ : up b 3 3 = true) => (show (v1 : Value).ownBlock ≠ (v3_ : Value).ownBlock from row_apart (Q_R1 h1_ (hoff 6 (by kernel_rfl))) (by simp) h3)
      refine hK.out _ _ ⟨v1, v3_, v5, v6, m7_, (by rw [ha.out]; exact putSel_upk 2 hb_ rfl rfl rfl), below_step HB.out hbel, fun _ => blk_below BK.out hbel, fun h0_ h1_ => Kd.R_below (Q_R1 h0_ h1_) hbel, fun _ _ => Kd.R_lower h3 HB.out.size, fun _ => hN3, fun _ _ => Kd.R_lt h3, z_D13, fun h0_ _ => absurd ((hoff 5 (by kernel_rfl)).symm.trans h0_) (by decide), fun h0_ => absurd ((hoff 6 (by kernel_rfl)).symm.trans h0_) (by decide), fun h0_ => absurd ((hoff 7 (by kernel_rfl)).symm.trans h0_) (by decide)⟩
    refine steps_cons ?_ ?_
    · rintro b a w' ⟨v1, v3, v5, v6, m7_, ha, Q_HB, Q_BK, Q_R1, Q_R3, Q_N3, Q_L3, Q_D13, Q_R5, Q_R6, Q_X7_⟩ hb_ hon hoff
      refine ⟨_, rfl, fun K hK => ?_⟩
      have e8 : a.tmps[8]? = some (v3) := by rw [ha]; exact putSel_on (e := (3, 8, v3)) 2 rfl rfl (hon 3 (by kernel_rfl)) rfl
      have e9 : a.tmps[9]? = some ((.func (.func 30) #[] #[.pointer (some ⟨g, 0, none⟩)])) := by rw [ha]; exact (putSel_off rfl).trans rfl
      replace ha := Aside0.mk ha
      have HB := Aside0.mk Q_HB
      have BK := Aside0.mk (Q_BK (hoff 6 (by kernel_rfl)))
      have R3 := Aside0.mk (Q_R3 (hon 3 (by kernel_rfl)) hb_)
      have N3 := Aside0.mk (Q_N3 (hon 3 (by kernel_rfl)))
      have L3 := Aside0.mk (Q_L3 (hon 3 (by kernel_rfl)) (hoff 6 (by kernel_rfl)))
      have D13 := Aside0.mk Q_D13
      refine goes_ Try.func29 rfl rfl #[v3, (.func (.func 30) #[] #[.pointer (some ⟨g, 0, none⟩)])] (by rfl) rfl rfl (by first | (simp only [List.map_toArray, List.map_cons, List.map_nil, Act.eval, Array.getD_eq_getD_getElem?, Option.getD_some, e8, e9]; done) | (simp only [List.map_toArray, List.map_cons, List.map_nil, Act.eval, Array.getD_eq_getD_getElem?, Option.getD_some, e8, e9]; rfl)) ?_
      refine (delete_any (first_pred g x0 x1 x2) v3 l w' w.heap.size (fun _ => True) R3.out hl (fun q hq => by rw [List.mem_singleton.1 hq]; exact BK.out) (fun q hq => by rw [List.mem_singleton.1 hq]; exact N3.out)).mono ?_
      rintro e_ w4_ ⟨v5_, rfl, h5, hg5, ho5⟩
      refine ⟨_, rfl, ?_⟩
      have z_R1 := fun (h0_ : b 1 = true) (h1_ : b 6 = false) => (show Kd.R k27 27 w4_ w.heap.size (fun _ => True) v1 [(⟨x0, x1, x2⟩ : S27)] from Kd.R_grown2 (Q_R1 h0_ h1_) rfl hg5 (fun k hk => by rw [← hk]; exact fun he => Q_D13 h0_ (hon 3 (by kernel_rfl)) he.symm))
      refine hK.out _ _ ⟨v1, v3, v5_, v6, m7_, (by rw [ha.out]; exact putSel_upk 3 hb_ rfl rfl rfl), HB.out.grown hg5 HB.out.size (fun k hk => Kd.R_base R3.out k hk), fun _ => blk_grown BK.out hg5 N3.out, z_R1, fun _ h1_ => absurd ((up_self b 5).symm.trans h1_) (by decide), Q_N3, fun _ _ => fun k hk => Nat.lt_of_lt_of_le (L3.out k hk) hg5.size, Q_D13, fun _ _ => h5, fun h0_ => absurd ((hoff 6 (by kernel_rfl)).symm.trans h0_) (by decide), fun h0_ => absurd ((hoff 7 (by kernel_rfl)).symm.trans h0_) (by decide)⟩
    refine steps_cons ?_ ?_
    · rintro b a w' ⟨v1, v3, v5, v6, m7_, ha, Q_HB, Q_BK, Q_R1, Q_R3, Q_N3, Q_L3, Q_D13, Q_R5, Q_R6, Q_X7_⟩ hb_ hon hoff
      refine ⟨_, rfl, fun K hK => ?_⟩
      have e6 : a.tmps[6]? = some (v1) := by rw [ha]; exact putSel_on (e := (1, 6, v1)) 1 rfl rfl (hon 1 (by kernel_rfl)) rfl
      have e10 : a.tmps[10]? = some (v5) := by rw [ha]; exact putSel_on (e := (5, 10, v5)) 3 rfl rfl (hon 5 (by kernel_rfl)) rfl
      replace ha := Aside0.mk ha
      have HB := Aside0.mk Q_HB
      have BK := Aside0.mk (Q_BK hb_)
      have R1 := Aside0.mk (Q_R1 (hon 1 (by kernel_rfl)) hb_)
      have N3 := Aside0.mk (Q_N3 (hon 3 (by kernel_rfl)))
      have L3 := Aside0.mk (Q_L3 (hon 3 (by kernel_rfl)) hb_)
      have D13 := Aside0.mk Q_D13
      have R5 := Aside0.mk (Q_R5 (hon 5 (by kernel_rfl)) hb_)
      obtain ⟨A5, c5, e5_⟩ := Kd.R_slice R5.out
      subst e5_
      refine Kd.R_append_rows_step k27 (w0 := w) w.heap.size (by rfl) (.tmp 6) (.tmp 10) 22 27 (.agg #[.int .i64 0, .string (⟨#[]⟩ : ByteArray), .bool false]) 32 rfl Try.underlying22 put_E rfl (by decide) (by decide) v1 [(⟨x0, x1, x2⟩ : S27)] (keep (fun y => y.f0 == x0) l) A5 _ c5 (fun _ => True) (fun _ => False) (eval_of e6) (eval_of e10) R1.out (Kd.R_reads' R5.out).2.2 (fun x cs h => by rw [k27_open h]; exact k27_mkM _ _ _ x) (fun _ h => h.elim) (fun _ _ => trivial) HB.out HB.out.size (by have := keep_le (fun y => y.f0 == x0) l; simp; omega) ?_
      intro v6_ w4_ h6 hb6 hg6 hn6
      refine hK.out _ _ ⟨v1, v3, (.slice A5 (keep (fun y => y.f0 == x0) l).length c5), v6_, m7_, (by rw [ha.out]; exact putSel_upk 4 hb_ rfl rfl rfl), hb6, fun h0_ => absurd ((up_self b 6).symm.trans h0_) (by decide), fun _ h1_ => absurd ((up_self b 6).symm.trans h1_) (by decide), fun _ h1_ => absurd ((hon 5 (by kernel_rfl)).symm.trans h1_) (by decide), Q_N3, fun _ h1_ => absurd ((up_self b 6).symm.trans h1_) (by decide), Q_D13, fun _ h1_ => absurd ((up_self b 6).symm.trans h1_) (by decide), fun _ => h6, fun h0_ => absurd ((hoff 7 (by kernel_rfl)).symm.trans h0_) (by decide)⟩
    refine steps_cons ?_ ?_
    · rintro b a w' ⟨v1, v3, v5, v6, m7_, ha, Q_HB, Q_BK, Q_R1, Q_R3, Q_N3, Q_L3, Q_D13, Q_R5, Q_R6, Q_X7_⟩ hb_ hon hoff
      refine ⟨_, rfl, fun K hK => ?_⟩
      have e11 : a.tmps[11]? = some (v6) := by rw [ha]; exact putSel_on (e := (6, 11, v6)) 4 rfl rfl (hon 6 (by kernel_rfl)) rfl
      replace ha := Aside0.mk ha
      have HB := Aside0.mk Q_HB
      have N3 := Aside0.mk (Q_N3 (hon 3 (by kernel_rfl)))
      have D13 := Aside0.mk Q_D13
      have R6 := Aside0.mk (Q_R6 (hon 6 (by kernel_rfl)))
      refine value_ (w1 := w') (v := v6) (by rfl) rfl ?_ ?_
      · go_simp
        (try simp only [i64_w])
        try rfl
      refine hK.out _ _ ⟨v1, v3, v5, v6, (v6), (by rw [ha.out]; exact putSel_upk 5 hb_ rfl rfl rfl), Q_HB, fun h0_ => absurd ((hon 6 (by kernel_rfl)).symm.trans h0_) (by decide), fun _ h1_ => absurd ((hon 6 (by kernel_rfl)).symm.trans h1_) (by decide), fun _ h1_ => absurd ((hon 5 (by kernel_rfl)).symm.trans h1_) (by decide), Q_N3, fun _ h1_ => absurd ((hon 6 (by kernel_rfl)).symm.trans h1_) (by decide), Q_D13, fun _ h1_ => absurd ((hon 6 (by kernel_rfl)).symm.trans h1_) (by decide), Q_R6, fun _ => rfl⟩
    exact steps_nil
  · rintro b a w' hall ⟨v1, v3, v5, v6, m7_, ha, Q_HB, Q_BK, Q_R1, Q_R3, Q_N3, Q_L3, Q_D13, Q_R5, Q_R6, Q_X7_⟩
    clear BK D13 HB
    have hb0_ := hall 0 (by kernel_rfl)
    have hb1_ := hall 1 (by kernel_rfl)
    have hb3_ := hall 3 (by kernel_rfl)
    have hb5_ := hall 5 (by kernel_rfl)
    have hb6_ := hall 6 (by kernel_rfl)
    have hb7_ := hall 7 (by kernel_rfl)
    subst ha
    obtain rfl := Q_X7_ hb7_
    simp only [putSel, hb0_, hb1_, hb3_, hb5_, hb6_, hb7_, if_true, Act.put, List.setIfInBounds_toArray, List.set_cons_zero, List.set_cons_succ]
    have HB := Aside0.mk Q_HB
    clear Q_HB
    clear Q_BK
    clear Q_R1
    clear Q_R3
    have N3 := Aside0.mk (Q_N3 hb3_)
    clear Q_N3
    clear Q_L3
    have D13 := Aside0.mk Q_D13
    clear Q_D13
    clear Q_R5
    have R6 := Aside0.mk (Q_R6 hb6_)
    clear Q_R6
    clear hall hb0_ hb1_ hb3_ hb5_ hb6_ hb7_
    go_wp2
    go_ret
    exact ⟨_, rfl, R6.out, HB.out⟩
end Go.Proofs.Ytgjngaeoojcioaa.Ext
