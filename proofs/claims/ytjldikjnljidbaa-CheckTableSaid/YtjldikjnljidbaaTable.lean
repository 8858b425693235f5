/- The law CheckTable, walked: a table of 256 numbers read, and three sums. -/
import Derived.Test.YtjldikjnljidbaaHand
import Derived.Test.YtjldikjnljidbaaXx2
import Derived.Test.YtjldikjnljidbaaXx4
namespace Go.Proofs.Ytjldikjnljidbaa.Table
open Go Go.RowKit Go.Proofs.Ytjldikjnljidbaa.X Go.Proofs.YtjldikjnljidbaaW Go.Proofs.YtjldikjnljidbaaW.PrintWords Go.Proofs.YtjldikjnljidbaaW.PrintLast Go.Proofs.YtjldikjnljidbaaW.PrintMore
set_option linter.unusedVariables false
set_option linter.unusedSimpArgs false
set_option maxRecDepth 100000
set_option maxHeartbeats 4000000
def Table.T4 : Bool × List (List Nat × List Nat) := (true, [([], []), ([0], [0]), ([1], [1]), ([], []), ([3], [3]), ([4], [4]), ([5], [5]), ([2, 6], [2, 6]), ([7, 6], [7]), ([8], [8]), ([8], [8]), ([9, 10, 8], [8, 9, 10]), ([11, 8], [8, 11]), ([12, 8], [8, 12]), ([8], [8]), ([14, 8], [8, 14]), ([15, 8], [8, 15]), ([8], [8]), ([17, 8], [8, 17]), ([18, 8], [8, 18]), ([16, 19, 8], [8, 16, 19]), ([13, 20, 8], [8, 13, 20]), ([8, 21], [8, 21]), ([22, 8], [22]), ([23], [23]), ([24, 23, 23], [23, 24]), ([23], [23]), ([26, 23], [23, 26]), ([25, 27, 23], [23, 25, 27]), ([23, 28], [23, 28]), ([29, 25], [29]), ([30, 30], [30]), ([30, 31], [30, 31]), ([32, 31, 0, 1, 2, 3, 4, 5, 6, 7, 8, 9, 10, 11, 12, 13, 14, 15, 16, 17, 18, 19, 20, 21, 22, 23, 24, 25, 26, 27, 28, 29, 30, 31, 32], [32])])
def Table.B4 : List Nat := [0, 1, 3, 0, 8, 24, 56, 127, 255, 511, 511, 2047, 4095, 8191, 511, 16895, 49663, 511, 131583, 393727, 1032703, 2097151, 4194303, 8388607, 16777215, 33554431, 16777215, 83886079, 268435455, 536870911, 1073741823, 2147483647, 4294967295, 8589934591]
theorem Table.tab4 : rtab .any (opsOf Try.f7 4) = Table.T4 := by kernel_rfl
theorem Table.bits4 : waitsOk Table.T4.2 Table.B4 = true := by kernel_rfl
theorem below_of_grown {w w1 : World} (h : w.grownBy w1 none) : Below w.heap.size w w1 := ⟨h.os, h.tape, h.output, h.size, fun k hk => h.block k hk (by simp)⟩
theorem tab_cell {w : World} {g : Nat} (h : w.heap[g]? = some (.cells (Hand.tabV 256) 34 (0, 0))) (i : Nat) (hi : i < 256) : w.cell? ⟨g, i, none⟩ = some (.int .u32 (Hand.tabI i)) := (blk_cell h i).trans (by rw [Hand.tabV_get 256 i hi, if_pos hi])
theorem law_calls (i k n x1 x2 x3 : Int) (q : Bool) (hi0 : 0 ≤ i) (hi1 : i < 256) (hk0 : 0 ≤ k) (hk1 : k < 256) (hn0 : 0 ≤ n) (hn1 : n < 4294967296) (x : Int) (hx0 : 0 ≤ x) (hx1 : x < 256) (hxx : Go.bits .xor .u8 i k = x)
    (e1 : Hand.tabI i.toNat = x1) (e2 : Hand.tabI k.toNat = x2) (e3 : Hand.tabI x.toNat = x3) (e4 : Go.bits .xor .u32 x1 x2 = x3) (q1 : (x1 == 0) = q) (q2 : (i == 0) = q) (m1 : check_More.f 0 (strOfNums [i]) = some x1) (m2 : check_More.f n (⟨#[]⟩ : ByteArray) = some (n % 16777216)) (w : World) :
    Calls Try.prog 7 #[.int .u8 i, .int .u8 k, .int .u32 n] w fun e w' => e = .returned (.bool true) ∧ Below w.heap.size w w' := by
  have E1 := Aside0.mk e1
  have E2 := Aside0.mk e2
  have E3 := Aside0.mk e3
  have M1 := Aside0.mk m1
  have M2 := Aside0.mk m2
  have XX := Aside0.mk hxx
  have X4 := Aside0.mk e4
  clear e1 e2 e3 m1 m2 hxx e4
  go_enter Try.func7, Try.ntmps7
  go_wp2_with (first | (go_at_call 16; refine (Hand.table_calls _).mono ?_; rintro e w1 ⟨rfl, hb⟩; have HB1 := Aside0.mk hb; clear hb) | ((with_reducible refine gate_dst (N := 7) rfl ?_); refine box_event ?hg (N := 7) ?hd (cs := Hand.zeros) (t := 34) ?hr ?_; (case hd => rfl); (case hg => rfl); (case hr => kernel_rfl); intro g hg0 w2 hbox0 hb0; have BK2 := Aside0.mk hbox0; have GE := Aside0.mk (show w.heap.size ≤ g by rw [hg0]; exact below_size HB1.out); have HB2 := Aside0.mk (below_step HB1.out hb0); clear hbox0 hb0 hg0) | (with_reducible refine store_row_event rfl 34 _ _ rfl _ (Hand.tabV 256) rfl rfl 34 Hand.zeros BK2.out (Hand.tab_info 256) (Hand.tab_hold 256) (Hand.tab_one 256) ?_; intro w3 hk hbel; have BK := Aside0.mk hk; have HB := Aside0.mk (hbel w HB2.out GE.out); have hc1 := (tab_cell hk i.toNat (by omega)).trans (by rw [E1.out]); clear HB1 BK2 HB2 GE hk hbel))
  refine start_ (n := 34) (S := fun w' => True) (ds := []) #[false, false, false, false, false, false, false, false, false, false, false, false, false, false, false, false, false, false, false, false, false, false, false, false, false, false, false, false, false, false, false, false, false, false] (by kernel_rfl) rfl rfl trivial (fun hHeld => ?_); refine with_tabW Table.tab4 Table.bits4 (fun HT_ HW_ => ?_)
  replace HB := Aside0.mk (below_drew1 HB.out)
  replace BK := Aside0.mk (blk_drew BK.out)
  generalize w3.drew = w4 at HB BK ⊢
  refine inv_at [0, 1, 2, 3, 4, 5, 6, 7, 8, 9, 10, 11, 12, 13, 14, 15, 16, 17, 18, 19, 20, 21, 22, 23, 24, 25, 26, 27, 28, 29, 30, 31, 32, 33] (fun a0_ b a w' => ∃ (v20 : Value), a = putSel a0_ b [(0, 16, .int .u8 i), (1, 17, .pointer (some ⟨g, i.toNat, none⟩)), (2, 18, .int .u32 x1), (3, 19, .int .u8 i), (4, 20, v20), (5, 21, .string (strOfNums [i])), (6, 22, .int .u32 x1), (7, 23, .bool true), (8, 24, .bool true), (9, 25, .int .u8 i), (10, 26, .int .u8 k), (11, 27, .int .u8 x), (12, 28, .pointer (some ⟨g, x.toNat, none⟩)), (13, 29, .int .u32 x3), (14, 30, .int .u8 i), (15, 31, .pointer (some ⟨g, i.toNat, none⟩)), (16, 32, .int .u32 x1), (17, 33, .int .u8 k), (18, 34, .pointer (some ⟨g, k.toNat, none⟩)), (19, 35, .int .u32 x2), (20, 36, .int .u32 x3), (21, 37, .bool true), (22, 38, .bool true), (23, 39, .bool true), (24, 40, .int .u32 n), (25, 41, .int .u32 (n % 16777216)), (26, 42, .int .u32 n), (27, 43, .int .u32 (n % 16777216)), (28, 44, .bool true), (29, 45, .bool true), (30, 46, .bool true), (31, 47, .bool true), (32, 48, .bool true), (33, 6, .bool true)] ∧ (Below w.heap.size w w') ∧ (w'.heap[g]? = some (.cells (Hand.tabV 256) 34 (0, 0))) ∧ (b 4 = true → b 5 = false → Kd.R (Kd.int .u8) 5 w' w.heap.size (fun _ => True) v20 [i])) HT_.out HW_.out (by kernel_rfl) (by kernel_rfl) ?_ ?_ ?_
  · exact ⟨.bool false, by simp only [putSel, Bool.false_eq_true, if_false], HB.out, BK.out, fun h_ => absurd h_ (by decide)⟩
  · skip
    clear BK HB
    refine steps_cons ?_ ?_
    · rintro b a w' ⟨v20, ha, Q_HB, Q_BK, Q_R4⟩ hb_ hon hoff
      refine ⟨_, rfl, fun K hK => ?_⟩
      have e0 : a.tmps[0]? = some (.int .u8 i) := by rw [ha]; exact (putSel_off rfl).trans rfl
      replace ha := Aside0.mk ha
      have HB := Aside0.mk Q_HB
      have BK := Aside0.mk Q_BK
      refine value_ (w1 := w') (v := .int .u8 i) (by rfl) rfl ?_ ?_
      · go_simp
        (try simp only [i64_w])
        try rfl
      refine hK.out _ _ ⟨v20, (by rw [ha.out]; exact putSel_upk 0 hb_ rfl rfl rfl), Q_HB, Q_BK, Q_R4⟩
    refine steps_cons ?_ ?_
    · rintro b a w' ⟨v20, ha, Q_HB, Q_BK, Q_R4⟩ hb_ hon hoff
      refine ⟨_, rfl, fun K hK => ?_⟩
      have e7 : a.tmps[7]? = some (.pointer (some ⟨g, 0, none⟩)) := by rw [ha]; exact (putSel_off rfl).trans rfl
      have e16 : a.tmps[16]? = some (.int .u8 i) := by rw [ha]; exact putSel_on (e := (0, 16, .int .u8 i)) 0 rfl rfl (hon 0 (by kernel_rfl)) rfl
      replace ha := Aside0.mk ha
      have HB := Aside0.mk Q_HB
      have BK := Aside0.mk Q_BK
      refine value_ (w1 := w') (v := .pointer (some ⟨g, i.toNat, none⟩)) (by rfl) rfl ?_ ?_
      · go_simp
        (try simp only [i64_w])
        try rfl
      refine hK.out _ _ ⟨v20, (by rw [ha.out]; exact putSel_upk 1 hb_ rfl rfl rfl), Q_HB, Q_BK, Q_R4⟩
    refine steps_cons ?_ ?_
    · rintro b a w' ⟨v20, ha, Q_HB, Q_BK, Q_R4⟩ hb_ hon hoff
      refine ⟨_, rfl, fun K hK => ?_⟩
      have e17 : a.tmps[17]? = some (.pointer (some ⟨g, i.toNat, none⟩)) := by rw [ha]; exact putSel_on (e := (1, 17, .pointer (some ⟨g, i.toNat, none⟩))) 1 rfl rfl (hon 1 (by kernel_rfl)) rfl
      replace ha := Aside0.mk ha
      have HB := Aside0.mk Q_HB
      have BK := Aside0.mk Q_BK
      have hc_ := (tab_cell BK.out i.toNat (by omega)).trans (by rw [E1.out])
      refine value_ (w1 := w') (v := .int .u32 x1) (by rfl) rfl ?_ ?_
      · go_simp
        (try simp only [i64_w])
        try rfl
      refine hK.out _ _ ⟨v20, (by rw [ha.out]; exact putSel_upk 2 hb_ rfl rfl rfl), Q_HB, Q_BK, Q_R4⟩
    refine steps_cons ?_ ?_
    · rintro b a w' ⟨v20, ha, Q_HB, Q_BK, Q_R4⟩ hb_ hon hoff
      refine ⟨_, rfl, fun K hK => ?_⟩
      have e0 : a.tmps[0]? = some (.int .u8 i) := by rw [ha]; exact (putSel_off rfl).trans rfl
      replace ha := Aside0.mk ha
      have HB := Aside0.mk Q_HB
      have BK := Aside0.mk Q_BK
      refine value_ (w1 := w') (v := .int .u8 i) (by rfl) rfl ?_ ?_
      · go_simp
        (try simp only [i64_w])
        try rfl
      refine hK.out _ _ ⟨v20, (by rw [ha.out]; exact putSel_upk 3 hb_ rfl rfl rfl), Q_HB, Q_BK, fun h0_ _ => absurd ((hoff 4 (by kernel_rfl)).symm.trans h0_) (by decide)⟩
    refine steps_cons ?_ ?_
    · rintro b a w' ⟨v20, ha, Q_HB, Q_BK, Q_R4⟩ hb_ hon hoff
      refine ⟨_, rfl, fun K hK => ?_⟩
      have e19 : a.tmps[19]? = some (.int .u8 i) := by rw [ha]; exact putSel_on (e := (3, 19, .int .u8 i)) 3 rfl rfl (hon 3 (by kernel_rfl)) rfl
      replace ha := Aside0.mk ha
      have HB := Aside0.mk Q_HB
      have BK := Aside0.mk Q_BK
      refine Kd.R_lit_step (Kd.int .u8) w.heap.size 5 (w0 := w) (by rfl) (N := 20) rfl (xs := [i]) (inner := [.int .u8 i]) (ok := fun _ => True) (okp := fun _ => True) ?hr ?hp (fun _ hk => hk) trivial HB.out HB.out.size (by simp) ?_
      case hr => first | (go_simp; done) | (go_simp; rfl)
      case hp => exact (Reps.one rfl (Reps.none _ _))
      intro v20_ w1_ h1_ hb1 hg1 hn1
      have hbel := below_of_grown hg1
      refine hK.out _ _ ⟨v20_, (by rw [ha.out]; exact putSel_upk 4 hb_ rfl rfl rfl), hb1, blk_below BK.out hbel, fun _ _ => h1_⟩
    refine steps_cons ?_ ?_
    · rintro b a w' ⟨v20, ha, Q_HB, Q_BK, Q_R4⟩ hb_ hon hoff
      refine ⟨_, rfl, fun K hK => ?_⟩
      have e20 : a.tmps[20]? = some (v20) := by rw [ha]; exact putSel_on (e := (4, 20, v20)) 4 rfl rfl (hon 4 (by kernel_rfl)) rfl
      replace ha := Aside0.mk ha
      have HB := Aside0.mk Q_HB
      have BK := Aside0.mk Q_BK
      have R4 := Aside0.mk (Q_R4 (hon 4 (by kernel_rfl)) hb_)
      have hcv_ := own_string (P := Try.prog) Try.underlying31 Try.underlying5 Try.underlying9 (Kd.own_of_R R4.out)
      refine value_ (w1 := w') (v := .string (strOfNums [i])) (by rfl) rfl ?_ ?_
      · go_simp
        (try simp only [i64_w])
        try rfl
      refine hK.out _ _ ⟨v20, (by rw [ha.out]; exact putSel_upk 5 hb_ rfl rfl rfl), Q_HB, Q_BK, fun _ h1_ => absurd ((up_self b 5).symm.trans h1_) (by decide)⟩
    refine steps_cons ?_ ?_
    · rintro b a w' ⟨v20, ha, Q_HB, Q_BK, Q_R4⟩ hb_ hon hoff
      refine ⟨_, rfl, fun K hK => ?_⟩
      have e21 : a.tmps[21]? = some (.string (strOfNums [i])) := by rw [ha]; exact putSel_on (e := (5, 21, .string (strOfNums [i]))) 5 rfl rfl (hon 5 (by kernel_rfl)) rfl
      replace ha := Aside0.mk ha
      have HB := Aside0.mk Q_HB
      have BK := Aside0.mk Q_BK
      refine goes_ Try.func14 rfl rfl #[.int .u32 0, .string (strOfNums [i])] (by rfl) rfl rfl (by first | (simp only [List.map_toArray, List.map_cons, List.map_nil, Act.eval, Array.getD_eq_getD_getElem?, Option.getD_some, e21]; done) | (simp only [List.map_toArray, List.map_cons, List.map_nil, Act.eval, Array.getD_eq_getD_getElem?, Option.getD_some, e21]; rfl)) ?_
      refine (check_More.calls 0 (strOfNums [i]) x1 w' M1.out).mono ?_
      rintro e_ w4_ ⟨rfl, hbel⟩
      refine ⟨_, rfl, ?_⟩
      refine hK.out _ _ ⟨v20, (by rw [ha.out]; exact putSel_upk 6 hb_ rfl rfl rfl), below_step HB.out hbel, blk_below BK.out hbel, fun _ h1_ => absurd ((hon 5 (by kernel_rfl)).symm.trans h1_) (by decide)⟩
    refine steps_cons ?_ ?_
    · rintro b a w' ⟨v20, ha, Q_HB, Q_BK, Q_R4⟩ hb_ hon hoff
      refine ⟨_, rfl, fun K hK => ?_⟩
      have e18 : a.tmps[18]? = some (.int .u32 x1) := by rw [ha]; exact putSel_on (e := (2, 18, .int .u32 x1)) 2 rfl rfl (hon 2 (by kernel_rfl)) rfl
      have e22 : a.tmps[22]? = some (.int .u32 x1) := by rw [ha]; exact putSel_on (e := (6, 22, .int .u32 x1)) 6 rfl rfl (hon 6 (by kernel_rfl)) rfl
      replace ha := Aside0.mk ha
      have HB := Aside0.mk Q_HB
      have BK := Aside0.mk Q_BK
      refine value_ (w1 := w') (v := .bool true) (by rfl) rfl ?_ ?_
      · go_simp
        (try simp only [i64_w])
        try rfl
      refine hK.out _ _ ⟨v20, (by rw [ha.out]; exact putSel_upk 7 hb_ rfl rfl rfl), Q_HB, Q_BK, fun _ h1_ => absurd ((hon 5 (by kernel_rfl)).symm.trans h1_) (by decide)⟩
    refine steps_cons ?_ ?_
    · rintro b a w' ⟨v20, ha, Q_HB, Q_BK, Q_R4⟩ hb_ hon hoff
      refine ⟨_, rfl, fun K hK => ?_⟩
      have e23 : a.tmps[23]? = some (.bool true) := by rw [ha]; exact putSel_on (e := (7, 23, .bool true)) 7 rfl rfl (hon 7 (by kernel_rfl)) rfl
      replace ha := Aside0.mk ha
      have HB := Aside0.mk Q_HB
      have BK := Aside0.mk Q_BK
      refine value_ (w1 := w') (v := .bool true) (by rfl) rfl ?_ ?_
      · go_simp
        (try simp only [i64_w])
        try rfl
      refine hK.out _ _ ⟨v20, (by rw [ha.out]; exact putSel_upk 8 hb_ rfl rfl rfl), Q_HB, Q_BK, fun _ h1_ => absurd ((hon 5 (by kernel_rfl)).symm.trans h1_) (by decide)⟩
    refine steps_cons ?_ ?_
    · rintro b a w' ⟨v20, ha, Q_HB, Q_BK, Q_R4⟩ hb_ hon hoff
      refine ⟨_, rfl, fun K hK => ?_⟩
      have e0 : a.tmps[0]? = some (.int .u8 i) := by rw [ha]; exact (putSel_off rfl).trans rfl
      have e24 : a.tmps[24]? = some (.bool true) := by rw [ha]; exact putSel_on (e := (8, 24, .bool true)) 8 rfl rfl (hon 8 (by kernel_rfl)) rfl
      replace ha := Aside0.mk ha
      have HB := Aside0.mk Q_HB
      have BK := Aside0.mk Q_BK
      refine value_ (w1 := w') (v := .int .u8 i) (wanted_on rfl rfl rfl (e24.trans (by first | rfl | (simp [*]; done)))) rfl ?_ ?_
      · go_simp
        (try simp only [i64_w])
        try rfl
      refine hK.out _ _ ⟨v20, (by rw [ha.out]; exact putSel_upk 9 hb_ rfl rfl rfl), Q_HB, Q_BK, fun _ h1_ => absurd ((hon 5 (by kernel_rfl)).symm.trans h1_) (by decide)⟩
    refine steps_cons ?_ ?_
    · rintro b a w' ⟨v20, ha, Q_HB, Q_BK, Q_R4⟩ hb_ hon hoff
      refine ⟨_, rfl, fun K hK => ?_⟩
      have e1 : a.tmps[1]? = some (.int .u8 k) := by rw [ha]; exact (putSel_off rfl).trans rfl
      have e24 : a.tmps[24]? = some (.bool true) := by rw [ha]; exact putSel_on (e := (8, 24, .bool true)) 8 rfl rfl (hon 8 (by kernel_rfl)) rfl
      replace ha := Aside0.mk ha
      have HB := Aside0.mk Q_HB
      have BK := Aside0.mk Q_BK
      refine value_ (w1 := w') (v := .int .u8 k) (wanted_on rfl rfl rfl (e24.trans (by first | rfl | (simp [*]; done)))) rfl ?_ ?_
      · go_simp
        (try simp only [i64_w])
        try rfl
      refine hK.out _ _ ⟨v20, (by rw [ha.out]; exact putSel_upk 10 hb_ rfl rfl rfl), Q_HB, Q_BK, fun _ h1_ => absurd ((hon 5 (by kernel_rfl)).symm.trans h1_) (by decide)⟩
    refine steps_cons ?_ ?_
    · rintro b a w' ⟨v20, ha, Q_HB, Q_BK, Q_R4⟩ hb_ hon hoff
      refine ⟨_, rfl, fun K hK => ?_⟩
      have e25 : a.tmps[25]? = some (.int .u8 i) := by rw [ha]; exact putSel_on (e := (9, 25, .int .u8 i)) 9 rfl rfl (hon 9 (by kernel_rfl)) rfl
      have e26 : a.tmps[26]? = some (.int .u8 k) := by rw [ha]; exact putSel_on (e := (10, 26, .int .u8 k)) 10 rfl rfl (hon 10 (by kernel_rfl)) rfl
      have e24 : a.tmps[24]? = some (.bool true) := by rw [ha]; exact putSel_on (e := (8, 24, .bool true)) 8 rfl rfl (hon 8 (by kernel_rfl)) rfl
      replace ha := Aside0.mk ha
      have HB := Aside0.mk Q_HB
      have BK := Aside0.mk Q_BK
      have hxx_ := XX.out
      refine value_ (w1 := w') (v := .int .u8 x) (wanted_on rfl rfl rfl (e24.trans (by first | rfl | (simp [*]; done)))) rfl ?_ ?_
      · go_simp
        (try simp only [i64_w])
        try rfl
      refine hK.out _ _ ⟨v20, (by rw [ha.out]; exact putSel_upk 11 hb_ rfl rfl rfl), Q_HB, Q_BK, fun _ h1_ => absurd ((hon 5 (by kernel_rfl)).symm.trans h1_) (by decide)⟩
    refine steps_cons ?_ ?_
    · rintro b a w' ⟨v20, ha, Q_HB, Q_BK, Q_R4⟩ hb_ hon hoff
      refine ⟨_, rfl, fun K hK => ?_⟩
      have e7 : a.tmps[7]? = some (.pointer (some ⟨g, 0, none⟩)) := by rw [ha]; exact (putSel_off rfl).trans rfl
      have e27 : a.tmps[27]? = some (.int .u8 x) := by rw [ha]; exact putSel_on (e := (11, 27, .int .u8 x)) 11 rfl rfl (hon 11 (by kernel_rfl)) rfl
      have e24 : a.tmps[24]? = some (.bool true) := by rw [ha]; exact putSel_on (e := (8, 24, .bool true)) 8 rfl rfl (hon 8 (by kernel_rfl)) rfl
      replace ha := Aside0.mk ha
      have HB := Aside0.mk Q_HB
      have BK := Aside0.mk Q_BK
      refine value_ (w1 := w') (v := .pointer (some ⟨g, x.toNat, none⟩)) (wanted_on rfl rfl rfl (e24.trans (by first | rfl | (simp [*]; done)))) rfl ?_ ?_
      · go_simp
        (try simp only [i64_w])
        try rfl
      refine hK.out _ _ ⟨v20, (by rw [ha.out]; exact putSel_upk 12 hb_ rfl rfl rfl), Q_HB, Q_BK, fun _ h1_ => absurd ((hon 5 (by kernel_rfl)).symm.trans h1_) (by decide)⟩
    refine steps_cons ?_ ?_
    · rintro b a w' ⟨v20, ha, Q_HB, Q_BK, Q_R4⟩ hb_ hon hoff
      refine ⟨_, rfl, fun K hK => ?_⟩
      have e28 : a.tmps[28]? = some (.pointer (some ⟨g, x.toNat, none⟩)) := by rw [ha]; exact putSel_on (e := (12, 28, .pointer (some ⟨g, x.toNat, none⟩))) 12 rfl rfl (hon 12 (by kernel_rfl)) rfl
      have e24 : a.tmps[24]? = some (.bool true) := by rw [ha]; exact putSel_on (e := (8, 24, .bool true)) 8 rfl rfl (hon 8 (by kernel_rfl)) rfl
      replace ha := Aside0.mk ha
      have HB := Aside0.mk Q_HB
      have BK := Aside0.mk Q_BK
      have hc_ := (tab_cell BK.out x.toNat (by omega)).trans (by rw [E3.out])
      refine value_ (w1 := w') (v := .int .u32 x3) (wanted_on rfl rfl rfl (e24.trans (by first | rfl | (simp [*]; done)))) rfl ?_ ?_
      · go_simp
        (try simp only [i64_w])
        try rfl
      refine hK.out _ _ ⟨v20, (by rw [ha.out]; exact putSel_upk 13 hb_ rfl rfl rfl), Q_HB, Q_BK, fun _ h1_ => absurd ((hon 5 (by kernel_rfl)).symm.trans h1_) (by decide)⟩
    refine steps_cons ?_ ?_
    · rintro b a w' ⟨v20, ha, Q_HB, Q_BK, Q_R4⟩ hb_ hon hoff
      refine ⟨_, rfl, fun K hK => ?_⟩
      have e0 : a.tmps[0]? = some (.int .u8 i) := by rw [ha]; exact (putSel_off rfl).trans rfl
      have e24 : a.tmps[24]? = some (.bool true) := by rw [ha]; exact putSel_on (e := (8, 24, .bool true)) 8 rfl rfl (hon 8 (by kernel_rfl)) rfl
      replace ha := Aside0.mk ha
      have HB := Aside0.mk Q_HB
      have BK := Aside0.mk Q_BK
      refine value_ (w1 := w') (v := .int .u8 i) (wanted_on rfl rfl rfl (e24.trans (by first | rfl | (simp [*]; done)))) rfl ?_ ?_
      · go_simp
        (try simp only [i64_w])
        try rfl
      refine hK.out _ _ ⟨v20, (by rw [ha.out]; exact putSel_upk 14 hb_ rfl rfl rfl), Q_HB, Q_BK, fun _ h1_ => absurd ((hon 5 (by kernel_rfl)).symm.trans h1_) (by decide)⟩
    refine steps_cons ?_ ?_
    · rintro b a w' ⟨v20, ha, Q_HB, Q_BK, Q_R4⟩ hb_ hon hoff
      refine ⟨_, rfl, fun K hK => ?_⟩
      have e7 : a.tmps[7]? = some (.pointer (some ⟨g, 0, none⟩)) := by rw [ha]; exact (putSel_off rfl).trans rfl
      have e30 : a.tmps[30]? = some (.int .u8 i) := by rw [ha]; exact putSel_on (e := (14, 30, .int .u8 i)) 14 rfl rfl (hon 14 (by kernel_rfl)) rfl
      have e24 : a.tmps[24]? = some (.bool true) := by rw [ha]; exact putSel_on (e := (8, 24, .bool true)) 8 rfl rfl (hon 8 (by kernel_rfl)) rfl
      replace ha := Aside0.mk ha
      have HB := Aside0.mk Q_HB
      have BK := Aside0.mk Q_BK
      refine value_ (w1 := w') (v := .pointer (some ⟨g, i.toNat, none⟩)) (wanted_on rfl rfl rfl (e24.trans (by first | rfl | (simp [*]; done)))) rfl ?_ ?_
      · go_simp
        (try simp only [i64_w])
        try rfl
      refine hK.out _ _ ⟨v20, (by rw [ha.out]; exact putSel_upk 15 hb_ rfl rfl rfl), Q_HB, Q_BK, fun _ h1_ => absurd ((hon 5 (by kernel_rfl)).symm.trans h1_) (by decide)⟩
    refine steps_cons ?_ ?_
    · rintro b a w' ⟨v20, ha, Q_HB, Q_BK, Q_R4⟩ hb_ hon hoff
      refine ⟨_, rfl, fun K hK => ?_⟩
      have e31 : a.tmps[31]? = some (.pointer (some ⟨g, i.toNat, none⟩)) := by rw [ha]; exact putSel_on (e := (15, 31, .pointer (some ⟨g, i.toNat, none⟩))) 15 rfl rfl (hon 15 (by kernel_rfl)) rfl
      have e24 : a.tmps[24]? = some (.bool true) := by rw [ha]; exact putSel_on (e := (8, 24, .bool true)) 8 rfl rfl (hon 8 (by kernel_rfl)) rfl
      replace ha := Aside0.mk ha
      have HB := Aside0.mk Q_HB
      have BK := Aside0.mk Q_BK
      have hc_ := (tab_cell BK.out i.toNat (by omega)).trans (by rw [E1.out])
      refine value_ (w1 := w') (v := .int .u32 x1) (wanted_on rfl rfl rfl (e24.trans (by first | rfl | (simp [*]; done)))) rfl ?_ ?_
      · go_simp
        (try simp only [i64_w])
        try rfl
      refine hK.out _ _ ⟨v20, (by rw [ha.out]; exact putSel_upk 16 hb_ rfl rfl rfl), Q_HB, Q_BK, fun _ h1_ => absurd ((hon 5 (by kernel_rfl)).symm.trans h1_) (by decide)⟩
    refine steps_cons ?_ ?_
    · rintro b a w' ⟨v20, ha, Q_HB, Q_BK, Q_R4⟩ hb_ hon hoff
      refine ⟨_, rfl, fun K hK => ?_⟩
      have e1 : a.tmps[1]? = some (.int .u8 k) := by rw [ha]; exact (putSel_off rfl).trans rfl
      have e24 : a.tmps[24]? = some (.bool true) := by rw [ha]; exact putSel_on (e := (8, 24, .bool true)) 8 rfl rfl (hon 8 (by kernel_rfl)) rfl
      replace ha := Aside0.mk ha
      have HB := Aside0.mk Q_HB
      have BK := Aside0.mk Q_BK
      refine value_ (w1 := w') (v := .int .u8 k) (wanted_on rfl rfl rfl (e24.trans (by first | rfl | (simp [*]; done)))) rfl ?_ ?_
      · go_simp
        (try simp only [i64_w])
        try rfl
      refine hK.out _ _ ⟨v20, (by rw [ha.out]; exact putSel_upk 17 hb_ rfl rfl rfl), Q_HB, Q_BK, fun _ h1_ => absurd ((hon 5 (by kernel_rfl)).symm.trans h1_) (by decide)⟩
    refine steps_cons ?_ ?_
    · rintro b a w' ⟨v20, ha, Q_HB, Q_BK, Q_R4⟩ hb_ hon hoff
      refine ⟨_, rfl, fun K hK => ?_⟩
      have e7 : a.tmps[7]? = some (.pointer (some ⟨g, 0, none⟩)) := by rw [ha]; exact (putSel_off rfl).trans rfl
      have e33 : a.tmps[33]? = some (.int .u8 k) := by rw [ha]; exact putSel_on (e := (17, 33, .int .u8 k)) 17 rfl rfl (hon 17 (by kernel_rfl)) rfl
      have e24 : a.tmps[24]? = some (.bool true) := by rw [ha]; exact putSel_on (e := (8, 24, .bool true)) 8 rfl rfl (hon 8 (by kernel_rfl)) rfl
      replace ha := Aside0.mk ha
      have HB := Aside0.mk Q_HB
      have BK := Aside0.mk Q_BK
      refine value_ (w1 := w') (v := .pointer (some ⟨g, k.toNat, none⟩)) (wanted_on rfl rfl rfl (e24.trans (by first | rfl | (simp [*]; done)))) rfl ?_ ?_
      · go_simp
        (try simp only [i64_w])
        try rfl
      refine hK.out _ _ ⟨v20, (by rw [ha.out]; exact putSel_upk 18 hb_ rfl rfl rfl), Q_HB, Q_BK, fun _ h1_ => absurd ((hon 5 (by kernel_rfl)).symm.trans h1_) (by decide)⟩
    refine steps_cons ?_ ?_
    · rintro b a w' ⟨v20, ha, Q_HB, Q_BK, Q_R4⟩ hb_ hon hoff
      refine ⟨_, rfl, fun K hK => ?_⟩
      have e34 : a.tmps[34]? = some (.pointer (some ⟨g, k.toNat, none⟩)) := by rw [ha]; exact putSel_on (e := (18, 34, .pointer (some ⟨g, k.toNat, none⟩))) 18 rfl rfl (hon 18 (by kernel_rfl)) rfl
      have e24 : a.tmps[24]? = some (.bool true) := by rw [ha]; exact putSel_on (e := (8, 24, .bool true)) 8 rfl rfl (hon 8 (by kernel_rfl)) rfl
      replace ha := Aside0.mk ha
      have HB := Aside0.mk Q_HB
      have BK := Aside0.mk Q_BK
      have hc_ := (tab_cell BK.out k.toNat (by omega)).trans (by rw [E2.out])
      refine value_ (w1 := w') (v := .int .u32 x2) (wanted_on rfl rfl rfl (e24.trans (by first | rfl | (simp [*]; done)))) rfl ?_ ?_
      · go_simp
        (try simp only [i64_w])
        try rfl
      refine hK.out _ _ ⟨v20, (by rw [ha.out]; exact putSel_upk 19 hb_ rfl rfl rfl), Q_HB, Q_BK, fun _ h1_ => absurd ((hon 5 (by kernel_rfl)).symm.trans h1_) (by decide)⟩
    refine steps_cons ?_ ?_
    · rintro b a w' ⟨v20, ha, Q_HB, Q_BK, Q_R4⟩ hb_ hon hoff
      refine ⟨_, rfl, fun K hK => ?_⟩
      have e32 : a.tmps[32]? = some (.int .u32 x1) := by rw [ha]; exact putSel_on (e := (16, 32, .int .u32 x1)) 16 rfl rfl (hon 16 (by kernel_rfl)) rfl
      have e35 : a.tmps[35]? = some (.int .u32 x2) := by rw [ha]; exact putSel_on (e := (19, 35, .int .u32 x2)) 19 rfl rfl (hon 19 (by kernel_rfl)) rfl
      have e24 : a.tmps[24]? = some (.bool true) := by rw [ha]; exact putSel_on (e := (8, 24, .bool true)) 8 rfl rfl (hon 8 (by kernel_rfl)) rfl
      replace ha := Aside0.mk ha
      have HB := Aside0.mk Q_HB
      have BK := Aside0.mk Q_BK
      have hxx_ := X4.out
      refine value_ (w1 := w') (v := .int .u32 x3) (wanted_on rfl rfl rfl (e24.trans (by first | rfl | (simp [*]; done)))) rfl ?_ ?_
      · go_simp
        (try simp only [i64_w])
        try rfl
      refine hK.out _ _ ⟨v20, (by rw [ha.out]; exact putSel_upk 20 hb_ rfl rfl rfl), Q_HB, Q_BK, fun _ h1_ => absurd ((hon 5 (by kernel_rfl)).symm.trans h1_) (by decide)⟩
    refine steps_cons ?_ ?_
    · rintro b a w' ⟨v20, ha, Q_HB, Q_BK, Q_R4⟩ hb_ hon hoff
      refine ⟨_, rfl, fun K hK => ?_⟩
      have e29 : a.tmps[29]? = some (.int .u32 x3) := by rw [ha]; exact putSel_on (e := (13, 29, .int .u32 x3)) 13 rfl rfl (hon 13 (by kernel_rfl)) rfl
      have e36 : a.tmps[36]? = some (.int .u32 x3) := by rw [ha]; exact putSel_on (e := (20, 36, .int .u32 x3)) 20 rfl rfl (hon 20 (by kernel_rfl)) rfl
      have e24 : a.tmps[24]? = some (.bool true) := by rw [ha]; exact putSel_on (e := (8, 24, .bool true)) 8 rfl rfl (hon 8 (by kernel_rfl)) rfl
      replace ha := Aside0.mk ha
      have HB := Aside0.mk Q_HB
      have BK := Aside0.mk Q_BK
      refine value_ (w1 := w') (v := .bool true) (wanted_on rfl rfl rfl (e24.trans (by first | rfl | (simp [*]; done)))) rfl ?_ ?_
      · go_simp
        (try simp only [i64_w])
        try rfl
      refine hK.out _ _ ⟨v20, (by rw [ha.out]; exact putSel_upk 21 hb_ rfl rfl rfl), Q_HB, Q_BK, fun _ h1_ => absurd ((hon 5 (by kernel_rfl)).symm.trans h1_) (by decide)⟩
    refine steps_cons ?_ ?_
    · rintro b a w' ⟨v20, ha, Q_HB, Q_BK, Q_R4⟩ hb_ hon hoff
      refine ⟨_, rfl, fun K hK => ?_⟩
      have e24 : a.tmps[24]? = some (.bool true) := by rw [ha]; exact putSel_on (e := (8, 24, .bool true)) 8 rfl rfl (hon 8 (by kernel_rfl)) rfl
      have e37 : a.tmps[37]? = some (.bool true) := by rw [ha]; exact putSel_on (e := (21, 37, .bool true)) 21 rfl rfl (hon 21 (by kernel_rfl)) rfl
      replace ha := Aside0.mk ha
      have HB := Aside0.mk Q_HB
      have BK := Aside0.mk Q_BK
      refine value_ (w1 := w') (v := .bool true) (by rfl) rfl ?_ ?_
      · go_simp
        (try simp only [i64_w])
        try rfl
      refine hK.out _ _ ⟨v20, (by rw [ha.out]; exact putSel_upk 22 hb_ rfl rfl rfl), Q_HB, Q_BK, fun _ h1_ => absurd ((hon 5 (by kernel_rfl)).symm.trans h1_) (by decide)⟩
    refine steps_cons ?_ ?_
    · rintro b a w' ⟨v20, ha, Q_HB, Q_BK, Q_R4⟩ hb_ hon hoff
      refine ⟨_, rfl, fun K hK => ?_⟩
      have e38 : a.tmps[38]? = some (.bool true) := by rw [ha]; exact putSel_on (e := (22, 38, .bool true)) 22 rfl rfl (hon 22 (by kernel_rfl)) rfl
      replace ha := Aside0.mk ha
      have HB := Aside0.mk Q_HB
      have BK := Aside0.mk Q_BK
      refine value_ (w1 := w') (v := .bool true) (by rfl) rfl ?_ ?_
      · go_simp
        (try simp only [i64_w])
        try rfl
      refine hK.out _ _ ⟨v20, (by rw [ha.out]; exact putSel_upk 23 hb_ rfl rfl rfl), Q_HB, Q_BK, fun _ h1_ => absurd ((hon 5 (by kernel_rfl)).symm.trans h1_) (by decide)⟩
    refine steps_cons ?_ ?_
    · rintro b a w' ⟨v20, ha, Q_HB, Q_BK, Q_R4⟩ hb_ hon hoff
      refine ⟨_, rfl, fun K hK => ?_⟩
      have e2 : a.tmps[2]? = some (.int .u32 n) := by rw [ha]; exact (putSel_off rfl).trans rfl
      have e39 : a.tmps[39]? = some (.bool true) := by rw [ha]; exact putSel_on (e := (23, 39, .bool true)) 23 rfl rfl (hon 23 (by kernel_rfl)) rfl
      replace ha := Aside0.mk ha
      have HB := Aside0.mk Q_HB
      have BK := Aside0.mk Q_BK
      refine value_ (w1 := w') (v := .int .u32 n) (wanted_on rfl rfl rfl (e39.trans (by first | rfl | (simp [*]; done)))) rfl ?_ ?_
      · go_simp
        (try simp only [i64_w])
        try rfl
      refine hK.out _ _ ⟨v20, (by rw [ha.out]; exact putSel_upk 24 hb_ rfl rfl rfl), Q_HB, Q_BK, fun _ h1_ => absurd ((hon 5 (by kernel_rfl)).symm.trans h1_) (by decide)⟩
    refine steps_cons ?_ ?_
    · rintro b a w' ⟨v20, ha, Q_HB, Q_BK, Q_R4⟩ hb_ hon hoff
      refine ⟨_, rfl, fun K hK => ?_⟩
      have e40 : a.tmps[40]? = some (.int .u32 n) := by rw [ha]; exact putSel_on (e := (24, 40, .int .u32 n)) 24 rfl rfl (hon 24 (by kernel_rfl)) rfl
      have e39 : a.tmps[39]? = some (.bool true) := by rw [ha]; exact putSel_on (e := (23, 39, .bool true)) 23 rfl rfl (hon 23 (by kernel_rfl)) rfl
      replace ha := Aside0.mk ha
      have HB := Aside0.mk Q_HB
      have BK := Aside0.mk Q_BK
      refine goes_ Try.func14 rfl rfl #[.int .u32 n, .string (⟨#[]⟩ : ByteArray)] (wanted_on rfl rfl rfl (e39.trans (by first | rfl | (simp [*]; done)))) rfl rfl (by first | (simp only [List.map_toArray, List.map_cons, List.map_nil, Act.eval, Array.getD_eq_getD_getElem?, Option.getD_some, e40, e39]; done) | (simp only [List.map_toArray, List.map_cons, List.map_nil, Act.eval, Array.getD_eq_getD_getElem?, Option.getD_some, e40, e39]; rfl)) ?_
      refine (check_More.calls n (⟨#[]⟩ : ByteArray) (n % 16777216) w' M2.out).mono ?_
      rintro e_ w4_ ⟨rfl, hbel⟩
      refine ⟨_, rfl, ?_⟩
      refine hK.out _ _ ⟨v20, (by rw [ha.out]; exact putSel_upk 25 hb_ rfl rfl rfl), below_step HB.out hbel, blk_below BK.out hbel, fun _ h1_ => absurd ((hon 5 (by kernel_rfl)).symm.trans h1_) (by decide)⟩
    refine steps_cons ?_ ?_
    · rintro b a w' ⟨v20, ha, Q_HB, Q_BK, Q_R4⟩ hb_ hon hoff
      refine ⟨_, rfl, fun K hK => ?_⟩
      have e2 : a.tmps[2]? = some (.int .u32 n) := by rw [ha]; exact (putSel_off rfl).trans rfl
      have e39 : a.tmps[39]? = some (.bool true) := by rw [ha]; exact putSel_on (e := (23, 39, .bool true)) 23 rfl rfl (hon 23 (by kernel_rfl)) rfl
      replace ha := Aside0.mk ha
      have HB := Aside0.mk Q_HB
      have BK := Aside0.mk Q_BK
      refine value_ (w1 := w') (v := .int .u32 n) (wanted_on rfl rfl rfl (e39.trans (by first | rfl | (simp [*]; done)))) rfl ?_ ?_
      · go_simp
        (try simp only [i64_w])
        try rfl
      refine hK.out _ _ ⟨v20, (by rw [ha.out]; exact putSel_upk 26 hb_ rfl rfl rfl), Q_HB, Q_BK, fun _ h1_ => absurd ((hon 5 (by kernel_rfl)).symm.trans h1_) (by decide)⟩
    refine steps_cons ?_ ?_
    · rintro b a w' ⟨v20, ha, Q_HB, Q_BK, Q_R4⟩ hb_ hon hoff
      refine ⟨_, rfl, fun K hK => ?_⟩
      have e42 : a.tmps[42]? = some (.int .u32 n) := by rw [ha]; exact putSel_on (e := (26, 42, .int .u32 n)) 26 rfl rfl (hon 26 (by kernel_rfl)) rfl
      have e39 : a.tmps[39]? = some (.bool true) := by rw [ha]; exact putSel_on (e := (23, 39, .bool true)) 23 rfl rfl (hon 23 (by kernel_rfl)) rfl
      replace ha := Aside0.mk ha
      have HB := Aside0.mk Q_HB
      have BK := Aside0.mk Q_BK
      have hn_ : Int.tmod n 16777216 = n % 16777216 := Int.tmod_eq_emod_of_nonneg hn0
      refine value_ (w1 := w') (v := .int .u32 (n % 16777216)) (wanted_on rfl rfl rfl (e39.trans (by first | rfl | (simp [*]; done)))) rfl ?_ ?_
      · go_simp
        (try simp only [i64_w])
        try rfl
      refine hK.out _ _ ⟨v20, (by rw [ha.out]; exact putSel_upk 27 hb_ rfl rfl rfl), Q_HB, Q_BK, fun _ h1_ => absurd ((hon 5 (by kernel_rfl)).symm.trans h1_) (by decide)⟩
    refine steps_cons ?_ ?_
    · rintro b a w' ⟨v20, ha, Q_HB, Q_BK, Q_R4⟩ hb_ hon hoff
      refine ⟨_, rfl, fun K hK => ?_⟩
      have e41 : a.tmps[41]? = some (.int .u32 (n % 16777216)) := by rw [ha]; exact putSel_on (e := (25, 41, .int .u32 (n % 16777216))) 25 rfl rfl (hon 25 (by kernel_rfl)) rfl
      have e43 : a.tmps[43]? = some (.int .u32 (n % 16777216)) := by rw [ha]; exact putSel_on (e := (27, 43, .int .u32 (n % 16777216))) 27 rfl rfl (hon 27 (by kernel_rfl)) rfl
      have e39 : a.tmps[39]? = some (.bool true) := by rw [ha]; exact putSel_on (e := (23, 39, .bool true)) 23 rfl rfl (hon 23 (by kernel_rfl)) rfl
      replace ha := Aside0.mk ha
      have HB := Aside0.mk Q_HB
      have BK := Aside0.mk Q_BK
      refine value_ (w1 := w') (v := .bool true) (wanted_on rfl rfl rfl (e39.trans (by first | rfl | (simp [*]; done)))) rfl ?_ ?_
      · go_simp
        (try simp only [i64_w])
        try rfl
      refine hK.out _ _ ⟨v20, (by rw [ha.out]; exact putSel_upk 28 hb_ rfl rfl rfl), Q_HB, Q_BK, fun _ h1_ => absurd ((hon 5 (by kernel_rfl)).symm.trans h1_) (by decide)⟩
    refine steps_cons ?_ ?_
    · rintro b a w' ⟨v20, ha, Q_HB, Q_BK, Q_R4⟩ hb_ hon hoff
      refine ⟨_, rfl, fun K hK => ?_⟩
      have e39 : a.tmps[39]? = some (.bool true) := by rw [ha]; exact putSel_on (e := (23, 39, .bool true)) 23 rfl rfl (hon 23 (by kernel_rfl)) rfl
      have e44 : a.tmps[44]? = some (.bool true) := by rw [ha]; exact putSel_on (e := (28, 44, .bool true)) 28 rfl rfl (hon 28 (by kernel_rfl)) rfl
      replace ha := Aside0.mk ha
      have HB := Aside0.mk Q_HB
      have BK := Aside0.mk Q_BK
      refine value_ (w1 := w') (v := .bool true) (by rfl) rfl ?_ ?_
      · go_simp
        (try simp only [i64_w])
        try rfl
      refine hK.out _ _ ⟨v20, (by rw [ha.out]; exact putSel_upk 29 hb_ rfl rfl rfl), Q_HB, Q_BK, fun _ h1_ => absurd ((hon 5 (by kernel_rfl)).symm.trans h1_) (by decide)⟩
    refine steps_cons ?_ ?_
    · rintro b a w' ⟨v20, ha, Q_HB, Q_BK, Q_R4⟩ hb_ hon hoff
      refine ⟨_, rfl, fun K hK => ?_⟩
      have e45 : a.tmps[45]? = some (.bool true) := by rw [ha]; exact putSel_on (e := (29, 45, .bool true)) 29 rfl rfl (hon 29 (by kernel_rfl)) rfl
      replace ha := Aside0.mk ha
      have HB := Aside0.mk Q_HB
      have BK := Aside0.mk Q_BK
      refine value_ (w1 := w') (v := .bool true) (by rfl) rfl ?_ ?_
      · go_simp
        (try simp only [i64_w])
        try rfl
      refine hK.out _ _ ⟨v20, (by rw [ha.out]; exact putSel_upk 30 hb_ rfl rfl rfl), Q_HB, Q_BK, fun _ h1_ => absurd ((hon 5 (by kernel_rfl)).symm.trans h1_) (by decide)⟩
    refine steps_cons ?_ ?_
    · rintro b a w' ⟨v20, ha, Q_HB, Q_BK, Q_R4⟩ hb_ hon hoff
      refine ⟨_, rfl, fun K hK => ?_⟩
      have e46 : a.tmps[46]? = some (.bool true) := by rw [ha]; exact putSel_on (e := (30, 46, .bool true)) 30 rfl rfl (hon 30 (by kernel_rfl)) rfl
      replace ha := Aside0.mk ha
      have HB := Aside0.mk Q_HB
      have BK := Aside0.mk Q_BK
      refine goes_ Try.func11 rfl rfl #[] (wanted_on rfl rfl rfl (e46.trans (by first | rfl | (simp [*]; done)))) rfl rfl (by first | (simp only [List.map_toArray, List.map_cons, List.map_nil, Act.eval, Array.getD_eq_getD_getElem?, Option.getD_some, e46]; done) | (simp only [List.map_toArray, List.map_cons, List.map_nil, Act.eval, Array.getD_eq_getD_getElem?, Option.getD_some, e46]; rfl)) ?_
      refine (weirkeeperlaw02_awake.calls true w' rfl).mono ?_
      rintro e_ w4_ ⟨rfl, hbel⟩
      refine ⟨_, rfl, ?_⟩
      refine hK.out _ _ ⟨v20, (by rw [ha.out]; exact putSel_upk 31 hb_ rfl rfl rfl), below_step HB.out hbel, blk_below BK.out hbel, fun _ h1_ => absurd ((hon 5 (by kernel_rfl)).symm.trans h1_) (by decide)⟩
    refine steps_cons ?_ ?_
    · rintro b a w' ⟨v20, ha, Q_HB, Q_BK, Q_R4⟩ hb_ hon hoff
      refine ⟨_, rfl, fun K hK => ?_⟩
      have e46 : a.tmps[46]? = some (.bool true) := by rw [ha]; exact putSel_on (e := (30, 46, .bool true)) 30 rfl rfl (hon 30 (by kernel_rfl)) rfl
      have e47 : a.tmps[47]? = some (.bool true) := by rw [ha]; exact putSel_on (e := (31, 47, .bool true)) 31 rfl rfl (hon 31 (by kernel_rfl)) rfl
      replace ha := Aside0.mk ha
      have HB := Aside0.mk Q_HB
      have BK := Aside0.mk Q_BK
      refine value_ (w1 := w') (v := .bool true) (by rfl) rfl ?_ ?_
      · go_simp
        (try simp only [i64_w])
        try rfl
      refine hK.out _ _ ⟨v20, (by rw [ha.out]; exact putSel_upk 32 hb_ rfl rfl rfl), Q_HB, Q_BK, fun _ h1_ => absurd ((hon 5 (by kernel_rfl)).symm.trans h1_) (by decide)⟩
    refine steps_cons ?_ ?_
    · rintro b a w' ⟨v20, ha, Q_HB, Q_BK, Q_R4⟩ hb_ hon hoff
      refine ⟨_, rfl, fun K hK => ?_⟩
      have e48 : a.tmps[48]? = some (.bool true) := by rw [ha]; exact putSel_on (e := (32, 48, .bool true)) 32 rfl rfl (hon 32 (by kernel_rfl)) rfl
      replace ha := Aside0.mk ha
      have HB := Aside0.mk Q_HB
      have BK := Aside0.mk Q_BK
      refine value_ (w1 := w') (v := .bool true) (by rfl) rfl ?_ ?_
      · go_simp
        (try simp only [i64_w])
        try rfl
      refine hK.out _ _ ⟨v20, (by rw [ha.out]; exact putSel_upk 33 hb_ rfl rfl rfl), Q_HB, Q_BK, fun _ h1_ => absurd ((hon 5 (by kernel_rfl)).symm.trans h1_) (by decide)⟩
    exact steps_nil
  · rintro b a w' hall ⟨v20, ha, Q_HB, Q_BK, Q_R4⟩
    clear BK HB
    have hb0_ := hall 0 (by kernel_rfl)
    have hb1_ := hall 1 (by kernel_rfl)
    have hb2_ := hall 2 (by kernel_rfl)
    have hb3_ := hall 3 (by kernel_rfl)
    have hb4_ := hall 4 (by kernel_rfl)
    have hb5_ := hall 5 (by kernel_rfl)
    have hb6_ := hall 6 (by kernel_rfl)
    have hb7_ := hall 7 (by kernel_rfl)
    have hb8_ := hall 8 (by kernel_rfl)
    have hb9_ := hall 9 (by kernel_rfl)
    have hb10_ := hall 10 (by kernel_rfl)
    have hb11_ := hall 11 (by kernel_rfl)
    have hb12_ := hall 12 (by kernel_rfl)
    have hb13_ := hall 13 (by kernel_rfl)
    have hb14_ := hall 14 (by kernel_rfl)
    have hb15_ := hall 15 (by kernel_rfl)
    have hb16_ := hall 16 (by kernel_rfl)
    have hb17_ := hall 17 (by kernel_rfl)
    have hb18_ := hall 18 (by kernel_rfl)
    have hb19_ := hall 19 (by kernel_rfl)
    have hb20_ := hall 20 (by kernel_rfl)
    have hb21_ := hall 21 (by kernel_rfl)
    have hb22_ := hall 22 (by kernel_rfl)
    have hb23_ := hall 23 (by kernel_rfl)
    have hb24_ := hall 24 (by kernel_rfl)
    have hb25_ := hall 25 (by kernel_rfl)
    have hb26_ := hall 26 (by kernel_rfl)
    have hb27_ := hall 27 (by kernel_rfl)
    have hb28_ := hall 28 (by kernel_rfl)
    have hb29_ := hall 29 (by kernel_rfl)
    have hb30_ := hall 30 (by kernel_rfl)
    have hb31_ := hall 31 (by kernel_rfl)
    have hb32_ := hall 32 (by kernel_rfl)
    have hb33_ := hall 33 (by kernel_rfl)
    subst ha
    simp only [putSel, hb0_, hb1_, hb2_, hb3_, hb4_, hb5_, hb6_, hb7_, hb8_, hb9_, hb10_, hb11_, hb12_, hb13_, hb14_, hb15_, hb16_, hb17_, hb18_, hb19_, hb20_, hb21_, hb22_, hb23_, hb24_, hb25_, hb26_, hb27_, hb28_, hb29_, hb30_, hb31_, hb32_, hb33_, if_true, Act.put, List.setIfInBounds_toArray, List.set_cons_zero, List.set_cons_succ]
    have HB := Aside0.mk Q_HB
    clear Q_HB
    have BK := Aside0.mk Q_BK
    clear Q_BK
    clear Q_R4
    clear hall hb0_ hb1_ hb2_ hb3_ hb4_ hb5_ hb6_ hb7_ hb8_ hb9_ hb10_ hb11_ hb12_ hb13_ hb14_ hb15_ hb16_ hb17_ hb18_ hb19_ hb20_ hb21_ hb22_ hb23_ hb24_ hb25_ hb26_ hb27_ hb28_ hb29_ hb30_ hb31_ hb32_ hb33_
    go_wp2
    go_ret
    exact ⟨rfl, HB.out⟩
end Go.Proofs.Ytjldikjnljidbaa.Table
