/- The law CheckThree, walked: bytes of three texts changed by one another, and four sums. -/
import Derived.Test.YtjldikjnljidbaaHand
import Derived.Test.YtjldikjnljidbaaXx2
import Derived.Test.YtjldikjnljidbaaXx3
import Derived.Test.YtjldikjnljidbaaXx4
import Derived.RegionTactic
namespace Go.Proofs.Ytjldikjnljidbaa.Three
open Go Go.RowKit Go.Proofs.Ytjldikjnljidbaa.X Go.Proofs.YtjldikjnljidbaaW Go.Proofs.YtjldikjnljidbaaW.PrintWords Go.Proofs.YtjldikjnljidbaaW.PrintLast Go.Proofs.YtjldikjnljidbaaW.PrintMore
attribute [local go_sem] max2_int min2_int max_two min_two max_three min_three
set_option linter.unusedVariables false
set_option linter.unusedSimpArgs false
set_option maxRecDepth 100000
set_option maxHeartbeats 4000000
def Three.T10 : Bool × List (List Nat × List Nat) := (true, [([], []), ([0], [0]), ([1], [1]), ([2], [2]), ([], []), ([], []), ([4, 5], [4, 5]), ([6], [6]), ([7, 3], [7]), ([], []), ([], []), ([9, 10], [9, 10]), ([11], [11]), ([12, 8], [12]), ([8, 13], [8, 13]), ([], []), ([], []), ([15, 16], [15, 16]), ([17], [17]), ([18, 13], [18]), ([14, 19], [14, 19]), ([3, 20], [3, 20]), ([21, 19], [21]), ([22, 22], [22]), ([22, 23], [22, 23]), ([24, 23, 0, 1, 2, 3, 4, 5, 6, 7, 8, 9, 10, 11, 12, 13, 14, 15, 16, 17, 18, 19, 20, 21, 22, 23, 24], [24])])
def Three.B10 : List Nat := [0, 1, 3, 7, 0, 0, 48, 112, 255, 0, 0, 1536, 3584, 8191, 16383, 0, 0, 98304, 229376, 507903, 1048575, 2097151, 4194303, 8388607, 16777215, 33554431]
theorem Three.tab10 : rtab .any (opsOf Try.f6 10) = Three.T10 := by kernel_rfl
theorem Three.bits10 : waitsOk Three.T10.2 Three.B10 = true := by kernel_rfl
theorem below_of_grown {w w1 : World} (h : w.grownBy w1 none) : Below w.heap.size w w1 := ⟨h.os, h.tape, h.output, h.size, fun k hk => h.block k hk (by simp)⟩
theorem info_u8 : (Try.prog.info? 5).map (fun i => (i.zero, i.size, i.bytes)) = some (some (.int .u8 0), 1, 1) := by kernel_rfl
/-- One byte of three, changed by one another. -/
def x3 (a b c : ByteArray) (j : Nat) : Int := Go.bits .xor .u8 (Go.bits .xor .u8 ((a.data.toList.getD j 0).toNat : Int) ((b.data.toList.getD j 0).toNat : Int)) ((c.data.toList.getD j 0).toNat : Int)
/-- What is filled in, up to a place. -/
def xs (a b c : ByteArray) (n j : Nat) : List Int := (List.range j).map (x3 a b c) ++ List.replicate (n - j) 0
theorem xs_len (a b c : ByteArray) (n j : Nat) (h : j ≤ n) : (xs a b c n j).length = n := by simp [xs]; omega
theorem xs_set (a b c : ByteArray) (n j : Nat) (h : j < n) : (xs a b c n j).set j (x3 a b c j) = xs a b c n (j + 1) := by
  unfold xs
  obtain ⟨m, hm⟩ : ∃ m, n - j = m + 1 := ⟨n - j - 1, by omega⟩
  rw [List.set_append_right _ _ (by simp), hm, List.replicate_succ, show n - (j + 1) = m by omega, List.range_succ, List.map_append]
  simp
theorem byte_at (s : ByteArray) (j : Nat) (h : j < s.size) : (s.data.toList.getD j 0).toNat = s[j].toNat := by
  rw [List.getD_eq_getElem?_getD, List.getElem?_eq_getElem (by simpa using h)]
  rfl
theorem law_calls (pa pb pc : ByteArray) (ha : pa.size ≤ 140737488351232) (hb : pb.size ≤ 140737488351232) (hc : pc.size ≤ 140737488351232) (n : Nat) (hn : n = min (min pa.size pb.size) pc.size) (s0 s1 s2 s3 y : Int) (m0 : check_Sum.f 9 [strOfNums (xs pa pb pc n n)] = some s0) (m1 : check_Sum.f 9 [pa.extract 0 n] = some s1) (m2 : check_Sum.f 9 [pb.extract 0 n] = some s2) (m3 : check_Sum.f 9 [pc.extract 0 n] = some s3) (e1 : Go.bits .xor .u32 s1 s2 = y) (e2 : Go.bits .xor .u32 y s3 = s0) (w : World) :
    Calls Try.prog 6 #[.string pa, .string pb, .string pc] w fun e w' => e = .returned (.bool true) ∧ Below w.heap.size w w' := by
  have M0 := Aside0.mk m0
  have M1 := Aside0.mk m1
  have M2 := Aside0.mk m2
  have M3 := Aside0.mk m3
  have E1 := Aside0.mk e1
  have E2 := Aside0.mk e2
  clear m0 m1 m2 m3 e1 e2
  have HN := Aside0.mk hn
  have na : n ≤ pa.size := by omega
  have nb : n ≤ pb.size := by omega
  have nc : n ≤ pc.size := by omega
  clear hn
  go_enter Try.func6, Try.ntmps6
  go_upto_region 1 with (fail)
  (try simp only [Act.put, List.setIfInBounds_toArray, List.set_cons_zero, List.set_cons_succ])
  go_cut [7] (fun v7 wc => v7 = .int .i64 (n : Int) ∧ Aside0 (Below w.heap.size w wc))
  case first =>
    go_wp2
    all_goals (go_meet; case rel => exact ⟨by rw [HN.out]; congr 1; omega, ⟨Below.refl _ _⟩⟩)
  case rest =>
    obtain ⟨rfl, HB⟩ := hcut
    clear HN
    by_cases h300 : 300 < n
    · go_wp2_with (go_at_call 11; refine (weirkeeperlaw02_awake.calls true _ rfl).mono ?_; rintro e w2 ⟨rfl, hb⟩; have HB2 := Aside0.mk (below_step HB.out hb); clear hb)
      go_ret
      exact ⟨rfl, HB2.out⟩
    · have hmul : ((n : Int)).toNat * 1 ≤ 281474976710656 := by omega
      go_wp2_with ((with_reducible refine gate_dst (N := 21) rfl ?_); refine Kd.R_make (Kd.int .u8) _ 5 rfl (N := 21) rfl 31 _ _ rfl (n : Int) rfl rfl Try.underlying31 (.int .u8 0) 1 info_u8 rfl (by decide) (by omega) 0 (ok := fun _ => True) (okp := fun _ => True) rfl (fun _ hk => hk) trivial (by omega) hmul HB.out HB.out.size ?_; intro v8 w3 ho hb hg_ hn_; rw [Int.toNat_natCast] at ho; obtain ⟨A8, c8, e8⟩ := Kd.R_slice ho; subst e8; rw [List.length_replicate] at ho ⊢; have HO := Aside0.mk ho; have HB3 := Aside0.mk hb; clear ho hb hg_ hn_)
      clear hmul
      go_loopw [24] (fun i wr => ∃ j : Nat, j ≤ n ∧ i = .int .i64 j ∧ Aside0 (Kd.R (Kd.int .u8) 5 wr w.heap.size (fun _ => True) (.slice A8 n c8) (xs pa pb pc n j)) ∧ Aside0 (Below w.heap.size w wr)) (fun i _ => n - (intOf i).toNat)
      case atStart => exact ⟨0, by omega, rfl, ⟨by simpa [xs] using HO.out⟩, HB3⟩
      case round =>
        obtain ⟨j, hj, rfl, HO, HB⟩ := hrel
        clear HB3
        by_cases hlt : j < n
        · have hl := xs_len pa pb pc n j (by omega)
          have hset := Aside0.mk (xs_set pa pb pc n j hlt)
          generalize xs pa pb pc n j = X at HO hl hset
          obtain ⟨g, cap, he, hge, _, _⟩ := Kd.R_form HO.out (by rw [hl]; omega)
          rw [hl] at he
          injection he with hA _ hcap
          subst hA
          subst hcap
          have HO' := HO.out
          rw [← hl] at HO'
          obtain ⟨hcell, hfro⟩ := Kd.R_cell (0 : Int) HO' (j : Int) (by omega) (by rw [hl]; omega)
          rw [Int.toNat_natCast] at hcell hfro
          have HP := Aside0.mk (Kd.R_put HO' (j : Int) (x3 pa pb pc j))
          clear HO'
          have HL := Aside0.mk hl
          clear hl
          have hja : j < pa.size := by omega
          have hjb : j < pb.size := by omega
          have hjc : j < pc.size := by omega
          go_wp2
          go_region
          go_wp2
          go_roundw
          case rel =>
            have hx : Go.bits .xor .u8 (Go.bits .xor .u8 (pa[j].toNat : Int) (pb[j].toNat : Int)) (pc[j].toNat : Int) = x3 pa pb pc j := by
              unfold x3
              rw [byte_at pa j hja, byte_at pb j hjb, byte_at pc j hjc]
            rw [hx]
            refine ⟨j + 1, by omega, by go_num, ⟨?_⟩, ⟨below_drew1 (below_set HB.out hge)⟩⟩
            have h := HP.out.1
            rw [HL.out, Int.toNat_natCast, hset.out] at h
            exact Kd.R_drew h
          case measure => simp [intOf]; omega
        · obtain rfl : n = j := by omega
          go_wp2
          have HL := Aside0.mk (xs_len pa pb pc n n (Nat.le_refl _))
          generalize xs pa pb pc n n = X at HO M0 HL
          refine start_ (n := 26) (S := fun w' => True) (ds := []) #[false, false, false, false, false, false, false, false, false, false, false, false, false, false, false, false, false, false, false, false, false, false, false, false, false, false] (by kernel_rfl) rfl rfl trivial (fun hHeld => ?_); refine with_tabW Three.tab10 Three.bits10 (fun HT_ HW_ => ?_)
          replace HB := Aside0.mk (below_drew1 HB.out)
          replace HO := Aside0.mk (Kd.R_drew HO.out)
          generalize wr.drew = w4 at HB HO ⊢
          refine inv_at [0, 1, 2, 3, 4, 5, 6, 7, 8, 9, 10, 11, 12, 13, 14, 15, 16, 17, 18, 19, 20, 21, 22, 23, 24, 25] (fun a0_ b a w' => ∃ (v2 : Value) (v7 : Value) (v12 : Value) (v18 : Value), a = putSel a0_ b [(0, 42, .slice A8 n c8), (1, 43, .string (strOfNums X)), (2, 44, v2), (3, 45, .int .u32 s0), (4, 46, .string pa), (5, 47, .int .i64 (n : Int)), (6, 48, .string (pa.extract 0 n)), (7, 49, v7), (8, 50, .int .u32 s1), (9, 51, .string pb), (10, 52, .int .i64 (n : Int)), (11, 53, .string (pb.extract 0 n)), (12, 54, v12), (13, 55, .int .u32 s2), (14, 56, .int .u32 y), (15, 57, .string pc), (16, 58, .int .i64 (n : Int)), (17, 59, .string (pc.extract 0 n)), (18, 60, v18), (19, 61, .int .u32 s3), (20, 62, .int .u32 s0), (21, 63, .bool true), (22, 64, .bool true), (23, 65, .bool true), (24, 66, .bool true), (25, 6, .bool true)] ∧ (Below w.heap.size w w') ∧ (b 1 = false → Kd.R (Kd.int .u8) 5 w' w.heap.size (fun _ => True) (.slice A8 n c8) X) ∧ (b 2 = true → b 3 = false → Kd.R Kd.string 9 w' w.heap.size (fun _ => True) v2 [(strOfNums X)]) ∧ (b 7 = true → b 8 = false → Kd.R Kd.string 9 w' w.heap.size (fun _ => True) v7 [(pa.extract 0 n)]) ∧ (b 12 = true → b 13 = false → Kd.R Kd.string 9 w' w.heap.size (fun _ => True) v12 [(pb.extract 0 n)]) ∧ (b 18 = true → b 19 = false → Kd.R Kd.string 9 w' w.heap.size (fun _ => True) v18 [(pc.extract 0 n)])) HT_.out HW_.out (by kernel_rfl) (by kernel_rfl) ?_ ?_ ?_
          · exact ⟨.bool false, .bool false, .bool false, .bool false, by simp only [putSel, Bool.false_eq_true, if_false], HB.out, fun _ => HO.out, fun h_ => absurd h_ (by decide), fun h_ => absurd h_ (by decide), fun h_ => absurd h_ (by decide), fun h_ => absurd h_ (by decide)⟩
          · skip
            clear HB HO
            refine steps_cons ?_ ?_
            · rintro b a w' ⟨v2, v7, v12, v18, ha, Q_HB, Q_HO, Q_R2, Q_R7, Q_R12, Q_R18⟩ hb_ hon hoff
              refine ⟨_, rfl, fun K hK => ?_⟩
              have e8 : a.tmps[8]? = some (.slice A8 n c8) := by rw [ha]; exact (putSel_off rfl).trans rfl
              replace ha := Aside0.mk ha
              have HB := Aside0.mk Q_HB
              have HO := Aside0.mk (Q_HO (hoff 1 (by kernel_rfl)))
              refine value_ (w1 := w') (v := .slice A8 n c8) (by rfl) rfl ?_ ?_
              · go_simp
                (try simp only [i64_w])
                try rfl
              refine hK.out _ _ ⟨v2, v7, v12, v18, (by rw [ha.out]; exact putSel_upk 0 hb_ rfl rfl rfl), Q_HB, Q_HO, fun h0_ _ => absurd ((hoff 2 (by kernel_rfl)).symm.trans h0_) (by decide), Q_R7, Q_R12, Q_R18⟩
            refine steps_cons ?_ ?_
            · rintro b a w' ⟨v2, v7, v12, v18, ha, Q_HB, Q_HO, Q_R2, Q_R7, Q_R12, Q_R18⟩ hb_ hon hoff
              refine ⟨_, rfl, fun K hK => ?_⟩
              have e42 : a.tmps[42]? = some (.slice A8 n c8) := by rw [ha]; exact putSel_on (e := (0, 42, .slice A8 n c8)) 0 rfl rfl (hon 0 (by kernel_rfl)) rfl
              replace ha := Aside0.mk ha
              have HB := Aside0.mk Q_HB
              have HO := Aside0.mk (Q_HO hb_)
              have hcv_ := own_string (P := Try.prog) Try.underlying31 Try.underlying5 Try.underlying9 (Kd.own_of_R HO.out)
              refine value_ (w1 := w') (v := .string (strOfNums X)) (by rfl) rfl ?_ ?_
              · go_simp
                (try simp only [i64_w])
                try rfl
              refine hK.out _ _ ⟨v2, v7, v12, v18, (by rw [ha.out]; exact putSel_upk 1 hb_ rfl rfl rfl), Q_HB, fun h0_ => absurd ((up_self b 1).symm.trans h0_) (by decide), fun h0_ _ => absurd ((hoff 2 (by kernel_rfl)).symm.trans h0_) (by decide), Q_R7, Q_R12, Q_R18⟩
            refine steps_cons ?_ ?_
            · rintro b a w' ⟨v2, v7, v12, v18, ha, Q_HB, Q_HO, Q_R2, Q_R7, Q_R12, Q_R18⟩ hb_ hon hoff
              refine ⟨_, rfl, fun K hK => ?_⟩
              have e43 : a.tmps[43]? = some (.string (strOfNums X)) := by rw [ha]; exact putSel_on (e := (1, 43, .string (strOfNums X))) 1 rfl rfl (hon 1 (by kernel_rfl)) rfl
              replace ha := Aside0.mk ha
              have HB := Aside0.mk Q_HB
              refine Kd.R_lit_step Kd.string w.heap.size 9 (w0 := w) (by rfl) (N := 44) rfl (xs := [(strOfNums X)]) (inner := [.string (strOfNums X)]) (ok := fun _ => True) (okp := fun _ => True) ?hr ?hp (fun _ hk => hk) trivial HB.out HB.out.size (by simp) ?_
              case hr => first | (go_simp; done) | (go_simp; rfl)
              case hp => exact (Reps.one rfl (Reps.none _ _))
              intro v_ w1_ h1_ hb1 hg1 hn1
              have hbel := below_of_grown hg1
              refine hK.out _ _ ⟨v_, v7, v12, v18, (by rw [ha.out]; exact putSel_upk 2 hb_ rfl rfl rfl), hb1, fun h0_ => absurd ((hon 1 (by kernel_rfl)).symm.trans h0_) (by decide), fun _ _ => h1_, fun h0_ h1_ => Kd.R_below (Q_R7 h0_ h1_) hbel, fun h0_ h1_ => Kd.R_below (Q_R12 h0_ h1_) hbel, fun h0_ h1_ => Kd.R_below (Q_R18 h0_ h1_) hbel⟩
            refine steps_cons ?_ ?_
            · rintro b a w' ⟨v2, v7, v12, v18, ha, Q_HB, Q_HO, Q_R2, Q_R7, Q_R12, Q_R18⟩ hb_ hon hoff
              refine ⟨_, rfl, fun K hK => ?_⟩
              have e44 : a.tmps[44]? = some (v2) := by rw [ha]; exact putSel_on (e := (2, 44, v2)) 2 rfl rfl (hon 2 (by kernel_rfl)) rfl
              replace ha := Aside0.mk ha
              have HB := Aside0.mk Q_HB
              have R2 := Aside0.mk (Q_R2 (hon 2 (by kernel_rfl)) hb_)
              obtain ⟨A_, c_, e_⟩ := Kd.R_slice R2.out
              subst e_
              refine goes_ Try.func12 rfl rfl #[.slice A_ [(strOfNums X)].length c_] (by rfl) rfl rfl (by first | (simp only [List.map_toArray, List.map_cons, List.map_nil, Act.eval, Array.getD_eq_getD_getElem?, Option.getD_some, e44]; done) | (simp only [List.map_toArray, List.map_cons, List.map_nil, Act.eval, Array.getD_eq_getD_getElem?, Option.getD_some, e44]; rfl)) ?_
              refine (check_Sum.calls 9 A_ c_ [(strOfNums X)] s0 w' (Kd.R_reads' R2.out).2.2 (Kd.R_reads' R2.out).2.1 M0.out).mono ?_
              rintro e_ w4_ ⟨rfl, hbel⟩
              refine ⟨_, rfl, ?_⟩
              refine hK.out _ _ ⟨(.slice A_ [(strOfNums X)].length c_), v7, v12, v18, (by rw [ha.out]; exact putSel_upk 3 hb_ rfl rfl rfl), below_step HB.out hbel, fun h0_ => absurd ((hon 1 (by kernel_rfl)).symm.trans h0_) (by decide), fun _ h1_ => absurd ((up_self b 3).symm.trans h1_) (by decide), fun h0_ h1_ => Kd.R_below (Q_R7 h0_ h1_) hbel, fun h0_ h1_ => Kd.R_below (Q_R12 h0_ h1_) hbel, fun h0_ h1_ => Kd.R_below (Q_R18 h0_ h1_) hbel⟩
            refine steps_cons ?_ ?_
            · rintro b a w' ⟨v2, v7, v12, v18, ha, Q_HB, Q_HO, Q_R2, Q_R7, Q_R12, Q_R18⟩ hb_ hon hoff
              refine ⟨_, rfl, fun K hK => ?_⟩
              have e0 : a.tmps[0]? = some (.string pa) := by rw [ha]; exact (putSel_off rfl).trans rfl
              replace ha := Aside0.mk ha
              have HB := Aside0.mk Q_HB
              refine value_ (w1 := w') (v := .string pa) (by rfl) rfl ?_ ?_
              · go_simp
                (try simp only [i64_w])
                try rfl
              refine hK.out _ _ ⟨v2, v7, v12, v18, (by rw [ha.out]; exact putSel_upk 4 hb_ rfl rfl rfl), Q_HB, Q_HO, Q_R2, fun h0_ _ => absurd ((hoff 7 (by kernel_rfl)).symm.trans h0_) (by decide), Q_R12, Q_R18⟩
            refine steps_cons ?_ ?_
            · rintro b a w' ⟨v2, v7, v12, v18, ha, Q_HB, Q_HO, Q_R2, Q_R7, Q_R12, Q_R18⟩ hb_ hon hoff
              refine ⟨_, rfl, fun K hK => ?_⟩
              have e7 : a.tmps[7]? = some (.int .i64 (n : Int)) := by rw [ha]; exact (putSel_off rfl).trans rfl
              replace ha := Aside0.mk ha
              have HB := Aside0.mk Q_HB
              refine value_ (w1 := w') (v := .int .i64 (n : Int)) (by rfl) rfl ?_ ?_
              · go_simp
                (try simp only [i64_w])
                try rfl
              refine hK.out _ _ ⟨v2, v7, v12, v18, (by rw [ha.out]; exact putSel_upk 5 hb_ rfl rfl rfl), Q_HB, Q_HO, Q_R2, fun h0_ _ => absurd ((hoff 7 (by kernel_rfl)).symm.trans h0_) (by decide), Q_R12, Q_R18⟩
            refine steps_cons ?_ ?_
            · rintro b a w' ⟨v2, v7, v12, v18, ha, Q_HB, Q_HO, Q_R2, Q_R7, Q_R12, Q_R18⟩ hb_ hon hoff
              refine ⟨_, rfl, fun K hK => ?_⟩
              have e46 : a.tmps[46]? = some (.string pa) := by rw [ha]; exact putSel_on (e := (4, 46, .string pa)) 4 rfl rfl (hon 4 (by kernel_rfl)) rfl
              have e47 : a.tmps[47]? = some (.int .i64 (n : Int)) := by rw [ha]; exact putSel_on (e := (5, 47, .int .i64 (n : Int))) 5 rfl rfl (hon 5 (by kernel_rfl)) rfl
              replace ha := Aside0.mk ha
              have HB := Aside0.mk Q_HB
              refine value_ (w1 := w') (v := .string (pa.extract 0 n)) (by rfl) rfl ?_ ?_
              · go_simp
                (try simp only [i64_w])
                try rfl
              refine hK.out _ _ ⟨v2, v7, v12, v18, (by rw [ha.out]; exact putSel_upk 6 hb_ rfl rfl rfl), Q_HB, Q_HO, Q_R2, fun h0_ _ => absurd ((hoff 7 (by kernel_rfl)).symm.trans h0_) (by decide), Q_R12, Q_R18⟩
            refine steps_cons ?_ ?_
            · rintro b a w' ⟨v2, v7, v12, v18, ha, Q_HB, Q_HO, Q_R2, Q_R7, Q_R12, Q_R18⟩ hb_ hon hoff
              refine ⟨_, rfl, fun K hK => ?_⟩
              have e48 : a.tmps[48]? = some (.string (pa.extract 0 n)) := by rw [ha]; exact putSel_on (e := (6, 48, .string (pa.extract 0 n))) 6 rfl rfl (hon 6 (by kernel_rfl)) rfl
              replace ha := Aside0.mk ha
              have HB := Aside0.mk Q_HB
              refine Kd.R_lit_step Kd.string w.heap.size 9 (w0 := w) (by rfl) (N := 49) rfl (xs := [(pa.extract 0 n)]) (inner := [.string (pa.extract 0 n)]) (ok := fun _ => True) (okp := fun _ => True) ?hr ?hp (fun _ hk => hk) trivial HB.out HB.out.size (by simp) ?_
              case hr => first | (go_simp; done) | (go_simp; rfl)
              case hp => exact (Reps.one rfl (Reps.none _ _))
              intro v_ w1_ h1_ hb1 hg1 hn1
              have hbel := below_of_grown hg1
              refine hK.out _ _ ⟨v2, v_, v12, v18, (by rw [ha.out]; exact putSel_upk 7 hb_ rfl rfl rfl), hb1, fun h0_ => Kd.R_below (Q_HO h0_) hbel, fun h0_ h1_ => Kd.R_below (Q_R2 h0_ h1_) hbel, fun _ _ => h1_, fun h0_ h1_ => Kd.R_below (Q_R12 h0_ h1_) hbel, fun h0_ h1_ => Kd.R_below (Q_R18 h0_ h1_) hbel⟩
            refine steps_cons ?_ ?_
            · rintro b a w' ⟨v2, v7, v12, v18, ha, Q_HB, Q_HO, Q_R2, Q_R7, Q_R12, Q_R18⟩ hb_ hon hoff
              refine ⟨_, rfl, fun K hK => ?_⟩
              have e49 : a.tmps[49]? = some (v7) := by rw [ha]; exact putSel_on (e := (7, 49, v7)) 7 rfl rfl (hon 7 (by kernel_rfl)) rfl
              replace ha := Aside0.mk ha
              have HB := Aside0.mk Q_HB
              have R7 := Aside0.mk (Q_R7 (hon 7 (by kernel_rfl)) hb_)
              obtain ⟨A_, c_, e_⟩ := Kd.R_slice R7.out
              subst e_
              refine goes_ Try.func12 rfl rfl #[.slice A_ [(pa.extract 0 n)].length c_] (by rfl) rfl rfl (by first | (simp only [List.map_toArray, List.map_cons, List.map_nil, Act.eval, Array.getD_eq_getD_getElem?, Option.getD_some, e49]; done) | (simp only [List.map_toArray, List.map_cons, List.map_nil, Act.eval, Array.getD_eq_getD_getElem?, Option.getD_some, e49]; rfl)) ?_
              refine (check_Sum.calls 9 A_ c_ [(pa.extract 0 n)] s1 w' (Kd.R_reads' R7.out).2.2 (Kd.R_reads' R7.out).2.1 M1.out).mono ?_
              rintro e_ w4_ ⟨rfl, hbel⟩
              refine ⟨_, rfl, ?_⟩
              refine hK.out _ _ ⟨v2, (.slice A_ [(pa.extract 0 n)].length c_), v12, v18, (by rw [ha.out]; exact putSel_upk 8 hb_ rfl rfl rfl), below_step HB.out hbel, fun h0_ => absurd ((hon 1 (by kernel_rfl)).symm.trans h0_) (by decide), fun _ h1_ => absurd ((hon 3 (by kernel_rfl)).symm.trans h1_) (by decide), fun _ h1_ => absurd ((up_self b 8).symm.trans h1_) (by decide), fun h0_ h1_ => Kd.R_below (Q_R12 h0_ h1_) hbel, fun h0_ h1_ => Kd.R_below (Q_R18 h0_ h1_) hbel⟩
            refine steps_cons ?_ ?_
            · rintro b a w' ⟨v2, v7, v12, v18, ha, Q_HB, Q_HO, Q_R2, Q_R7, Q_R12, Q_R18⟩ hb_ hon hoff
              refine ⟨_, rfl, fun K hK => ?_⟩
              have e1 : a.tmps[1]? = some (.string pb) := by rw [ha]; exact (putSel_off rfl).trans rfl
              replace ha := Aside0.mk ha
              have HB := Aside0.mk Q_HB
              refine value_ (w1 := w') (v := .string pb) (by rfl) rfl ?_ ?_
              · go_simp
                (try simp only [i64_w])
                try rfl
              refine hK.out _ _ ⟨v2, v7, v12, v18, (by rw [ha.out]; exact putSel_upk 9 hb_ rfl rfl rfl), Q_HB, Q_HO, Q_R2, Q_R7, fun h0_ _ => absurd ((hoff 12 (by kernel_rfl)).symm.trans h0_) (by decide), Q_R18⟩
            refine steps_cons ?_ ?_
            · rintro b a w' ⟨v2, v7, v12, v18, ha, Q_HB, Q_HO, Q_R2, Q_R7, Q_R12, Q_R18⟩ hb_ hon hoff
              refine ⟨_, rfl, fun K hK => ?_⟩
              have e7 : a.tmps[7]? = some (.int .i64 (n : Int)) := by rw [ha]; exact (putSel_off rfl).trans rfl
              replace ha := Aside0.mk ha
              have HB := Aside0.mk Q_HB
              refine value_ (w1 := w') (v := .int .i64 (n : Int)) (by rfl) rfl ?_ ?_
              · go_simp
                (try simp only [i64_w])
                try rfl
              refine hK.out _ _ ⟨v2, v7, v12, v18, (by rw [ha.out]; exact putSel_upk 10 hb_ rfl rfl rfl), Q_HB, Q_HO, Q_R2, Q_R7, fun h0_ _ => absurd ((hoff 12 (by kernel_rfl)).symm.trans h0_) (by decide), Q_R18⟩
            refine steps_cons ?_ ?_
            · rintro b a w' ⟨v2, v7, v12, v18, ha, Q_HB, Q_HO, Q_R2, Q_R7, Q_R12, Q_R18⟩ hb_ hon hoff
              refine ⟨_, rfl, fun K hK => ?_⟩
              have e51 : a.tmps[51]? = some (.string pb) := by rw [ha]; exact putSel_on (e := (9, 51, .string pb)) 9 rfl rfl (hon 9 (by kernel_rfl)) rfl
              have e52 : a.tmps[52]? = some (.int .i64 (n : Int)) := by rw [ha]; exact putSel_on (e := (10, 52, .int .i64 (n : Int))) 10 rfl rfl (hon 10 (by kernel_rfl)) rfl
              replace ha := Aside0.mk ha
              have HB := Aside0.mk Q_HB
              refine value_ (w1 := w') (v := .string (pb.extract 0 n)) (by rfl) rfl ?_ ?_
              · go_simp
                (try simp only [i64_w])
                try rfl
              refine hK.out _ _ ⟨v2, v7, v12, v18, (by rw [ha.out]; exact putSel_upk 11 hb_ rfl rfl rfl), Q_HB, Q_HO, Q_R2, Q_R7, fun h0_ _ => absurd ((hoff 12 (by kernel_rfl)).symm.trans h0_) (by decide), Q_R18⟩
            refine steps_cons ?_ ?_
            · rintro b a w' ⟨v2, v7, v12, v18, ha, Q_HB, Q_HO, Q_R2, Q_R7, Q_R12, Q_R18⟩ hb_ hon hoff
              refine ⟨_, rfl, fun K hK => ?_⟩
              have e53 : a.tmps[53]? = some (.string (pb.extract 0 n)) := by rw [ha]; exact putSel_on (e := (11, 53, .string (pb.extract 0 n))) 11 rfl rfl (hon 11 (by kernel_rfl)) rfl
              replace ha := Aside0.mk ha
              have HB := Aside0.mk Q_HB
              refine Kd.R_lit_step Kd.string w.heap.size 9 (w0 := w) (by rfl) (N := 54) rfl (xs := [(pb.extract 0 n)]) (inner := [.string (pb.extract 0 n)]) (ok := fun _ => True) (okp := fun _ => True) ?hr ?hp (fun _ hk => hk) trivial HB.out HB.out.size (by simp) ?_
              case hr => first | (go_simp; done) | (go_simp; rfl)
              case hp => exact (Reps.one rfl (Reps.none _ _))
              intro v_ w1_ h1_ hb1 hg1 hn1
              have hbel := below_of_grown hg1
              refine hK.out _ _ ⟨v2, v7, v_, v18, (by rw [ha.out]; exact putSel_upk 12 hb_ rfl rfl rfl), hb1, fun h0_ => Kd.R_below (Q_HO h0_) hbel, fun h0_ h1_ => Kd.R_below (Q_R2 h0_ h1_) hbel, fun h0_ h1_ => Kd.R_below (Q_R7 h0_ h1_) hbel, fun _ _ => h1_, fun h0_ h1_ => Kd.R_below (Q_R18 h0_ h1_) hbel⟩
            refine steps_cons ?_ ?_
            · rintro b a w' ⟨v2, v7, v12, v18, ha, Q_HB, Q_HO, Q_R2, Q_R7, Q_R12, Q_R18⟩ hb_ hon hoff
              refine ⟨_, rfl, fun K hK => ?_⟩
              have e54 : a.tmps[54]? = some (v12) := by rw [ha]; exact putSel_on (e := (12, 54, v12)) 12 rfl rfl (hon 12 (by kernel_rfl)) rfl
              replace ha := Aside0.mk ha
              have HB := Aside0.mk Q_HB
              have R12 := Aside0.mk (Q_R12 (hon 12 (by kernel_rfl)) hb_)
              obtain ⟨A_, c_, e_⟩ := Kd.R_slice R12.out
              subst e_
              refine goes_ Try.func12 rfl rfl #[.slice A_ [(pb.extract 0 n)].length c_] (by rfl) rfl rfl (by first | (simp only [List.map_toArray, List.map_cons, List.map_nil, Act.eval, Array.getD_eq_getD_getElem?, Option.getD_some, e54]; done) | (simp only [List.map_toArray, List.map_cons, List.map_nil, Act.eval, Array.getD_eq_getD_getElem?, Option.getD_some, e54]; rfl)) ?_
              refine (check_Sum.calls 9 A_ c_ [(pb.extract 0 n)] s2 w' (Kd.R_reads' R12.out).2.2 (Kd.R_reads' R12.out).2.1 M2.out).mono ?_
              rintro e_ w4_ ⟨rfl, hbel⟩
              refine ⟨_, rfl, ?_⟩
              refine hK.out _ _ ⟨v2, v7, (.slice A_ [(pb.extract 0 n)].length c_), v18, (by rw [ha.out]; exact putSel_upk 13 hb_ rfl rfl rfl), below_step HB.out hbel, fun h0_ => absurd ((hon 1 (by kernel_rfl)).symm.trans h0_) (by decide), fun _ h1_ => absurd ((hon 3 (by kernel_rfl)).symm.trans h1_) (by decide), fun _ h1_ => absurd ((hon 8 (by kernel_rfl)).symm.trans h1_) (by decide), fun _ h1_ => absurd ((up_self b 13).symm.trans h1_) (by decide), fun h0_ h1_ => Kd.R_below (Q_R18 h0_ h1_) hbel⟩
            refine steps_cons ?_ ?_
            · rintro b a w' ⟨v2, v7, v12, v18, ha, Q_HB, Q_HO, Q_R2, Q_R7, Q_R12, Q_R18⟩ hb_ hon hoff
              refine ⟨_, rfl, fun K hK => ?_⟩
              have e50 : a.tmps[50]? = some (.int .u32 s1) := by rw [ha]; exact putSel_on (e := (8, 50, .int .u32 s1)) 8 rfl rfl (hon 8 (by kernel_rfl)) rfl
              have e55 : a.tmps[55]? = some (.int .u32 s2) := by rw [ha]; exact putSel_on (e := (13, 55, .int .u32 s2)) 13 rfl rfl (hon 13 (by kernel_rfl)) rfl
              replace ha := Aside0.mk ha
              have HB := Aside0.mk Q_HB
              have hxx_ := E1.out
              refine value_ (w1 := w') (v := .int .u32 y) (by rfl) rfl ?_ ?_
              · go_simp
                (try simp only [i64_w])
                try rfl
              refine hK.out _ _ ⟨v2, v7, v12, v18, (by rw [ha.out]; exact putSel_upk 14 hb_ rfl rfl rfl), Q_HB, fun h0_ => absurd ((hon 1 (by kernel_rfl)).symm.trans h0_) (by decide), fun _ h1_ => absurd ((hon 3 (by kernel_rfl)).symm.trans h1_) (by decide), fun _ h1_ => absurd ((hon 8 (by kernel_rfl)).symm.trans h1_) (by decide), fun _ h1_ => absurd ((hon 13 (by kernel_rfl)).symm.trans h1_) (by decide), Q_R18⟩
            refine steps_cons ?_ ?_
            · rintro b a w' ⟨v2, v7, v12, v18, ha, Q_HB, Q_HO, Q_R2, Q_R7, Q_R12, Q_R18⟩ hb_ hon hoff
              refine ⟨_, rfl, fun K hK => ?_⟩
              have e2 : a.tmps[2]? = some (.string pc) := by rw [ha]; exact (putSel_off rfl).trans rfl
              replace ha := Aside0.mk ha
              have HB := Aside0.mk Q_HB
              refine value_ (w1 := w') (v := .string pc) (by rfl) rfl ?_ ?_
              · go_simp
                (try simp only [i64_w])
                try rfl
              refine hK.out _ _ ⟨v2, v7, v12, v18, (by rw [ha.out]; exact putSel_upk 15 hb_ rfl rfl rfl), Q_HB, Q_HO, Q_R2, Q_R7, Q_R12, fun h0_ _ => absurd ((hoff 18 (by kernel_rfl)).symm.trans h0_) (by decide)⟩
            refine steps_cons ?_ ?_
            · rintro b a w' ⟨v2, v7, v12, v18, ha, Q_HB, Q_HO, Q_R2, Q_R7, Q_R12, Q_R18⟩ hb_ hon hoff
              refine ⟨_, rfl, fun K hK => ?_⟩
              have e7 : a.tmps[7]? = some (.int .i64 (n : Int)) := by rw [ha]; exact (putSel_off rfl).trans rfl
              replace ha := Aside0.mk ha
              have HB := Aside0.mk Q_HB
              refine value_ (w1 := w') (v := .int .i64 (n : Int)) (by rfl) rfl ?_ ?_
              · go_simp
                (try simp only [i64_w])
                try rfl
              refine hK.out _ _ ⟨v2, v7, v12, v18, (by rw [ha.out]; exact putSel_upk 16 hb_ rfl rfl rfl), Q_HB, Q_HO, Q_R2, Q_R7, Q_R12, fun h0_ _ => absurd ((hoff 18 (by kernel_rfl)).symm.trans h0_) (by decide)⟩
            refine steps_cons ?_ ?_
            · rintro b a w' ⟨v2, v7, v12, v18, ha, Q_HB, Q_HO, Q_R2, Q_R7, Q_R12, Q_R18⟩ hb_ hon hoff
              refine ⟨_, rfl, fun K hK => ?_⟩
              have e57 : a.tmps[57]? = some (.string pc) := by rw [ha]; exact putSel_on (e := (15, 57, .string pc)) 15 rfl rfl (hon 15 (by kernel_rfl)) rfl
              have e58 : a.tmps[58]? = some (.int .i64 (n : Int)) := by rw [ha]; exact putSel_on (e := (16, 58, .int .i64 (n : Int))) 16 rfl rfl (hon 16 (by kernel_rfl)) rfl
              replace ha := Aside0.mk ha
              have HB := Aside0.mk Q_HB
              refine value_ (w1 := w') (v := .string (pc.extract 0 n)) (by rfl) rfl ?_ ?_
              · go_simp
                (try simp only [i64_w])
                try rfl
              refine hK.out _ _ ⟨v2, v7, v12, v18, (by rw [ha.out]; exact putSel_upk 17 hb_ rfl rfl rfl), Q_HB, Q_HO, Q_R2, Q_R7, Q_R12, fun h0_ _ => absurd ((hoff 18 (by kernel_rfl)).symm.trans h0_) (by decide)⟩
            refine steps_cons ?_ ?_
            · rintro b a w' ⟨v2, v7, v12, v18, ha, Q_HB, Q_HO, Q_R2, Q_R7, Q_R12, Q_R18⟩ hb_ hon hoff
              refine ⟨_, rfl, fun K hK => ?_⟩
              have e59 : a.tmps[59]? = some (.string (pc.extract 0 n)) := by rw [ha]; exact putSel_on (e := (17, 59, .string (pc.extract 0 n))) 17 rfl rfl (hon 17 (by kernel_rfl)) rfl
              replace ha := Aside0.mk ha
              have HB := Aside0.mk Q_HB
              refine Kd.R_lit_step Kd.string w.heap.size 9 (w0 := w) (by rfl) (N := 60) rfl (xs := [(pc.extract 0 n)]) (inner := [.string (pc.extract 0 n)]) (ok := fun _ => True) (okp := fun _ => True) ?hr ?hp (fun _ hk => hk) trivial HB.out HB.out.size (by simp) ?_
              case hr => first | (go_simp; done) | (go_simp; rfl)
              case hp => exact (Reps.one rfl (Reps.none _ _))
              intro v_ w1_ h1_ hb1 hg1 hn1
              have hbel := below_of_grown hg1
              refine hK.out _ _ ⟨v2, v7, v12, v_, (by rw [ha.out]; exact putSel_upk 18 hb_ rfl rfl rfl), hb1, fun h0_ => Kd.R_below (Q_HO h0_) hbel, fun h0_ h1_ => Kd.R_below (Q_R2 h0_ h1_) hbel, fun h0_ h1_ => Kd.R_below (Q_R7 h0_ h1_) hbel, fun h0_ h1_ => Kd.R_below (Q_R12 h0_ h1_) hbel, fun _ _ => h1_⟩
            refine steps_cons ?_ ?_
            · rintro b a w' ⟨v2, v7, v12, v18, ha, Q_HB, Q_HO, Q_R2, Q_R7, Q_R12, Q_R18⟩ hb_ hon hoff
              refine ⟨_, rfl, fun K hK => ?_⟩
              have e60 : a.tmps[60]? = some (v18) := by rw [ha]; exact putSel_on (e := (18, 60, v18)) 18 rfl rfl (hon 18 (by kernel_rfl)) rfl
              replace ha := Aside0.mk ha
              have HB := Aside0.mk Q_HB
              have R18 := Aside0.mk (Q_R18 (hon 18 (by kernel_rfl)) hb_)
              obtain ⟨A_, c_, e_⟩ := Kd.R_slice R18.out
              subst e_
              refine goes_ Try.func12 rfl rfl #[.slice A_ [(pc.extract 0 n)].length c_] (by rfl) rfl rfl (by first | (simp only [List.map_toArray, List.map_cons, List.map_nil, Act.eval, Array.getD_eq_getD_getElem?, Option.getD_some, e60]; done) | (simp only [List.map_toArray, List.map_cons, List.map_nil, Act.eval, Array.getD_eq_getD_getElem?, Option.getD_some, e60]; rfl)) ?_
              refine (check_Sum.calls 9 A_ c_ [(pc.extract 0 n)] s3 w' (Kd.R_reads' R18.out).2.2 (Kd.R_reads' R18.out).2.1 M3.out).mono ?_
              rintro e_ w4_ ⟨rfl, hbel⟩
              refine ⟨_, rfl, ?_⟩
              refine hK.out _ _ ⟨v2, v7, v12, (.slice A_ [(pc.extract 0 n)].length c_), (by rw [ha.out]; exact putSel_upk 19 hb_ rfl rfl rfl), below_step HB.out hbel, fun h0_ => absurd ((hon 1 (by kernel_rfl)).symm.trans h0_) (by decide), fun _ h1_ => absurd ((hon 3 (by kernel_rfl)).symm.trans h1_) (by decide), fun _ h1_ => absurd ((hon 8 (by kernel_rfl)).symm.trans h1_) (by decide), fun _ h1_ => absurd ((hon 13 (by kernel_rfl)).symm.trans h1_) (by decide), fun _ h1_ => absurd ((up_self b 19).symm.trans h1_) (by decide)⟩
            refine steps_cons ?_ ?_
            · rintro b a w' ⟨v2, v7, v12, v18, ha, Q_HB, Q_HO, Q_R2, Q_R7, Q_R12, Q_R18⟩ hb_ hon hoff
              refine ⟨_, rfl, fun K hK => ?_⟩
              have e56 : a.tmps[56]? = some (.int .u32 y) := by rw [ha]; exact putSel_on (e := (14, 56, .int .u32 y)) 14 rfl rfl (hon 14 (by kernel_rfl)) rfl
              have e61 : a.tmps[61]? = some (.int .u32 s3) := by rw [ha]; exact putSel_on (e := (19, 61, .int .u32 s3)) 19 rfl rfl (hon 19 (by kernel_rfl)) rfl
              replace ha := Aside0.mk ha
              have HB := Aside0.mk Q_HB
              have hxx_ := E2.out
              refine value_ (w1 := w') (v := .int .u32 s0) (by rfl) rfl ?_ ?_
              · go_simp
                (try simp only [i64_w])
                try rfl
              refine hK.out _ _ ⟨v2, v7, v12, v18, (by rw [ha.out]; exact putSel_upk 20 hb_ rfl rfl rfl), Q_HB, fun h0_ => absurd ((hon 1 (by kernel_rfl)).symm.trans h0_) (by decide), fun _ h1_ => absurd ((hon 3 (by kernel_rfl)).symm.trans h1_) (by decide), fun _ h1_ => absurd ((hon 8 (by kernel_rfl)).symm.trans h1_) (by decide), fun _ h1_ => absurd ((hon 13 (by kernel_rfl)).symm.trans h1_) (by decide), fun _ h1_ => absurd ((hon 19 (by kernel_rfl)).symm.trans h1_) (by decide)⟩
            refine steps_cons ?_ ?_
            · rintro b a w' ⟨v2, v7, v12, v18, ha, Q_HB, Q_HO, Q_R2, Q_R7, Q_R12, Q_R18⟩ hb_ hon hoff
              refine ⟨_, rfl, fun K hK => ?_⟩
              have e45 : a.tmps[45]? = some (.int .u32 s0) := by rw [ha]; exact putSel_on (e := (3, 45, .int .u32 s0)) 3 rfl rfl (hon 3 (by kernel_rfl)) rfl
              have e62 : a.tmps[62]? = some (.int .u32 s0) := by rw [ha]; exact putSel_on (e := (20, 62, .int .u32 s0)) 20 rfl rfl (hon 20 (by kernel_rfl)) rfl
              replace ha := Aside0.mk ha
              have HB := Aside0.mk Q_HB
              refine value_ (w1 := w') (v := .bool true) (by rfl) rfl ?_ ?_
              · go_simp
                (try simp only [i64_w])
                try rfl
              refine hK.out _ _ ⟨v2, v7, v12, v18, (by rw [ha.out]; exact putSel_upk 21 hb_ rfl rfl rfl), Q_HB, fun h0_ => absurd ((hon 1 (by kernel_rfl)).symm.trans h0_) (by decide), fun _ h1_ => absurd ((hon 3 (by kernel_rfl)).symm.trans h1_) (by decide), fun _ h1_ => absurd ((hon 8 (by kernel_rfl)).symm.trans h1_) (by decide), fun _ h1_ => absurd ((hon 13 (by kernel_rfl)).symm.trans h1_) (by decide), fun _ h1_ => absurd ((hon 19 (by kernel_rfl)).symm.trans h1_) (by decide)⟩
            refine steps_cons ?_ ?_
            · rintro b a w' ⟨v2, v7, v12, v18, ha, Q_HB, Q_HO, Q_R2, Q_R7, Q_R12, Q_R18⟩ hb_ hon hoff
              refine ⟨_, rfl, fun K hK => ?_⟩
              have e63 : a.tmps[63]? = some (.bool true) := by rw [ha]; exact putSel_on (e := (21, 63, .bool true)) 21 rfl rfl (hon 21 (by kernel_rfl)) rfl
              replace ha := Aside0.mk ha
              have HB := Aside0.mk Q_HB
              refine value_ (w1 := w') (v := .bool true) (by rfl) rfl ?_ ?_
              · go_simp
                (try simp only [i64_w])
                try rfl
              refine hK.out _ _ ⟨v2, v7, v12, v18, (by rw [ha.out]; exact putSel_upk 22 hb_ rfl rfl rfl), Q_HB, fun h0_ => absurd ((hon 1 (by kernel_rfl)).symm.trans h0_) (by decide), fun _ h1_ => absurd ((hon 3 (by kernel_rfl)).symm.trans h1_) (by decide), fun _ h1_ => absurd ((hon 8 (by kernel_rfl)).symm.trans h1_) (by decide), fun _ h1_ => absurd ((hon 13 (by kernel_rfl)).symm.trans h1_) (by decide), fun _ h1_ => absurd ((hon 19 (by kernel_rfl)).symm.trans h1_) (by decide)⟩
            refine steps_cons ?_ ?_
            · rintro b a w' ⟨v2, v7, v12, v18, ha, Q_HB, Q_HO, Q_R2, Q_R7, Q_R12, Q_R18⟩ hb_ hon hoff
              refine ⟨_, rfl, fun K hK => ?_⟩
              have e64 : a.tmps[64]? = some (.bool true) := by rw [ha]; exact putSel_on (e := (22, 64, .bool true)) 22 rfl rfl (hon 22 (by kernel_rfl)) rfl
              replace ha := Aside0.mk ha
              have HB := Aside0.mk Q_HB
              refine goes_ Try.func11 rfl rfl #[] (wanted_on rfl rfl rfl (e64.trans (by first | rfl | (simp [*]; done)))) rfl rfl (by first | (simp only [List.map_toArray, List.map_cons, List.map_nil, Act.eval, Array.getD_eq_getD_getElem?, Option.getD_some, e64]; done) | (simp only [List.map_toArray, List.map_cons, List.map_nil, Act.eval, Array.getD_eq_getD_getElem?, Option.getD_some, e64]; rfl)) ?_
              refine (weirkeeperlaw02_awake.calls true w' rfl).mono ?_
              rintro e_ w4_ ⟨rfl, hbel⟩
              refine ⟨_, rfl, ?_⟩
              refine hK.out _ _ ⟨v2, v7, v12, v18, (by rw [ha.out]; exact putSel_upk 23 hb_ rfl rfl rfl), below_step HB.out hbel, fun h0_ => absurd ((hon 1 (by kernel_rfl)).symm.trans h0_) (by decide), fun _ h1_ => absurd ((hon 3 (by kernel_rfl)).symm.trans h1_) (by decide), fun _ h1_ => absurd ((hon 8 (by kernel_rfl)).symm.trans h1_) (by decide), fun _ h1_ => absurd ((hon 13 (by kernel_rfl)).symm.trans h1_) (by decide), fun _ h1_ => absurd ((hon 19 (by kernel_rfl)).symm.trans h1_) (by decide)⟩
            refine steps_cons ?_ ?_
            · rintro b a w' ⟨v2, v7, v12, v18, ha, Q_HB, Q_HO, Q_R2, Q_R7, Q_R12, Q_R18⟩ hb_ hon hoff
              refine ⟨_, rfl, fun K hK => ?_⟩
              have e64 : a.tmps[64]? = some (.bool true) := by rw [ha]; exact putSel_on (e := (22, 64, .bool true)) 22 rfl rfl (hon 22 (by kernel_rfl)) rfl
              have e65 : a.tmps[65]? = some (.bool true) := by rw [ha]; exact putSel_on (e := (23, 65, .bool true)) 23 rfl rfl (hon 23 (by kernel_rfl)) rfl
              replace ha := Aside0.mk ha
              have HB := Aside0.mk Q_HB
              refine value_ (w1 := w') (v := .bool true) (by rfl) rfl ?_ ?_
              · go_simp
                (try simp only [i64_w])
                try rfl
              refine hK.out _ _ ⟨v2, v7, v12, v18, (by rw [ha.out]; exact putSel_upk 24 hb_ rfl rfl rfl), Q_HB, fun h0_ => absurd ((hon 1 (by kernel_rfl)).symm.trans h0_) (by decide), fun _ h1_ => absurd ((hon 3 (by kernel_rfl)).symm.trans h1_) (by decide), fun _ h1_ => absurd ((hon 8 (by kernel_rfl)).symm.trans h1_) (by decide), fun _ h1_ => absurd ((hon 13 (by kernel_rfl)).symm.trans h1_) (by decide), fun _ h1_ => absurd ((hon 19 (by kernel_rfl)).symm.trans h1_) (by decide)⟩
            refine steps_cons ?_ ?_
            · rintro b a w' ⟨v2, v7, v12, v18, ha, Q_HB, Q_HO, Q_R2, Q_R7, Q_R12, Q_R18⟩ hb_ hon hoff
              refine ⟨_, rfl, fun K hK => ?_⟩
              have e66 : a.tmps[66]? = some (.bool true) := by rw [ha]; exact putSel_on (e := (24, 66, .bool true)) 24 rfl rfl (hon 24 (by kernel_rfl)) rfl
              replace ha := Aside0.mk ha
              have HB := Aside0.mk Q_HB
              refine value_ (w1 := w') (v := .bool true) (by rfl) rfl ?_ ?_
              · go_simp
                (try simp only [i64_w])
                try rfl
              refine hK.out _ _ ⟨v2, v7, v12, v18, (by rw [ha.out]; exact putSel_upk 25 hb_ rfl rfl rfl), Q_HB, fun h0_ => absurd ((hon 1 (by kernel_rfl)).symm.trans h0_) (by decide), fun _ h1_ => absurd ((hon 3 (by kernel_rfl)).symm.trans h1_) (by decide), fun _ h1_ => absurd ((hon 8 (by kernel_rfl)).symm.trans h1_) (by decide), fun _ h1_ => absurd ((hon 13 (by kernel_rfl)).symm.trans h1_) (by decide), fun _ h1_ => absurd ((hon 19 (by kernel_rfl)).symm.trans h1_) (by decide)⟩
            exact steps_nil
          · rintro b a w' hall ⟨v2, v7, v12, v18, ha, Q_HB, Q_HO, Q_R2, Q_R7, Q_R12, Q_R18⟩
            clear HB HO
            have hb0_ := hall 0 (by kernel_rfl)
            have hb1_ := hall 1 (by kernel_rfl)
            have hb2_ := hall 2 (by kernel_rfl)
            have hb3_ := hall 3 (by kernel_rfl)
            have hb4_ := hall 4 (by kernel_rfl)
            have hb5_ := hall 5 (by kernel_rfl)
            have hb6_ := hall 6 (by kernel_rfl)
            have hb7_ := hall 7 (by kernel_rfl)
            have hb8_ := hall 8 (by kernel_rfl)
            have hb9_ := hall 9 (by kernel_rfl)
            have hb10_ := hall 10 (by kernel_rfl)
            have hb11_ := hall 11 (by kernel_rfl)
            have hb12_ := hall 12 (by kernel_rfl)
            have hb13_ := hall 13 (by kernel_rfl)
            have hb14_ := hall 14 (by kernel_rfl)
            have hb15_ := hall 15 (by kernel_rfl)
            have hb16_ := hall 16 (by kernel_rfl)
            have hb17_ := hall 17 (by kernel_rfl)
            have hb18_ := hall 18 (by kernel_rfl)
            have hb19_ := hall 19 (by kernel_rfl)
            have hb20_ := hall 20 (by kernel_rfl)
            have hb21_ := hall 21 (by kernel_rfl)
            have hb22_ := hall 22 (by kernel_rfl)
            have hb23_ := hall 23 (by kernel_rfl)
            have hb24_ := hall 24 (by kernel_rfl)
            have hb25_ := hall 25 (by kernel_rfl)
            subst ha
            simp only [putSel, hb0_, hb1_, hb2_, hb3_, hb4_, hb5_, hb6_, hb7_, hb8_, hb9_, hb10_, hb11_, hb12_, hb13_, hb14_, hb15_, hb16_, hb17_, hb18_, hb19_, hb20_, hb21_, hb22_, hb23_, hb24_, hb25_, if_true, Act.put, List.setIfInBounds_toArray, List.set_cons_zero, List.set_cons_succ]
            have HB := Aside0.mk Q_HB
            clear Q_HB
            clear Q_HO
            clear Q_R2
            clear Q_R7
            clear Q_R12
            clear Q_R18
            clear hall hb0_ hb1_ hb2_ hb3_ hb4_ hb5_ hb6_ hb7_ hb8_ hb9_ hb10_ hb11_ hb12_ hb13_ hb14_ hb15_ hb16_ hb17_ hb18_ hb19_ hb20_ hb21_ hb22_ hb23_ hb24_ hb25_
            go_wp2
            go_ret
            exact ⟨rfl, HB.out⟩
end Go.Proofs.Ytjldikjnljidbaa.Three
