/- The law TrailParts, walked: what is told in parts is what is told at once. -/
import Derived.Test.YtldccimehioakaaTrail
import Derived.Test.YtldccimehioakaaXx2
import Derived.Test.YtldccimehioakaaXx6
import Derived.Test.YtldccimehioakaaXx11
import Derived.Test.YtldccimehioakaaXx15
import Derived.Test.YtldccimehioakaaXx18
namespace Go.Proofs.Ytldccimehioakaa.Parts
open Go Go.RowKit Go.Proofs.Ytldccimehioakaa.X Go.Proofs.YtldccimehioakaaW Go.Proofs.YtldccimehioakaaW.PrintWords Go.Proofs.YtldccimehioakaaW.PrintLast Go.Proofs.YtldccimehioakaaW.PrintMore Go.Proofs.Ytldccimehioakaa.Fun Go.Proofs.Ytldccimehioakaa.Trail
set_option linter.unusedVariables false
set_option linter.unusedSimpArgs false
set_option maxRecDepth 100000
set_option maxHeartbeats 4000000
def Parts.T12 : Bool × List (List Nat × List Nat) := (true, [([], []), ([], []), ([0, 1], [0, 1]), ([], []), ([], []), ([4], [4]), ([5], [5]), ([3, 6], [3, 6]), ([7], [7]), ([8], [8]), ([2, 2, 0, 1, 2], [0, 2]), ([9, 10, 0, 1, 2, 3, 4, 5, 6, 7, 8, 9, 10], [9])])
def Parts.B12 : List Nat := [0, 0, 3, 0, 0, 16, 48, 120, 248, 504, 7, 2047]
theorem Parts.tab12 : rtab .any (opsOf Try.f4 12) = Parts.T12 := by kernel_rfl
theorem Parts.bits12 : waitsOk Parts.T12.2 Parts.B12 = true := by kernel_rfl
theorem below_of_grown {w w1 : World} (h : w.grownBy w1 none) : Below w.heap.size w w1 := ⟨h.os, h.tape, h.output, h.size, fun k hk => h.block k hk (by simp)⟩
theorem row_apart {α β : Type} {d : Kd α} {d' : Kd β} {e e' base : Nat} {ok ok' : Nat → Prop} {w w1 : World} {v v' : Value} {xs : List α} {ys : List β} (h : d.R e w base ok v xs) (h' : d'.R e' w1 w.heap.size ok' v' ys) (hy : 0 < ys.length) : v.ownBlock ≠ v'.ownBlock := by
  obtain ⟨g, cap, he, hb, _, _⟩ := Kd.R_form h' hy
  intro hee
  have h1 : v.ownBlock = some g := by rw [hee, he]; rfl
  have := Kd.R_lt h g h1
  omega
/-- What is told in parts: the Seqs, what was told so far, each part; after m of them nothing more is told. -/
structure Told (k : Nat) (l : List S30) (s n : Int) (r : S35) (AT : Nat → Int) (ALL PJ : Nat → List S30) (m : Nat) (E : List S30) : Prop where
  at0 : AT 0 = s
  all0 : ALL 0 = []
  part : ∀ j, trail_Since.f k l (AT j) n [r] = some (PJ j)
  stop : PJ m = []
  le : m ≤ l.length
  go : ∀ j, j < m → ∃ q, (PJ j).length = q + 1 ∧ ((PJ j).length : Int) ≤ n ∧ AT j < (rd_T30 (PJ j) 0).f0 ∧ AT (j + 1) = (rd_T30 (PJ j) (q : Int)).f0 ∧ ALL (j + 1) = ALL j ++ PJ j
  few : ∀ j, (ALL j).length + (PJ j).length ≤ 1000000
  whole : trail_Since.f k l s (l.length : Int) [r] = some E
  same : weirkeeperref13_Same.f k (ALL m) E = some true
def Fine (k : Nat) (l : List S30) (s mo : Int) (r : S35) : Prop := weirkeeperlaw16_awake.f k = some true ∧ 0 ≤ mo ∧ mo < 256 ∧ (weirkeeperlaw16_few.f k l = some false ∨ (weirkeeperlaw16_few.f k l = some true ∧ trail_Right.f k l = some false) ∨ (weirkeeperlaw16_few.f k l = some true ∧ trail_Right.f k l = some true ∧ l.length ≤ 1000 ∧ ∃ AT ALL PJ m E, Told k l s (1 + mo % 20) r AT ALL PJ m E))
theorem walk_a (k : Nat) (A : Option Addr) (c : Nat) (l : List S30) (s mo : Int) (ra rb : ByteArray) (ro : Bool) (w : World) (hC : Kd.C k30 w A l.length l) (hc : l.length ≤ c) (hf : weirkeeperlaw16_few.f k l = some false) (ha : weirkeeperlaw16_awake.f k = some true) :
    Calls Try.prog 4 #[.slice A l.length c, .int .i64 s, .int .u8 mo, .agg #[.string ra, .string rb, .bool ro]] w fun e w' => e = .returned (.bool true) ∧ Below w.heap.size w w' := by
  have HC := Aside0.mk hC
  have HF := Aside0.mk hf
  have HA := Aside0.mk ha
  clear hC hf ha
  go_enter Try.func4, Try.ntmps4
  go_wp2_with (first | ((with_reducible refine gate_dst (N := 7) rfl ?_); refine box_event ?hg (N := 7) ?hd (cs := #[.string ra, .string rb, .bool ro]) (t := 35) ?hr ?_; (case hd => rfl); (case hg => rfl); (case hr => first | (go_simp; done) | (go_simp; rfl)); intro g hg w2 hbox hb; have HB2 := Aside0.mk hb; clear hbox hb hg) | (go_at_call 9; refine (weirkeeperlaw16_few.calls k A c l false w2 (Kd.C_below HC.out HB2.out) hc HF.out).mono ?_; rintro e w3 ⟨rfl, hb⟩; have HB3 := Aside0.mk (below_step HB2.out hb); clear hb) | (go_at_call 10; refine (weirkeeperlaw16_awake.calls k true _ HA.out).mono ?_; rintro e w4 ⟨rfl, hb⟩; have HB4 := Aside0.mk (below_step HB3.out hb); clear hb))
  go_ret
  exact ⟨rfl, HB4.out⟩
theorem walk_b (k : Nat) (A : Option Addr) (c : Nat) (l : List S30) (s mo : Int) (ra rb : ByteArray) (ro : Bool) (w : World) (hC : Kd.C k30 w A l.length l) (hc : l.length ≤ c) (hf : weirkeeperlaw16_few.f k l = some true) (hr : trail_Right.f k l = some false) (ha : weirkeeperlaw16_awake.f k = some true) :
    Calls Try.prog 4 #[.slice A l.length c, .int .i64 s, .int .u8 mo, .agg #[.string ra, .string rb, .bool ro]] w fun e w' => e = .returned (.bool true) ∧ Below w.heap.size w w' := by
  have HC := Aside0.mk hC
  have HF := Aside0.mk hf
  have HR := Aside0.mk hr
  have HA := Aside0.mk ha
  clear hC hf hr ha
  go_enter Try.func4, Try.ntmps4
  go_wp2_with (first | ((with_reducible refine gate_dst (N := 7) rfl ?_); refine box_event ?hg (N := 7) ?hd (cs := #[.string ra, .string rb, .bool ro]) (t := 35) ?hr ?_; (case hd => rfl); (case hg => rfl); (case hr => first | (go_simp; done) | (go_simp; rfl)); intro g hg w2 hbox hb; have HB2 := Aside0.mk hb; clear hbox hb hg) | (go_at_call 9; refine (weirkeeperlaw16_few.calls k A c l true w2 (Kd.C_below HC.out HB2.out) hc HF.out).mono ?_; rintro e w3 ⟨rfl, hb⟩; have HB3 := Aside0.mk (below_step HB2.out hb); clear hb) | (go_at_call 15; refine (trail_Right.calls k A c l false w3 (Kd.C_below HC.out HB3.out) hc HR.out).mono ?_; rintro e w4 ⟨rfl, hb⟩; have HB4 := Aside0.mk (below_step HB3.out hb); clear hb) | (go_at_call 10; refine (weirkeeperlaw16_awake.calls k true _ HA.out).mono ?_; rintro e w5 ⟨rfl, hb⟩; have HB5 := Aside0.mk (below_step HB4.out hb); clear hb))
  go_ret
  exact ⟨rfl, HB5.out⟩
theorem walk_c (k : Nat) (A : Option Addr) (c : Nat) (l : List S30) (s mo : Int) (ra rb : ByteArray) (ro : Bool) (hmo : 0 ≤ mo) (hmo2 : mo < 256) (nn : Int) (hnn : 1 + mo % 20 = nn) (AT : Nat → Int) (ALL PJ : Nat → List S30) (m : Nat) (E : List S30) (w : World) (hC : Kd.C k30 w A l.length l) (hc : l.length ≤ c) (hl : l.length ≤ 1000) (hf : weirkeeperlaw16_few.f k l = some true) (hr : trail_Right.f k l = some true) (ha : weirkeeperlaw16_awake.f k = some true) (ht : Told k l s nn (⟨ra, rb, ro⟩ : S35) AT ALL PJ m E) :
    Calls Try.prog 4 #[.slice A l.length c, .int .i64 s, .int .u8 mo, .agg #[.string ra, .string rb, .bool ro]] w fun e w' => e = .returned (.bool true) ∧ Below w.heap.size w w' := by
  have HC := Aside0.mk hC
  have HF := Aside0.mk hf
  have HR := Aside0.mk hr
  have HA := Aside0.mk ha
  have HT := Aside0.mk ht
  have HN := Aside0.mk hnn
  have hu35 := Try.underlying35
  have hu30 := Try.underlying30
  clear hC hf hr ha ht hnn
  go_enter Try.func4, Try.ntmps4
  go_wp2_with (first | ((with_reducible refine gate_dst (N := 7) rfl ?_); refine box_event ?hg (N := 7) ?hd (cs := #[.string ra, .string rb, .bool ro]) (t := 35) ?hr ?_; (case hd => rfl); (case hg => rfl); (case hr => first | (go_simp; done) | (go_simp; rfl)); intro g hg w2 hbox hb; have HB2 := Aside0.mk hb; have BG2 := Aside0.mk hbox; clear hbox hb hg) | (go_at_call 9; refine (weirkeeperlaw16_few.calls k A c l true w2 (Kd.C_below HC.out HB2.out) hc HF.out).mono ?_; rintro e w3 ⟨rfl, hb⟩; have HB3 := Aside0.mk (below_step HB2.out hb); have BG3 := Aside0.mk (blk_below BG2.out hb); clear hb) | (go_at_call 15; refine (trail_Right.calls k A c l true w3 (Kd.C_below HC.out HB3.out) hc HR.out).mono ?_; rintro e w4 ⟨rfl, hb⟩; have HB4 := Aside0.mk (below_step HB3.out hb); have BG4 := Aside0.mk (blk_below BG3.out hb); clear hb))
  rw [HN.out]
  have hml := HT.out.le
  clear HN
  go_loopw [10, 11, 30] (fun v10 v11 v30 wr => ∃ (j : Nat) (v : Value), j ≤ m ∧ v = v10 ∧ v11 = .int .i64 (AT j) ∧ v30 = .int .i64 (j : Int) ∧ Aside0 (Kd.R k30 30 wr w.heap.size (fun _ => True) v (ALL j)) ∧ Aside0 (some g ≠ (v : Value).ownBlock) ∧ Aside0 (wr.heap[g]? = some (.cells #[.string ra, .string rb, .bool ro] 35 (0, 0))) ∧ Aside0 (Below w.heap.size w wr)) (fun _ _ i _ => l.length + 1 - (intOf i).toNat)
  case atStart => exact ⟨0, .slice none 0 0, by omega, rfl, by rw [HT.out.at0], rfl, ⟨by rw [HT.out.all0]; exact Kd.R_nil _ _ _ _ _⟩, ⟨by simp [Value.ownBlock]⟩, BG4, HB4⟩
  case round =>
    obtain ⟨j, v, hj, rfl, rfl, rfl, HY, HGN, BG, HB⟩ := hrel
    clear BG4 HB4
    have hc0 := (blk_cell BG.out 0).trans rfl
    have hc1 := (blk_cell BG.out 1).trans rfl
    have hc2 := (blk_cell BG.out 2).trans rfl
    have HS := Aside0.mk (HT.out.part j)
    by_cases hm : j < m
    · obtain ⟨q, hq, hqn, hgt, hat, hall⟩ := HT.out.go j hm
      have HAT := Aside0.mk hat
      have HALL := Aside0.mk hall
      have HFEW := Aside0.mk (HT.out.few j)
      generalize PJ j = X at HS hq hqn hgt HAT HALL HFEW
      generalize AT j = aj at HS hgt ⊢
      generalize ALL j = Y at HY HALL HFEW
      clear hat hall
      go_wp2_with (first | ((with_reducible refine gate_dst (N := 36) rfl ?_); (try (refine gate_guard (by rfl) ?_; dsimp only)); refine Kd.R_lit k35 w.heap.size 35 ?hg (N := 36) ?hd (w0 := w) (xs := [(⟨ra, rb, ro⟩ : S35)]) (inner := [.string ra, .string rb, .bool ro]) (ok := fun _ => True) (okp := fun _ => True) ?hr ?hp (fun _ hk => hk) trivial HB.out HB.out.size (by simp) ?_; (case hd => rfl); (case hg => rfl); (case hr => first | (go_simp; done) | (go_simp; rfl)); (case hp => exact (Reps.c3 (k35_mkM _ _ _ (⟨ra, rb, ro⟩ : S35)) (Reps.none _ _))); intro v36 w36 ho hb hg_ hnew_; obtain ⟨A36, c36, e36⟩ := Kd.R_slice ho; subst e36; have HL36 := Aside0.mk ho; have HB36 := Aside0.mk hb; have HQ36 := Aside0.mk (below_of_grown hg_); have BG36 := Aside0.mk (blk_below BG.out (below_of_grown hg_)); clear ho hb hg_ hnew_) | ((with_reducible refine gate_dst (N := 37) rfl ?_); (try (refine gate_guard (by rfl) ?_; dsimp only)); refine goesL_ (some 37) rfl rfl Try.func11 (by kernel_rfl) rfl #[.slice A l.length c, .int .i64 aj, .int .i64 nn, .slice A36 [(⟨ra, rb, ro⟩ : S35)].length c36] rfl (by (try simp only [List.map_toArray, List.map_cons, List.map_nil]); first | done | rfl | (simp only [List.length_drop, List.length_take]; rfl)) ?_; (with_reducible refine (trail_Since.calls k A c l aj nn A36 c36 [(⟨ra, rb, ro⟩ : S35)] X _ (Kd.C_below HC.out HB36.out) hc (Kd.R_reads' HL36.out).2.2 (Kd.R_reads' HL36.out).2.1 HS.out).mono ?_); rintro e w37 ⟨v37, rfl, ho, hb⟩; refine ⟨_, rfl, ?_⟩; have HO37 := Aside0.mk ho; have HB37 := Aside0.mk (below_step HB36.out hb); have HQ37 := Aside0.mk hb; obtain ⟨gx, cx, ex, _, _, _⟩ := Kd.R_form HO37.out (by omega); subst ex; obtain ⟨ad, hA, hxs⟩ := at_T30 (Kd.R_reads' HO37.out).2.2 0 (by omega) (by omega); obtain rfl : ad = ⟨gx, 0, none⟩ := (by injection hA with hA; exact hA.symm); clear hA; simp only [Int.toNat_zero, Nat.zero_mul, add_zero_] at hxs; obtain ⟨hx0, hx1, hx2, hx3, hx4, hx5⟩ := hxs; have BG37 := Aside0.mk (blk_below BG36.out HQ37.out); clear ho hb))
      have HX := Aside0.mk (show Kd.R k30 30 w37 w.heap.size (fun _ => True) (.slice (some ⟨gx, 0, none⟩) (q + 1) cx) X from by have h_ := Kd.R_lower HO37.out HB36.out.size; rw [hq] at h_; exact h_)
      have HY7 := Aside0.mk (Kd.R_below HY.out (HQ36.out.trans (HQ37.out.mono HQ36.out.size)))
      have NE := Aside0.mk (show (v : Value).ownBlock ≠ (Value.slice (some ⟨gx, 0, none⟩) (q + 1) cx).ownBlock from row_apart (Kd.R_below HY.out HQ36.out) (show Kd.R k30 30 w37 w36.heap.size (fun _ => True) (.slice (some ⟨gx, 0, none⟩) (q + 1) cx) X from by have h_ := HO37.out; rw [hq] at h_; exact h_) (by omega))
      have hw_ := Aside0.mk (show wrap64 (q : Int) = (q : Int) by unfold wrap64; have := HFEW.out; omega)
      clear HY HB BG hc0 hc1 hc2 hx0 hx1 hx2 hx3 hx4 hx5 HO37 HQ36 HQ37 HB36 BG36 HL36
      have HB := HB37
      have BG := BG37
      have HY := HY7
      clear HB37 BG37 HY7
      refine start_ (n := 12) (S := fun w' => True) (ds := []) #[false, false, false, false, false, false, false, false, false, false, false, false] (by kernel_rfl) rfl rfl trivial (fun hHeld => ?_); refine with_tabW Parts.tab12 Parts.bits12 (fun HT_ HW_ => ?_)
      replace HB := Aside0.mk (below_drew1 HB.out)
      replace HY := Aside0.mk (Kd.R_drew HY.out)
      replace HX := Aside0.mk (Kd.R_drew HX.out)
      replace BG := Aside0.mk (blk_drew BG.out)
      generalize w37.drew = w8 at HB HY HX BG ⊢
      refine inv_at [0, 1, 2, 3, 4, 5, 6, 7, 8, 9, 10, 11] (fun a0_ b a w' => ∃ (v2 : Value) (m10_ : Value), a = putSel a0_ b [(0, 53, v), (1, 54, .slice (some ⟨gx, 0, none⟩) (q + 1) cx), (2, 55, v2), (3, 56, .slice (some ⟨gx, 0, none⟩) (q + 1) cx), (4, 57, .slice (some ⟨gx, 0, none⟩) (q + 1) cx), (5, 58, .int .i64 ((q : Int) + 1)), (6, 59, .int .i64 (q : Int)), (7, 60, .pointer (some ⟨gx, q * 6, none⟩)), (8, 61, .pointer (some ⟨gx, q * 6, none⟩)), (9, 62, .int .i64 (rd_T30 X (q : Int)).f0), (10, 10, m10_), (11, 11, .int .i64 (rd_T30 X (q : Int)).f0)] ∧ (Below w.heap.size w w') ∧ (b 2 = false → Kd.R k30 30 w' w.heap.size (fun _ => True) v Y) ∧ (Kd.R k30 30 w' w.heap.size (fun _ => True) (.slice (some ⟨gx, 0, none⟩) (q + 1) cx) X) ∧ (w'.heap[g]? = some (.cells #[.string ra, .string rb, .bool ro] 35 (0, 0))) ∧ (b 2 = true → Kd.R k30 30 w' w.heap.size (fun _ => True) v2 (Y ++ X)) ∧ (b 2 = true → some g ≠ (v2 : Value).ownBlock) ∧ (b 10 = true → (m10_ : Value) = v2)) HT_.out HW_.out (by kernel_rfl) (by kernel_rfl) ?_ ?_ ?_
      · exact ⟨.bool false, .bool false, by simp only [putSel, Bool.false_eq_true, if_false], HB.out, fun _ => HY.out, HX.out, BG.out, fun h_ => absurd h_ (by decide), fun h_ => absurd h_ (by decide), fun h_ => absurd h_ (by decide)⟩
      · skip
        clear BG HB HX HY
        refine steps_cons ?_ ?_
        · rintro b a w' ⟨v2, m10_, ha, Q_HB, Q_HY, Q_HX, Q_BG, Q_R2, Q_N2, Q_X10_⟩ hb_ hon hoff
          refine ⟨_, rfl, fun K hK => ?_⟩
          have e10 : a.tmps[10]? = some (v) := by rw [ha]; exact (putSel_not (hoff 10 (by kernel_rfl)) rfl).trans rfl
          replace ha := Aside0.mk ha
          have HB := Aside0.mk Q_HB
          have HY := Aside0.mk (Q_HY (hoff 2 (by kernel_rfl)))
          have HX := Aside0.mk Q_HX
          have BG := Aside0.mk Q_BG
          refine value_ (w1 := w') (v := v) (by rfl) rfl ?_ ?_
          · go_simp
            (try simp only [i64_w])
            try rfl
          refine hK.out _ _ ⟨v2, m10_, (by rw [ha.out]; exact putSel_upk 0 hb_ rfl rfl rfl), Q_HB, Q_HY, Q_HX, Q_BG, fun h0_ => absurd ((hoff 2 (by kernel_rfl)).symm.trans h0_) (by decide), fun h0_ => absurd ((hoff 2 (by kernel_rfl)).symm.trans h0_) (by decide), fun h0_ => absurd ((hoff 10 (by kernel_rfl)).symm.trans h0_) (by decide)⟩
        refine steps_cons ?_ ?_
        · rintro b a w' ⟨v2, m10_, ha, Q_HB, Q_HY, Q_HX, Q_BG, Q_R2, Q_N2, Q_X10_⟩ hb_ hon hoff
          refine ⟨_, rfl, fun K hK => ?_⟩
          have e12 : a.tmps[12]? = some (.slice (some ⟨gx, 0, none⟩) (q + 1) cx) := by rw [ha]; exact (putSel_off rfl).trans rfl
          replace ha := Aside0.mk ha
          have HB := Aside0.mk Q_HB
          have HY := Aside0.mk (Q_HY (hoff 2 (by kernel_rfl)))
          have HX := Aside0.mk Q_HX
          have BG := Aside0.mk Q_BG
          refine value_ (w1 := w') (v := .slice (some ⟨gx, 0, none⟩) (q + 1) cx) (by rfl) rfl ?_ ?_
          · go_simp
            (try simp only [i64_w])
            try rfl
          refine hK.out _ _ ⟨v2, m10_, (by rw [ha.out]; exact putSel_upk 1 hb_ rfl rfl rfl), Q_HB, Q_HY, Q_HX, Q_BG, fun h0_ => absurd ((hoff 2 (by kernel_rfl)).symm.trans h0_) (by decide), fun h0_ => absurd ((hoff 2 (by kernel_rfl)).symm.trans h0_) (by decide), fun h0_ => absurd ((hoff 10 (by kernel_rfl)).symm.trans h0_) (by decide)⟩
        refine steps_cons ?_ ?_
        · rintro b a w' ⟨v2, m10_, ha, Q_HB, Q_HY, Q_HX, Q_BG, Q_R2, Q_N2, Q_X10_⟩ hb_ hon hoff
          refine ⟨_, rfl, fun K hK => ?_⟩
          have e53 : a.tmps[53]? = some (v) := by rw [ha]; exact putSel_on (e := (0, 53, v)) 0 rfl rfl (hon 0 (by kernel_rfl)) rfl
          have e54 : a.tmps[54]? = some (.slice (some ⟨gx, 0, none⟩) (q + 1) cx) := by rw [ha]; exact putSel_on (e := (1, 54, .slice (some ⟨gx, 0, none⟩) (q + 1) cx)) 1 rfl rfl (hon 1 (by kernel_rfl)) rfl
          replace ha := Aside0.mk ha
          have HB := Aside0.mk Q_HB
          have HY := Aside0.mk (Q_HY hb_)
          have HX := Aside0.mk Q_HX
          have BG := Aside0.mk Q_BG
          refine Kd.R_append_rows_step k30 (w0 := w) w.heap.size (by rfl) (.tmp 53) (.tmp 54) 22 30 (.agg #[.int .i64 0, .string (⟨#[]⟩ : ByteArray), .bool false, .string (⟨#[]⟩ : ByteArray), .bool false, .string (⟨#[]⟩ : ByteArray)]) 72 rfl Try.underlying22 put_E rfl (by decide) (by decide) v Y X (some ⟨gx, 0, none⟩) (q + 1) cx (fun _ => True) (fun _ => False) (eval_of e53) (eval_of e54) HY.out (show Kd.C k30 w' (some ⟨gx, 0, none⟩) (q + 1) X from by have h_ := (Kd.R_reads' HX.out).2.2; rw [hq] at h_; exact h_) (fun x cs h => by rw [k30_open h]; exact k30_mkM _ _ _ x) (fun _ h => h.elim) (fun _ _ => trivial) HB.out HB.out.size (by have := HFEW.out; simp; omega) ?_
          intro v2_ w2_ h6 hb6 hg6 hn6
          refine hK.out _ _ ⟨v2_, m10_, (by rw [ha.out]; exact putSel_upk 2 hb_ rfl rfl rfl), hb6, fun h0_ => absurd ((up_self b 2).symm.trans h0_) (by decide), Kd.R_grown2 HX.out rfl hg6 (fun k hk => by rw [← hk]; intro he; first | exact NE.out he | exact NE.out he.symm), blk_grown BG.out hg6 HGN.out, fun _ => h6, fun _ => (by rcases hn6 with h_ | ⟨b_, h_, h2_⟩; (rw [h_]; exact HGN.out); (rw [h_]; intro he; injection he with he; have h3_ := blk_lt BG.out; omega)), fun h0_ => absurd ((hoff 10 (by kernel_rfl)).symm.trans h0_) (by decide)⟩
        refine steps_cons ?_ ?_
        · rintro b a w' ⟨v2, m10_, ha, Q_HB, Q_HY, Q_HX, Q_BG, Q_R2, Q_N2, Q_X10_⟩ hb_ hon hoff
          refine ⟨_, rfl, fun K hK => ?_⟩
          have e12 : a.tmps[12]? = some (.slice (some ⟨gx, 0, none⟩) (q + 1) cx) := by rw [ha]; exact (putSel_off rfl).trans rfl
          replace ha := Aside0.mk ha
          have HB := Aside0.mk Q_HB
          have HX := Aside0.mk Q_HX
          have BG := Aside0.mk Q_BG
          refine value_ (w1 := w') (v := .slice (some ⟨gx, 0, none⟩) (q + 1) cx) (by rfl) rfl ?_ ?_
          · go_simp
            (try simp only [i64_w])
            try rfl
          refine hK.out _ _ ⟨v2, m10_, (by rw [ha.out]; exact putSel_upk 3 hb_ rfl rfl rfl), Q_HB, Q_HY, Q_HX, Q_BG, Q_R2, Q_N2, Q_X10_⟩
        refine steps_cons ?_ ?_
        · rintro b a w' ⟨v2, m10_, ha, Q_HB, Q_HY, Q_HX, Q_BG, Q_R2, Q_N2, Q_X10_⟩ hb_ hon hoff
          refine ⟨_, rfl, fun K hK => ?_⟩
          have e12 : a.tmps[12]? = some (.slice (some ⟨gx, 0, none⟩) (q + 1) cx) := by rw [ha]; exact (putSel_off rfl).trans rfl
          replace ha := Aside0.mk ha
          have HB := Aside0.mk Q_HB
          have HX := Aside0.mk Q_HX
          have BG := Aside0.mk Q_BG
          refine value_ (w1 := w') (v := .slice (some ⟨gx, 0, none⟩) (q + 1) cx) (by rfl) rfl ?_ ?_
          · go_simp
            (try simp only [i64_w])
            try rfl
          refine hK.out _ _ ⟨v2, m10_, (by rw [ha.out]; exact putSel_upk 4 hb_ rfl rfl rfl), Q_HB, Q_HY, Q_HX, Q_BG, Q_R2, Q_N2, Q_X10_⟩
        refine steps_cons ?_ ?_
        · rintro b a w' ⟨v2, m10_, ha, Q_HB, Q_HY, Q_HX, Q_BG, Q_R2, Q_N2, Q_X10_⟩ hb_ hon hoff
          refine ⟨_, rfl, fun K hK => ?_⟩
          have e57 : a.tmps[57]? = some (.slice (some ⟨gx, 0, none⟩) (q + 1) cx) := by rw [ha]; exact putSel_on (e := (4, 57, .slice (some ⟨gx, 0, none⟩) (q + 1) cx)) 4 rfl rfl (hon 4 (by kernel_rfl)) rfl
          replace ha := Aside0.mk ha
          have HB := Aside0.mk Q_HB
          have HX := Aside0.mk Q_HX
          have BG := Aside0.mk Q_BG
          refine value_ (w1 := w') (v := .int .i64 ((q : Int) + 1)) (by rfl) rfl ?_ ?_
          · go_simp
            (try simp only [i64_w])
            try rfl
          refine hK.out _ _ ⟨v2, m10_, (by rw [ha.out]; exact putSel_upk 5 hb_ rfl rfl rfl), Q_HB, Q_HY, Q_HX, Q_BG, Q_R2, Q_N2, Q_X10_⟩
        refine steps_cons ?_ ?_
        · rintro b a w' ⟨v2, m10_, ha, Q_HB, Q_HY, Q_HX, Q_BG, Q_R2, Q_N2, Q_X10_⟩ hb_ hon hoff
          refine ⟨_, rfl, fun K hK => ?_⟩
          have e58 : a.tmps[58]? = some (.int .i64 ((q : Int) + 1)) := by rw [ha]; exact putSel_on (e := (5, 58, .int .i64 ((q : Int) + 1))) 5 rfl rfl (hon 5 (by kernel_rfl)) rfl
          replace ha := Aside0.mk ha
          have HB := Aside0.mk Q_HB
          have HX := Aside0.mk Q_HX
          have BG := Aside0.mk Q_BG
          refine value_ (w1 := w') (v := .int .i64 (q : Int)) (by rfl) rfl ?_ ?_
          · go_simp
            (try simp only [i64_w])
            first | exact hw_.out | rfl
          refine hK.out _ _ ⟨v2, m10_, (by rw [ha.out]; exact putSel_upk 6 hb_ rfl rfl rfl), HB.out, fun h0_ => (Q_HY h0_), HX.out, BG.out, fun h0_ => (Q_R2 h0_), Q_N2, Q_X10_⟩
        refine steps_cons ?_ ?_
        · rintro b a w' ⟨v2, m10_, ha, Q_HB, Q_HY, Q_HX, Q_BG, Q_R2, Q_N2, Q_X10_⟩ hb_ hon hoff
          refine ⟨_, rfl, fun K hK => ?_⟩
          have e56 : a.tmps[56]? = some (.slice (some ⟨gx, 0, none⟩) (q + 1) cx) := by rw [ha]; exact putSel_on (e := (3, 56, .slice (some ⟨gx, 0, none⟩) (q + 1) cx)) 3 rfl rfl (hon 3 (by kernel_rfl)) rfl
          have e59 : a.tmps[59]? = some (.int .i64 (q : Int)) := by rw [ha]; exact putSel_on (e := (6, 59, .int .i64 (q : Int))) 6 rfl rfl (hon 6 (by kernel_rfl)) rfl
          replace ha := Aside0.mk ha
          have HB := Aside0.mk Q_HB
          have HX := Aside0.mk Q_HX
          have BG := Aside0.mk Q_BG
          refine value_ (w1 := w') (v := .pointer (some ⟨gx, q * 6, none⟩)) (by rfl) rfl ?_ ?_
          · go_simp
            (try simp only [i64_w])
            first | rfl | (intro h_; omega)
          refine hK.out _ _ ⟨v2, m10_, (by rw [ha.out]; exact putSel_upk 7 hb_ rfl rfl rfl), HB.out, fun h0_ => (Q_HY h0_), HX.out, BG.out, fun h0_ => (Q_R2 h0_), Q_N2, Q_X10_⟩
        refine steps_cons ?_ ?_
        · rintro b a w' ⟨v2, m10_, ha, Q_HB, Q_HY, Q_HX, Q_BG, Q_R2, Q_N2, Q_X10_⟩ hb_ hon hoff
          refine ⟨_, rfl, fun K hK => ?_⟩
          have e60 : a.tmps[60]? = some (.pointer (some ⟨gx, q * 6, none⟩)) := by rw [ha]; exact putSel_on (e := (7, 60, .pointer (some ⟨gx, q * 6, none⟩))) 7 rfl rfl (hon 7 (by kernel_rfl)) rfl
          replace ha := Aside0.mk ha
          have HB := Aside0.mk Q_HB
          have HX := Aside0.mk Q_HX
          have BG := Aside0.mk Q_BG
          refine value_ (w1 := w') (v := .pointer (some ⟨gx, q * 6, none⟩)) (by rfl) rfl ?_ ?_
          · go_simp
            (try simp only [i64_w])
            try rfl
          refine hK.out _ _ ⟨v2, m10_, (by rw [ha.out]; exact putSel_upk 8 hb_ rfl rfl rfl), Q_HB, Q_HY, Q_HX, Q_BG, Q_R2, Q_N2, Q_X10_⟩
        refine steps_cons ?_ ?_
        · rintro b a w' ⟨v2, m10_, ha, Q_HB, Q_HY, Q_HX, Q_BG, Q_R2, Q_N2, Q_X10_⟩ hb_ hon hoff
          refine ⟨_, rfl, fun K hK => ?_⟩
          have e61 : a.tmps[61]? = some (.pointer (some ⟨gx, q * 6, none⟩)) := by rw [ha]; exact putSel_on (e := (8, 61, .pointer (some ⟨gx, q * 6, none⟩))) 8 rfl rfl (hon 8 (by kernel_rfl)) rfl
          replace ha := Aside0.mk ha
          have HB := Aside0.mk Q_HB
          have HX := Aside0.mk Q_HX
          have BG := Aside0.mk Q_BG
          obtain ⟨ad_, hA_, hx_, _⟩ := at_T30 (Kd.R_reads' HX.out).2.2 (q : Int) (by omega) (by omega)
          obtain rfl : ad_ = ⟨gx, 0, none⟩ := (by injection hA_ with hA_; exact hA_.symm)
          rw [Int.toNat_natCast, add_zero_] at hx_
          refine value_ (w1 := w') (v := .int .i64 (rd_T30 X (q : Int)).f0) (by rfl) rfl ?_ ?_
          · go_simp
            (try simp only [i64_w])
            try rfl
          refine hK.out _ _ ⟨v2, m10_, (by rw [ha.out]; exact putSel_upk 9 hb_ rfl rfl rfl), Q_HB, Q_HY, Q_HX, Q_BG, Q_R2, Q_N2, Q_X10_⟩
        refine steps_cons ?_ ?_
        · rintro b a w' ⟨v2, m10_, ha, Q_HB, Q_HY, Q_HX, Q_BG, Q_R2, Q_N2, Q_X10_⟩ hb_ hon hoff
          refine ⟨_, rfl, fun K hK => ?_⟩
          have e55 : a.tmps[55]? = some (v2) := by rw [ha]; exact putSel_on (e := (2, 55, v2)) 2 rfl rfl (hon 2 (by kernel_rfl)) rfl
          replace ha := Aside0.mk ha
          have HB := Aside0.mk Q_HB
          have HX := Aside0.mk Q_HX
          have BG := Aside0.mk Q_BG
          have R2 := Aside0.mk (Q_R2 (hon 2 (by kernel_rfl)))
          have N2 := Aside0.mk (Q_N2 (hon 2 (by kernel_rfl)))
          refine value_ (w1 := w') (v := v2) (by rfl) rfl ?_ ?_
          · go_simp
            (try simp only [i64_w])
            try rfl
          refine hK.out _ _ ⟨v2, (v2), (by rw [ha.out]; exact putSel_upk 10 hb_ rfl rfl rfl), Q_HB, fun h0_ => absurd ((hon 2 (by kernel_rfl)).symm.trans h0_) (by decide), Q_HX, Q_BG, Q_R2, Q_N2, fun _ => rfl⟩
        refine steps_cons ?_ ?_
        · rintro b a w' ⟨v2, m10_, ha, Q_HB, Q_HY, Q_HX, Q_BG, Q_R2, Q_N2, Q_X10_⟩ hb_ hon hoff
          refine ⟨_, rfl, fun K hK => ?_⟩
          have e62 : a.tmps[62]? = some (.int .i64 (rd_T30 X (q : Int)).f0) := by rw [ha]; exact putSel_on (e := (9, 62, .int .i64 (rd_T30 X (q : Int)).f0)) 9 rfl rfl (hon 9 (by kernel_rfl)) rfl
          replace ha := Aside0.mk ha
          have HB := Aside0.mk Q_HB
          have HX := Aside0.mk Q_HX
          have BG := Aside0.mk Q_BG
          have R2 := Aside0.mk (Q_R2 (hon 2 (by kernel_rfl)))
          have N2 := Aside0.mk (Q_N2 (hon 2 (by kernel_rfl)))
          refine value_ (w1 := w') (v := .int .i64 (rd_T30 X (q : Int)).f0) (by rfl) rfl ?_ ?_
          · go_simp
            (try simp only [i64_w])
            try rfl
          refine hK.out _ _ ⟨v2, m10_, (by rw [ha.out]; exact putSel_upk 11 hb_ rfl rfl rfl), Q_HB, fun h0_ => absurd ((hon 2 (by kernel_rfl)).symm.trans h0_) (by decide), Q_HX, Q_BG, Q_R2, Q_N2, Q_X10_⟩
        exact steps_nil
      · rintro b a w' hall ⟨v2, m10_, ha, Q_HB, Q_HY, Q_HX, Q_BG, Q_R2, Q_N2, Q_X10_⟩
        clear BG HB HX HY
        have hb0_ := hall 0 (by kernel_rfl)
        have hb1_ := hall 1 (by kernel_rfl)
        have hb2_ := hall 2 (by kernel_rfl)
        have hb3_ := hall 3 (by kernel_rfl)
        have hb4_ := hall 4 (by kernel_rfl)
        have hb5_ := hall 5 (by kernel_rfl)
        have hb6_ := hall 6 (by kernel_rfl)
        have hb7_ := hall 7 (by kernel_rfl)
        have hb8_ := hall 8 (by kernel_rfl)
        have hb9_ := hall 9 (by kernel_rfl)
        have hb10_ := hall 10 (by kernel_rfl)
        have hb11_ := hall 11 (by kernel_rfl)
        subst ha
        obtain rfl := Q_X10_ hb10_
        simp only [putSel, hb0_, hb1_, hb2_, hb3_, hb4_, hb5_, hb6_, hb7_, hb8_, hb9_, hb10_, hb11_, if_true, Act.put, List.setIfInBounds_toArray, List.set_cons_zero, List.set_cons_succ]
        have HB := Aside0.mk Q_HB
        clear Q_HB
        clear Q_HY
        have HX := Aside0.mk Q_HX
        clear Q_HX
        have BG := Aside0.mk Q_BG
        clear Q_BG
        have R2 := Aside0.mk (Q_R2 hb2_)
        clear Q_R2
        have N2 := Aside0.mk (Q_N2 hb2_)
        clear Q_N2
        clear hall hb0_ hb1_ hb2_ hb3_ hb4_ hb5_ hb6_ hb7_ hb8_ hb9_ hb10_ hb11_
        go_wp2
        go_roundw
        case rel => exact ⟨j + 1, _, by omega, rfl, by rw [HAT.out], by go_num, ⟨by rw [HALL.out]; exact R2.out⟩, N2, BG, HB⟩
        case measure => simp [intOf]; omega
    · obtain rfl : j = m := by omega
      obtain ⟨Ay, cy, ey⟩ := Kd.R_slice HY.out
      subst ey
      have hwhole := HT.out.whole
      have HE := Aside0.mk hwhole
      have HSM := Aside0.mk HT.out.same
      clear hwhole
      generalize ALL j = Y at HY HSM
      go_wp2_with (first | ((with_reducible refine gate_dst (N := 36) rfl ?_); (try (refine gate_guard (by rfl) ?_; dsimp only)); refine Kd.R_lit k35 w.heap.size 35 ?hg (N := 36) ?hd (w0 := w) (xs := [(⟨ra, rb, ro⟩ : S35)]) (inner := [.string ra, .string rb, .bool ro]) (ok := fun _ => True) (okp := fun _ => True) ?hr ?hp (fun _ hk => hk) trivial HB.out HB.out.size (by simp) ?_; (case hd => rfl); (case hg => rfl); (case hr => first | (go_simp; done) | (go_simp; rfl)); (case hp => exact (Reps.c3 (k35_mkM _ _ _ (⟨ra, rb, ro⟩ : S35)) (Reps.none _ _))); intro v36 w36 ho hb hg_ hnew_; obtain ⟨A36, c36, e36⟩ := Kd.R_slice ho; subst e36; have HL36 := Aside0.mk ho; have HB36 := Aside0.mk hb; have HQ36 := Aside0.mk (below_of_grown hg_); have BG36 := Aside0.mk (blk_below BG.out (below_of_grown hg_)); clear ho hb hg_ hnew_) | ((with_reducible refine gate_dst (N := 37) rfl ?_); (try (refine gate_guard (by rfl) ?_; dsimp only)); refine goesL_ (some 37) rfl rfl Try.func11 (by kernel_rfl) rfl #[.slice A l.length c, .int .i64 (AT j), .int .i64 nn, .slice A36 [(⟨ra, rb, ro⟩ : S35)].length c36] rfl (by (try simp only [List.map_toArray, List.map_cons, List.map_nil]); first | done | rfl | (simp only [List.length_drop, List.length_take]; rfl)) ?_; (with_reducible refine (trail_Since.calls k A c l (AT j) nn A36 c36 [(⟨ra, rb, ro⟩ : S35)] (PJ j) _ (Kd.C_below HC.out HB36.out) hc (Kd.R_reads' HL36.out).2.2 (Kd.R_reads' HL36.out).2.1 HS.out).mono ?_); rintro e w37 ⟨v37, rfl, ho, hb⟩; refine ⟨_, rfl, ?_⟩; have HO37 := Aside0.mk ho; have HB37 := Aside0.mk (below_step HB36.out hb); have HQ37 := Aside0.mk hb; have HPZ := Aside0.mk HT.out.stop; obtain ⟨A37, c37, e37⟩ := Kd.R_slice HO37.out; subst e37; rw [HPZ.out] at HO37 ⊢; have BG37 := Aside0.mk (blk_below BG36.out HQ37.out); have h0a := (blk_cell BG37.out 0).trans rfl; have h1a := (blk_cell BG37.out 1).trans rfl; have h2a := (blk_cell BG37.out 2).trans rfl; clear ho hb) | ((with_reducible refine gate_dst (N := 70) rfl ?_); (try (refine gate_guard (by rfl) ?_; dsimp only)); refine Kd.R_lit k35 w.heap.size 35 ?hg (N := 70) ?hd (w0 := w) (xs := [(⟨ra, rb, ro⟩ : S35)]) (inner := [.string ra, .string rb, .bool ro]) (ok := fun _ => True) (okp := fun _ => True) ?hr ?hp (fun _ hk => hk) trivial HB37.out HB37.out.size (by simp) ?_; (case hd => rfl); (case hg => rfl); (case hr => first | (go_simp; done) | (go_simp; rfl)); (case hp => exact (Reps.c3 (k35_mkM _ _ _ (⟨ra, rb, ro⟩ : S35)) (Reps.none _ _))); intro v70 w70 ho hb hg_ hnew_; obtain ⟨A70, c70, e70⟩ := Kd.R_slice ho; subst e70; have HL70 := Aside0.mk ho; have HB70 := Aside0.mk hb; have HQ70 := Aside0.mk (below_of_grown hg_); have BG70 := Aside0.mk (blk_below BG37.out (below_of_grown hg_)); clear ho hb hg_ hnew_) | ((with_reducible refine gate_dst (N := 71) rfl ?_); (try (refine gate_guard (by rfl) ?_; dsimp only)); refine goesL_ (some 71) rfl rfl Try.func11 (by kernel_rfl) rfl #[.slice A l.length c, .int .i64 s, .int .i64 (l.length : Int), .slice A70 [(⟨ra, rb, ro⟩ : S35)].length c70] rfl (by (try simp only [List.map_toArray, List.map_cons, List.map_nil]); first | done | rfl | (simp only [List.length_drop, List.length_take]; rfl)) ?_; (with_reducible refine (trail_Since.calls k A c l s (l.length : Int) A70 c70 [(⟨ra, rb, ro⟩ : S35)] E _ (Kd.C_below HC.out HB70.out) hc (Kd.R_reads' HL70.out).2.2 (Kd.R_reads' HL70.out).2.1 HE.out).mono ?_); rintro e w71 ⟨v71, rfl, ho, hb⟩; refine ⟨_, rfl, ?_⟩; have HO71 := Aside0.mk ho; have HB71 := Aside0.mk (below_step HB70.out hb); have HQ71 := Aside0.mk hb; obtain ⟨A71, c71, e71⟩ := Kd.R_slice HO71.out; subst e71; have BG71 := Aside0.mk (blk_below BG70.out HQ71.out); clear ho hb) | ((with_reducible refine gate_dst (N := 72) rfl ?_); (try (refine gate_guard (by rfl) ?_; dsimp only)); refine goesL_ (some 72) rfl rfl Try.func17 (by kernel_rfl) rfl #[.slice Ay Y.length cy, .slice A71 E.length c71] rfl (by (try simp only [List.map_toArray, List.map_cons, List.map_nil]); first | done | rfl | (simp only [List.length_drop, List.length_take]; rfl)) ?_; (with_reducible refine (weirkeeperref13_Same.calls k Ay cy Y A71 c71 E true _ (Kd.C_below (Kd.R_reads' HY.out).2.2 (HQ36.out.trans ((HQ37.out.mono HQ36.out.size).trans ((HQ70.out.mono (Nat.le_trans HQ36.out.size HQ37.out.size)).trans (HQ71.out.mono (Nat.le_trans HQ36.out.size (Nat.le_trans HQ37.out.size HQ70.out.size))))))) (Kd.R_reads' HY.out).2.1 (Kd.R_reads' HO71.out).2.2 (Kd.R_reads' HO71.out).2.1 HSM.out).mono ?_); rintro e w72 ⟨rfl, hd⟩; refine ⟨_, rfl, ?_⟩; obtain ⟨nd, rfl⟩ := hd; have HB72 := Aside0.mk (pw_below_drewN HB71.out nd); have BG72 := Aside0.mk (blk_drewN BG71.out nd); clear HB71 BG71; have h0b := (blk_cell BG72.out 0).trans rfl; have h1b := (blk_cell BG72.out 1).trans rfl; have h2b := (blk_cell BG72.out 2).trans rfl) | ((with_reducible refine gate_dst (N := 78) rfl ?_); (try (refine gate_guard (by rfl) ?_; dsimp only)); refine Kd.R_lit k35 w.heap.size 35 ?hg (N := 78) ?hd (w0 := w) (xs := [(⟨ra, rb, ro⟩ : S35)]) (inner := [.string ra, .string rb, .bool ro]) (ok := fun _ => True) (okp := fun _ => True) ?hr ?hp (fun _ hk => hk) trivial HB72.out HB72.out.size (by simp) ?_; (case hd => rfl); (case hg => rfl); (case hr => first | (go_simp; done) | (go_simp; rfl)); (case hp => exact (Reps.c3 (k35_mkM _ _ _ (⟨ra, rb, ro⟩ : S35)) (Reps.none _ _))); intro v78 w78 ho hb hg_ hnew_; obtain ⟨A78, c78, e78⟩ := Kd.R_slice ho; subst e78; have HL78 := Aside0.mk ho; have HB78 := Aside0.mk hb; have HQ78 := Aside0.mk (below_of_grown hg_); have BG78 := Aside0.mk (blk_below BG72.out (below_of_grown hg_)); clear ho hb hg_ hnew_) | ((with_reducible refine gate_dst (N := 79) rfl ?_); (try (refine gate_guard (by rfl) ?_; dsimp only)); refine goesL_ (some 79) rfl rfl Try.func11 (by kernel_rfl) rfl #[.slice A l.length c, .int .i64 (AT j), .int .i64 nn, .slice A78 [(⟨ra, rb, ro⟩ : S35)].length c78] rfl (by (try simp only [List.map_toArray, List.map_cons, List.map_nil]); first | done | rfl | (simp only [List.length_drop, List.length_take]; rfl)) ?_; (with_reducible refine (trail_Since.calls k A c l (AT j) nn A78 c78 [(⟨ra, rb, ro⟩ : S35)] (PJ j) _ (Kd.C_below HC.out HB78.out) hc (Kd.R_reads' HL78.out).2.2 (Kd.R_reads' HL78.out).2.1 HS.out).mono ?_); rintro e w79 ⟨v79, rfl, ho, hb⟩; refine ⟨_, rfl, ?_⟩; have HO79 := Aside0.mk ho; have HB79 := Aside0.mk (below_step HB78.out hb); have HQ79 := Aside0.mk hb; obtain ⟨A79, c79, e79⟩ := Kd.R_slice HO79.out; subst e79; rw [HPZ.out] at HO79 ⊢; clear ho hb) | (go_at_call 10; refine (weirkeeperlaw16_awake.calls k true _ HA.out).mono ?_; rintro e w84 ⟨rfl, hb⟩; have HB84 := Aside0.mk (below_step HB79.out hb); clear hb))
      go_ret
      exact ⟨rfl, HB84.out⟩
end Go.Proofs.Ytldccimehioakaa.Parts
