/- The law CheckBurst, walked: a text's bytes, some of their bits turned, and two sums. -/
import Derived.Test.YtjldikjnljidbaaHand
import Derived.Test.YtjldikjnljidbaaXx2
import Derived.Test.YtjldikjnljidbaaXx3
import Derived.Test.YtjldikjnljidbaaXx4
import Derived.RegionTactic
import Derived.Lib.ConvBytes
namespace Go.Proofs.Ytjldikjnljidbaa.Burst
open Go Go.RowKit Go.Proofs.Ytjldikjnljidbaa.X Go.Proofs.YtjldikjnljidbaaW Go.Proofs.YtjldikjnljidbaaW.PrintWords Go.Proofs.YtjldikjnljidbaaW.PrintLast Go.Proofs.YtjldikjnljidbaaW.PrintMore
set_option linter.unusedVariables false
set_option linter.unusedSimpArgs false
set_option maxRecDepth 100000
set_option maxHeartbeats 4000000
theorem below_of_grown {w w1 : World} (h : w.grownBy w1 none) : Below w.heap.size w w1 := ⟨h.os, h.tape, h.output, h.size, fun k hk => h.block k hk (by simp)⟩
/-- The cells of a row of bytes, and what lies behind them. -/
def cellsOf (L : List UInt8) (Z : List Value) : Array Value := (L.map (fun b => Value.int .u8 (b.toNat : Int)) ++ Z).toArray
theorem cells_at (L : List UInt8) (Z : List Value) (i : Nat) (h : i < L.length) : (cellsOf L Z)[i]? = some (.int .u8 (L[i].toNat : Int)) := by
  unfold cellsOf
  rw [List.getElem?_toArray, List.getElem?_append_left (by simpa using h), List.getElem?_map, List.getElem?_eq_getElem h]
  rfl
theorem cells_set (L : List UInt8) (Z : List Value) (i : Nat) (h : i < L.length) (b : UInt8) : (cellsOf L Z).setIfInBounds i (.int .u8 (b.toNat : Int)) = cellsOf (L.set i b) Z := by
  unfold cellsOf
  rw [List.setIfInBounds_toArray, List.set_append_left _ _ (by simpa using h), List.map_set]
theorem cells_size (L : List UInt8) (Z : List Value) : (cellsOf L Z).size = L.length + Z.length := by simp [cellsOf]
section
variable {P : Program} {ops : Array Oper} {rest : List Oper} {o : Oper} {a : Act} {Q : Exit → Act → World → Prop} {w : World}
theorem bytes_event (hgd : o.guard = none) (x : Operand) (ho : o.op = .convert 9 31 x) (s : ByteArray) (hx : a.eval x = .string s) {u : TypeDesc} (hs : P.underlying 9 = some u) (hd : P.underlying 31 = some (.slice 5)) (he : P.underlying 5 = some (.int .u8))
    (h : ∀ g c Z w1, g = w.heap.size → w1.heap[g]? = some (.cells (cellsOf s.data.toList Z) 5 (s.data.toList.length + Z.length, s.data.toList.length + Z.length + 1)) → Below w.heap.size w w1 → s.size ≤ c → wpList P ops Q rest (a.put o.dst (.slice (some ⟨g, 0, none⟩) s.size c)) w1) : wpList P ops Q (o :: rest) a w := by
  have hc : Lib.bytesCells w 5 s = cellsOf s.data.toList (List.replicate (grownCap w s.size 0 5 - s.size) (.int .u8 0)) := by
    unfold Lib.bytesCells cellsOf
    apply Array.toList_inj.1
    simp
  have hcap : s.size ≤ grownCap w s.size 0 5 := by unfold grownCap; first | omega | (simp; omega) | exact Nat.le_max_left _ _ | exact Nat.le_max_right _ _ | exact Nat.le_add_right _ _ | exact Nat.le_add_left _ _
  refine Kd.event_run hgd ?_ (h w.heap.size (grownCap w s.size 0 5) (List.replicate (grownCap w s.size 0 5 - s.size) (.int .u8 0)) (Lib.bytesWorld w 5 s) rfl ?_ ⟨rfl, rfl, rfl, by rw [Lib.bytesWorld_size]; omega, fun k hk => Lib.bytesWorld_at_old w 5 s k hk⟩ hcap)
  · have hr := Lib.run_convert_string_bytes (P := P) w 9 31 5 s hs hd he
    unfold execOp
    simp [ho, hx, hr]
  · rw [Lib.bytesWorld_at_new, hc, cells_size]
end
/-- One bit turned. -/
def flip (L : List UInt8) (k : Nat) : List UInt8 := L.set (k / 8) (L.getD (k / 8) 0 ^^^ (128 >>> UInt8.ofNat (k % 8)))
/-- The bits turned, up to one. -/
def after (L : List UInt8) (from_ bits : Nat) : Nat → List UInt8
  | 0 => L
  | j + 1 => if bits.testBit j then flip (after L from_ bits j) (from_ + j) else after L from_ bits j
theorem flip_len (L : List UInt8) (k : Nat) : (flip L k).length = L.length := by simp [flip]
theorem after_len (L : List UInt8) (from_ bits : Nat) : ∀ j, (after L from_ bits j).length = L.length
  | 0 => rfl
  | j + 1 => by
    unfold after
    split
    · rw [flip_len, after_len L from_ bits j]
    · exact after_len L from_ bits j
theorem bit_test (bt j : Nat) (h : bt < 16777216) : (Go.bits .and .u32 ((bt : Int) / 2 ^ j) 1 == 1) = bt.testBit j := by
  have h1 : bt / 2 ^ j ≤ bt := Nat.div_le_self _ _
  have e : ((bt : Int) / 2 ^ j) = ((bt / 2 ^ j : Nat) : Int) := by rw [Int.natCast_ediv, Int.natCast_pow]; rfl
  rw [e, show (1 : Int) = ((1 : Nat) : Int) from rfl, u32_and_nat _ _ (by omega) (by omega), Nat.and_one_is_mod, Nat.testBit_eq_decide_div_mod_eq, Bool.eq_iff_iff]
  simp only [beq_iff_eq, decide_eq_true_eq]
  omega
theorem turn_byte (b : UInt8) (m : Nat) (hm : m < 8) : Go.bits .xor .u8 (b.toNat : Int) (128 / 2 ^ m) = ((b ^^^ (128 >>> UInt8.ofNat m)).toNat : Int) := by
  have h : ∀ m : Fin 8, ((128 : UInt8) >>> UInt8.ofNat m.val).toNat = 128 / 2 ^ m.val := by decide
  have e : ((128 : Int) / 2 ^ m) = ((128 / 2 ^ m : Nat) : Int) := by rw [Int.natCast_ediv, Int.natCast_pow]; rfl
  have h2 : 128 / 2 ^ m ≤ 128 := Nat.div_le_self _ _
  rw [e, u8_xor_nat _ _ b.toNat_lt (by omega), UInt8.toNat_xor, h ⟨m, hm⟩]
theorem row_set {w : World} {g : Nat} {t : TypeId} {cs : Array Value} {fr : Nat × Nat} (h : w.heap[g]? = some (.cells cs t fr)) (i : Nat) (u : Value) : (w.setCell ⟨g, i, none⟩ u).heap[g]? = some (.cells (cs.setIfInBounds i u) t fr) := by
  simp [World.setCell, Array.getElem?_modify, h]
/-- A row of bytes, as numbers. -/
def numsOf (L : List UInt8) : List Int := L.map fun b => (b.toNat : Int)
theorem law_calls (s : ByteArray) (at_ bits : Int) (hs : s.size ≤ 300) (hs3 : 3 ≤ s.size) (ha0 : 0 ≤ at_) (ha1 : at_ < 65536) (hb0 : 0 ≤ bits) (hb1 : bits < 4294967296) (hbn : ¬ bits % 16777216 = 0) (fr bt : Nat) (hfr : at_ % (8 * (s.size : Int) - 23) = (fr : Int)) (hfr2 : fr + 24 ≤ 8 * s.size) (hbt : bits % 16777216 = (bt : Int)) (hbt1 : bt < 16777216) (r1 r2 : Int) (m1 : check_Sum.f 9 [strOfNums (numsOf (after s.data.toList fr bt 24))] = some r1) (m2 : check_Sum.f 9 [s] = some r2) (hne : (r1 != r2) = true) (w : World) :
    Calls Try.prog 5 #[.string s, .int .u16 at_, .int .u32 bits] w fun e w' => e = .returned (.bool true) ∧ Below w.heap.size w w' := by
  have M1 := Aside0.mk m1
  have M2 := Aside0.mk m2
  have NE := Aside0.mk hne
  have HFR := Aside0.mk hfr
  have HBT := Aside0.mk hbt
  clear m1 m2 hne hfr hbt
  have d1 : decide (300 < (s.size : Int)) = false := decide_eq_false (by omega)
  have d2 : decide ((s.size : Int) < 3) = false := decide_eq_false (by omega)
  go_enter Try.func5, Try.ntmps5
  go_wp2_with ((with_reducible refine gate_dst (N := 34) rfl ?_); refine bytes_event rfl (.tmp 33) rfl s rfl Try.underlying9 Try.underlying31 Try.underlying5 ?_; intro g c8 Z w3 hg hk hb hcc; have HB := Aside0.mk hb; have BK := Aside0.mk hk; have HG := Aside0.mk (Nat.le_of_eq hg.symm); clear hg hk hb)
  clear d1 d2
  have hfr := HFR.out
  have hbt := HBT.out
  rw [hfr, hbt]
  clear ha0 ha1 hb0 hb1 hbn hfr hbt
  have hL : s.data.toList.length = s.size := by simp
  have HL := Aside0.mk hL
  clear hL
  generalize s.data.toList = L at BK HL M1
  go_loopw [35] (fun i wr => ∃ j : Nat, j ≤ 24 ∧ i = .int .i64 j ∧ Aside0 (wr.heap[g]? = some (.cells (cellsOf (after L fr bt j) Z) 5 (L.length + Z.length, L.length + Z.length + 1))) ∧ Aside0 (Below w.heap.size w wr)) (fun i _ => 24 - (intOf i).toNat)
  case atStart => exact ⟨0, by omega, rfl, BK, HB⟩
  case round =>
    obtain ⟨j, hj, rfl, BK, HB⟩ := hrel
    by_cases hlt : j < 24
    · have hq := bit_test bt j hbt1
      obtain ⟨t, ht⟩ : ∃ t, t = bt.testBit j := ⟨_, rfl⟩
      rw [← ht] at hq
      have HT := Aside0.mk ht
      clear ht
      cases t
      · go_wp2
        go_roundw
        case rel =>
          refine ⟨j + 1, by omega, by go_num, ⟨?_⟩, HB⟩
          rw [after, if_neg (by rw [← HT.out]; simp)]
          exact BK.out
        case measure => simp [intOf]; omega
      · have hlen := Aside0.mk (after_len L fr bt j)
        have hp0 : (0 : Int) ≤ ((fr : Int) + (j : Int)) / 8 := by omega
        have hp1 : ((fr : Int) + (j : Int)) / 8 < (s.size : Int) := by omega
        have hi : (fr + j) / 8 < (after L fr bt j).length := by rw [hlen.out, HL.out]; omega
        obtain ⟨b0, hb0⟩ : ∃ b0 : UInt8, b0 = (after L fr bt j)[(fr + j) / 8] := ⟨_, rfl⟩
        have hcell := (cell_of_row _ _ ((fr + j) / 8) _ _ _ BK.out).trans (cells_at _ _ _ hi)
        rw [← hb0] at hcell
        have HB0 := Aside0.mk (show (after L fr bt j).getD ((fr + j) / 8) 0 = b0 from by rw [hb0, List.getD_eq_getElem?_getD, List.getElem?_eq_getElem hi]; rfl)
        clear hb0
        have hfro : wr.frozen? ⟨g, (fr + j) / 8, none⟩ = false := by
          have h_ := BK.out
          rw [← hlen.out] at h_
          simp [World.frozen?, h_]
          omega
        have HI := Aside0.mk hi
        clear hi
        go_wp2
        go_region
        go_wp2
        go_roundw
        case rel =>
          rw [turn_byte b0 _ (Nat.mod_lt _ (by omega))]
          refine ⟨j + 1, by omega, by go_num, ⟨?_⟩, ⟨below_drew1 (below_set HB.out HG.out)⟩⟩
          rw [after, if_pos HT.out.symm, flip, HB0.out, ← cells_set _ _ _ HI.out]
          exact row_set BK.out _ _
        case measure => simp [intOf]; omega
    · obtain rfl : j = 24 := by omega
      have hlen := after_len L fr bt 24
      have hc := fun i (hi : i < s.size) => (show wr.cell? ⟨g, 0 + i, none⟩ = some (.int .u8 ((numsOf (after L fr bt 24)).getD i 0)) from by
        rw [Nat.zero_add, cell_of_row _ _ i _ _ _ BK.out, cells_at _ _ _ (by rw [hlen, HL.out]; exact hi), numsOf, List.getD_eq_getElem?_getD, List.getElem?_map, List.getElem?_eq_getElem (by rw [hlen, HL.out]; exact hi)]
        rfl)
      have hcv := run_convert_bytes_arg (P := Try.prog) wr 31 5 Try.underlying31 Try.underlying5 g 0 s.size c8 (numsOf (after L fr bt 24)) (by simp [numsOf, hlen, HL.out]) hc 9 Try.underlying9
      clear hc hlen
      generalize strOfNums (numsOf (after L fr bt 24)) = d at hcv M1
      go_wp2_with (first | ((with_reducible refine gate_dst (N := 59) rfl ?_); refine Kd.R_lit Kd.string w.heap.size 9 ?hg (N := 59) ?hd (w0 := w) (xs := [d]) (inner := [.string d]) (ok := fun _ => True) (okp := fun _ => True) ?hr ?hp (fun _ hk => hk) trivial HB.out HB.out.size (by simp) ?_; (case hd => rfl); (case hg => rfl); (case hr => first | (go_simp; done) | (go_simp; rfl)); (case hp => exact Reps.one rfl (Reps.none _ _)); intro v4 w4 ho hb hg_ hnew_; clear hg_ hnew_; obtain ⟨A4, c4, e4⟩ := Kd.R_slice ho; subst e4; have HO4 := Aside0.mk ho; have HB4 := Aside0.mk hb; clear hb ho) | ((with_reducible refine gate_dst (N := 60) rfl ?_); refine goesL_ (some 60) rfl rfl Try.func12 (by kernel_rfl) rfl #[.slice A4 [d].length c4] rfl (by (try simp only [List.map_toArray, List.map_cons, List.map_nil]); first | done | rfl) ?_; (with_reducible refine (check_Sum.calls 9 A4 c4 [d] r1 _ (Kd.R_reads' HO4.out).2.2 (Kd.R_reads' HO4.out).2.1 M1.out).mono ?_); rintro e w5 ⟨rfl, hb⟩; refine ⟨_, rfl, ?_⟩; have HB5 := Aside0.mk (below_step HB4.out hb); clear hb) | ((with_reducible refine gate_dst (N := 62) rfl ?_); refine Kd.R_lit Kd.string w.heap.size 9 ?hg (N := 62) ?hd (w0 := w) (xs := [s]) (inner := [.string s]) (ok := fun _ => True) (okp := fun _ => True) ?hr ?hp (fun _ hk => hk) trivial HB5.out HB5.out.size (by simp) ?_; (case hd => rfl); (case hg => rfl); (case hr => first | (go_simp; done) | (go_simp; rfl)); (case hp => exact Reps.one rfl (Reps.none _ _)); intro v6 w6 ho hb hg_ hnew_; clear hg_ hnew_; obtain ⟨A6, c6, e6⟩ := Kd.R_slice ho; subst e6; have HO6 := Aside0.mk ho; have HB6 := Aside0.mk hb; clear hb ho) | ((with_reducible refine gate_dst (N := 63) rfl ?_); refine goesL_ (some 63) rfl rfl Try.func12 (by kernel_rfl) rfl #[.slice A6 [s].length c6] rfl (by (try simp only [List.map_toArray, List.map_cons, List.map_nil]); first | done | rfl) ?_; (with_reducible refine (check_Sum.calls 9 A6 c6 [s] r2 _ (Kd.R_reads' HO6.out).2.2 (Kd.R_reads' HO6.out).2.1 M2.out).mono ?_); rintro e w7 ⟨rfl, hb⟩; refine ⟨_, rfl, ?_⟩; have HB7 := Aside0.mk (below_step HB6.out hb); clear hb; have hne := NE.out) | (go_at_call 11; refine (weirkeeperlaw02_awake.calls true _ rfl).mono ?_; rintro e w8 ⟨rfl, hb⟩; have HB8 := Aside0.mk (below_step HB7.out hb); clear hb))
      go_ret
      exact ⟨rfl, HB8.out⟩
theorem law_awake (s : ByteArray) (at_ bits : Int) (h : 300 < s.size ∨ s.size < 3 ∨ bits % 16777216 = 0) (hs : s.size ≤ 140737488351232) (hb0 : 0 ≤ bits) (hb1 : bits < 4294967296) (w : World) :
    Calls Try.prog 5 #[.string s, .int .u16 at_, .int .u32 bits] w fun e w' => e = .returned (.bool true) ∧ Below w.heap.size w w' := by
  by_cases h1 : 300 < s.size
  · have d1 : decide (300 < (s.size : Int)) = true := decide_eq_true (by omega)
    clear h h1
    go_enter Try.func5, Try.ntmps5
    go_wp2_with (go_at_call 11; refine (weirkeeperlaw02_awake.calls true _ rfl).mono ?_; rintro e w8 ⟨rfl, hb⟩; have HB8 := Aside0.mk hb; clear hb)
    go_ret
    exact ⟨rfl, HB8.out⟩
  · have d1 : decide (300 < (s.size : Int)) = false := decide_eq_false (by omega)
    by_cases h2 : s.size < 3
    · have d2 : decide ((s.size : Int) < 3) = true := decide_eq_true (by omega)
      clear h h1 h2
      go_enter Try.func5, Try.ntmps5
      go_wp2_with (go_at_call 11; refine (weirkeeperlaw02_awake.calls true _ rfl).mono ?_; rintro e w8 ⟨rfl, hb⟩; have HB8 := Aside0.mk hb; clear hb)
      go_ret
      exact ⟨rfl, HB8.out⟩
    · have d2 : decide ((s.size : Int) < 3) = false := decide_eq_false (by omega)
      have h3 : (bits % 16777216 == 0) = true := by rw [beq_iff_eq]; omega
      clear h h1 h2
      go_enter Try.func5, Try.ntmps5
      go_wp2_with (go_at_call 11; refine (weirkeeperlaw02_awake.calls true _ rfl).mono ?_; rintro e w8 ⟨rfl, hb⟩; have HB8 := Aside0.mk hb; clear hb)
      go_ret
      exact ⟨rfl, HB8.out⟩
end Go.Proofs.Ytjldikjnljidbaa.Burst
