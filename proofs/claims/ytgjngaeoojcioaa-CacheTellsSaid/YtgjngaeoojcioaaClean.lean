/- cache.Clean, walked by hand: a copy of the row is written in place, while another row grows. -/
import Derived.Test.YtgjngaeoojcioaaExt
import Derived.Test.YtgjngaeoojcioaaXx5
namespace Go.Proofs.Ytgjngaeoojcioaa.Clean
open Go Go.RowKit Go.Proofs.Ytgjngaeoojcioaa.X Go.Proofs.YtgjngaeoojcioaaW Go.Proofs.YtgjngaeoojcioaaW.PrintWords Go.Proofs.YtgjngaeoojcioaaW.PrintLast Go.Proofs.YtgjngaeoojcioaaW.PrintMore Go.Proofs.Ytgjngaeoojcioaa.Fun Go.Proofs.Ytgjngaeoojcioaa.Ext
set_option linter.unusedVariables false
set_option linter.unusedSimpArgs false
set_option maxRecDepth 100000
set_option maxHeartbeats 2000000
def cl (x : S27) : S27 := ⟨x.f0, x.f1, false⟩
theorem info_b : (Try.prog.info? 4).map (·.size) = some 1 := by kernel_rfl
theorem info_c : (Try.prog.info? 24).map (·.size) = some 2 := by kernel_rfl
/-- Dirty of an element of a row of one's own is stored. -/
theorem field_store {ops : Array Oper} {rest : List Oper} {o : Oper} {a : Act} {Q : Exit → Act → World → Prop} {w : World} (hgd : o.guard = none) (hN : o.dst = none) (p x : Operand) (ho : o.op = .store 4 p x)
    {base : Nat} {ok : Nat → Prop} {r n cap m : Nat} {xs : List S27} {v : Bool} (hx : a.eval p = .pointer (some ⟨r, m * 3 + 2, none⟩)) (hy : a.eval x = .bool v)
    (HO : Kd.R k27 27 w base ok (.slice (some ⟨r, 0, none⟩) n cap) xs) (hm : m < xs.length)
    (h : ∀ w1, Kd.R k27 27 w1 base ok (.slice (some ⟨r, 0, none⟩) n cap) (xs.set m ⟨xs[m].f0, xs[m].f1, v⟩) → w.grownBy w1 (some r) → wpList Try.prog ops Q rest a w1) : wpList Try.prog ops Q (o :: rest) a w := by
  have hn : n = xs.length := (Kd.R_reads' HO).1
  refine Kd.R_store k27 (w0 := w) base hN hgd 4 p x ho 27 (g := r) (n := n) (cap := cap) (o' := m * 3 + 2) (m : Int) 2 xs ⟨xs[m].f0, xs[m].f1, v⟩ (.bool v) [.bool v] (enc xs[m]) ok (fun k => ok k ∧ k ≠ r) hx (by rw [Int.toNat_natCast]; rfl) hy rfl info_b (by simp [Value.oneCell']) HO (by omega) (by omega) rfl (old_cells HO m hm) (by show 2 + 1 ≤ 3; decide) (k27_mkM _ _ _ _) (fun k hk => hk) (Below.refl _ _) ?_
  intro w1 h1 _ h3
  rw [Int.toNat_natCast] at h1
  exact h w1 h1 h3
/-- One cell of a variable that is known whole is stored. -/
theorem cell_store {ops : Array Oper} {rest : List Oper} {o : Oper} {a : Act} {Q : Exit → Act → World → Prop} {w : World} (hgd : o.guard = none) (hN : o.dst = none) (t : TypeId) (p x : Operand) (ho : o.op = .store t p x) {g j : Nat} {v : Value} {old : Array Value} {ty : TypeId}
    (hx : a.eval p = .pointer (some ⟨g, j, none⟩)) (hrun : (execOp a.eval o).run Try.prog w = .ok .skip (w.setCell ⟨g, j, none⟩ v)) (hg : w.heap[g]? = some (.cells old ty (0, 0)))
    (h : ∀ w1, w1.heap[g]? = some (.cells (old.setIfInBounds j v) ty (0, 0)) → w.grownBy w1 (some g) → wpList Try.prog ops Q rest a w1) : wpList Try.prog ops Q (o :: rest) a w := by
  refine wpList_plain hgd fun K hK => ?_
  unfold Oper.wp
  rw [hrun]
  show K (a.put o.dst undef) _
  rw [hN]
  refine hK _ _ (h _ (blk_set hg j v) ?_)
  have h1 := setCells_same g [v] j w
  have h2 : w.setCells g j [v] = w.setCell ⟨g, j, none⟩ v := rfl
  rw [h2] at h1
  exact ⟨h1.1, h1.2.1, h1.2.2.1, by rw [h1.2.2.2]; exact Nat.le_refl _, fun k _ hk => by rw [← h2]; exact setCells_far [v] j k (fun e => hk (by rw [e]))⟩
section
variable {P : Program} {ops : Array Oper} {rest : List Oper} {o : Oper} {a : Act} {Q : Exit → Act → World → Prop} {w : World}
/-- A whole value is stored into a variable that is known whole; nothing else changes. -/
theorem var_store (hgd : o.guard = none) (ty : TypeId) (x y : Operand) (ho : o.op = .store ty x y)
    (g : Nat) (cells : Array Value) (hx : a.eval x = .pointer (some ⟨g, 0, none⟩)) (hy : a.eval y = .agg cells)
    (t : TypeId) (old : Array Value) (hg : w.heap[g]? = some (.cells old t (0, 0))) (hi : (P.info? ty).map (·.size) = some cells.size)
    (hold : old.size = cells.size) (h1 : cells.all (·.oneCell') = true)
    (h : ∀ w1, w1.heap[g]? = some (.cells cells t (0, 0)) → w.grownBy w1 (some g) → wpList P ops Q rest (a.put o.dst undef) w1) : wpList P ops Q (o :: rest) a w :=
  wpList_store_row hgd ty x y ho g cells hx hy t old hg hi hold h1 (h _ (setRow_heap w g old cells t (0, 0) hg) ⟨rfl, rfl, rfl, by rw [size_setRow]; exact Nat.le_refl _, fun k _ hk => setRow_other w g k cells (fun e => hk (by rw [e]))⟩)
end
theorem clean_append {ops : Array Oper} {rest : List Oper} {o : Oper} {a : Act} {Q : Exit → Act → World → Prop} {w0 w : World} (hgd : o.guard = none) (s x : Operand) (ho : o.op = .call { callee := .builtin .append, args := #[s, x], argTypes := #[22, 22] })
    {v : Value} {l l2 : List S27} {A : Option Addr} {n c : Nat} (hs : a.eval s = v) (hx : a.eval x = .slice A n c) (HO : Kd.R k27 27 w w0.heap.size (fun _ => True) v l) (HC : Kd.C k27 w A n l2) (HB : Below w0.heap.size w0 w) (hl : l.length + n ≤ 2000000)
    (h : ∀ v1 w1, Kd.R k27 27 w1 w0.heap.size (fun _ => True) v1 (l ++ l2) → Below w0.heap.size w0 w1 → w.grownBy w1 v.ownBlock → (v1.ownBlock = v.ownBlock ∨ ∃ b, v1.ownBlock = some b ∧ w.heap.size ≤ b) → wpList Try.prog ops Q rest (a.put o.dst v1) w1) : wpList Try.prog ops Q (o :: rest) a w :=
  Kd.R_append_rows k27 (w0 := w0) w0.heap.size hgd s x 22 27 (.agg #[.int .i64 0, .string (⟨#[]⟩ : ByteArray), .bool false]) 32 ho Try.underlying22 put_E rfl (by decide) (by decide) v l l2 A n c (fun _ => True) (fun _ => False) hs hx HO HC (fun x cs h => by rw [k27_open h]; exact k27_mkM _ _ _ x) (fun _ h => h.elim) (fun _ _ => trivial) HB HB.size (by omega) h
theorem app_apart {w : World} {r n c : Nat} {v v1 : Value} {base : Nat} {ok : Nat → Prop} {xs : List S27} (ha : (Value.slice (some ⟨r, 0, none⟩) n c).ownBlock = none ∨ (Value.slice (some ⟨r, 0, none⟩) n c).ownBlock ≠ v.ownBlock) (hm : Kd.R k27 27 w base ok (.slice (some ⟨r, 0, none⟩) n c) xs) (h : v1.ownBlock = v.ownBlock ∨ ∃ b, v1.ownBlock = some b ∧ w.heap.size ≤ b) : (Value.slice (some ⟨r, 0, none⟩) n c).ownBlock ≠ v1.ownBlock := by
  have hlt := Kd.R_lt hm r rfl
  rcases h with h | ⟨b, hb, hle⟩
  · rw [h]
    exact ha.resolve_left (by simp [Value.ownBlock])
  · intro e
    have : some r = some b := e.trans hb
    injection this
    omega
/-- What is true at the head of Clean's loop. -/
def Rel (l : List S27) (v1 : Value) (w : World) (g1 g2 : Nat) (a0 : Int) (a b : Value) (wr : World) : Prop :=
  ∃ j : Nat, j ≤ l.length ∧ b = .int .i64 j ∧ Aside0 (Kd.R k27 27 wr w.heap.size (fun _ => True) v1 ((l.take j).map cl ++ l.drop j)) ∧ Aside0 (Kd.R k27 27 wr w.heap.size (fun _ => True) a ((l.take j).filter (fun x => x.f2))) ∧
    Aside0 (v1.ownBlock = none ∨ v1.ownBlock ≠ a.ownBlock) ∧ Aside0 (wr.heap[g1]? = some (.cells #[.int .i64 a0, v1] 24 (0, 0))) ∧ Aside0 (wr.heap[g2]? = some (.cells #[.int .i64 0, .slice none 0 0] 24 (0, 0))) ∧ Aside0 (Below w.heap.size w wr)
theorem clean_ok (k : Nat) (a0 : Int) (P0 : Nat → Prop) (A : Option Addr) (c : Nat) (l : List S27) (w : World) (hs : Kd.V k27 27 w w.heap.size P0 (.slice A l.length c) l) (hr : cache_Right.f k a0 l = some true) (hl : l.length ≤ 1000000) :
    Calls Try.prog 16 #[.agg #[.int .i64 a0, .slice A l.length c]] w fun e w' => ∃ v1 v2 : Value, e = .returned (.tuple #[.agg #[.int .i64 a0, v1], v2]) ∧ Kd.R k27 27 w' w.heap.size (fun _ => True) v1 (l.map cl) ∧ Kd.R k27 27 w' w.heap.size (fun _ => True) v2 (l.filter (fun x => x.f2)) ∧ (v1.ownBlock = none ∨ v1.ownBlock ≠ v2.ownBlock) ∧ Below w.heap.size w w' := by
  have hu24 := Try.underlying24
  have hu27 := Try.underlying27
  have HC := Aside0.mk (Kd.V_reads' hs).2.2
  have HCC := Aside0.mk (Kd.V_reads' hs).2.1
  have HB0 := Aside0.mk (Below.refl w.heap.size w)
  clear hs
  have HK := Aside0.mk hr
  clear hr
  go_enter Try.func16, Try.ntmps16
  go_wp2_with (first
    | ((with_reducible refine gate_dst (N := 1) rfl ?_); refine box_event ?hg (N := 1) ?hd (cs := #[.int .i64 a0, .slice A l.length c]) (t := 24) ?hr ?_; (case hd => rfl); (case hg => rfl); (case hr => first | (go_simp; done) | (go_simp; rfl)); intro g1 hg1 w1 hbox hb; have HB1 := Aside0.mk (below_step HB0.out hb); have BK1 := Aside0.mk hbox; have GE1 := Aside0.mk (Nat.le_of_eq hg1.symm); clear hbox hb hg1)
    | ((with_reducible refine gate_dst (N := 2) rfl ?_); refine box_event ?hg (N := 2) ?hd (cs := #[.int .i64 0, .slice none 0 0]) (t := 24) ?hr ?_; (case hd => rfl); (case hg => rfl); (case hr => first | (go_simp; done) | (go_simp; rfl)); intro g2 hg2 w2 hbox hb; have HB2 := Aside0.mk (below_step HB1.out hb); have BK12 := Aside0.mk (blk_below BK1.out hb); have BK2 := Aside0.mk hbox; have GE2 := Aside0.mk (Nat.le_trans HB1.out.size (Nat.le_of_eq hg2.symm)); have NE12 := Aside0.mk (show g1 ≠ g2 from fun e => by have h_ := blk_lt BK1.out; omega); have hc0_ := (blk_cell BK12.out 0).trans rfl; have hc1_ := (blk_cell BK12.out 1).trans rfl; clear hbox hb hg2)
    | (go_at_call 19; refine (cache_Right.calls k a0 A c l true w2 (Kd.C_below HC.out HB2.out) HCC.out HK.out).mono ?_; rintro e w3 ⟨rfl, hb⟩; have HB3 := Aside0.mk (below_step HB2.out hb); have BK13 := Aside0.mk (blk_below BK12.out hb); have BK23 := Aside0.mk (blk_below BK2.out hb); have hd0_ := (blk_cell BK13.out 0).trans rfl; have hd1_ := (blk_cell BK13.out 1).trans rfl; clear hb)
    | (go_at_call 26; refine (clone_calls A c l w3 (Kd.C_below HC.out HB3.out) hl).mono ?_; rintro e w4 ⟨v1, rfl, hv, hb⟩; obtain ⟨A1, c1, rfl⟩ := Kd.R_slice hv; have HV4 := Aside0.mk (Kd.R_lower hv HB3.out.size); have HB4 := Aside0.mk (below_step HB3.out hb); have BK14 := Aside0.mk (blk_below BK13.out hb); have BK24 := Aside0.mk (blk_below BK23.out hb); clear hb hv)
    | ((with_reducible refine gate_store (t := 22) (p := 14) rfl ?_); refine cell_store rfl rfl 22 (.tmp 14) (.tmp 13) rfl (g := g1) (j := 1) (v := .slice A1 l.length c1) (old := #[.int .i64 a0, .slice A l.length c]) (ty := 24) rfl ?hrun BK14.out ?_; (case hrun => have he1_ := (blk_cell BK14.out 1).trans rfl; have hf1_ := frozen_of_row w4 g1 1 _ _ BK14.out; (first | (go_simp; done) | (go_simp; rfl))); intro w5 hk hg5; have HV5 := Aside0.mk (Kd.R_grown2 HV4.out rfl hg5 (fun k hk_ => by rw [← hk_]; exact Kd.R_ne HV4.out BK14.out (by decide))); have BK15 := Aside0.mk hk; have BK25 := Aside0.mk (blk_grown BK24.out hg5 (fun e => NE12.out (by injection e with e; exact e.symm))); have HB5 := Aside0.mk (HB4.out.grown hg5 HB4.out.size (fun k hk_ => by injection hk_ with hk_; rw [← hk_]; exact GE1.out)); have hf0_ := (blk_cell BK15.out 0).trans rfl; have hf1_ := (blk_cell BK15.out 1).trans rfl; clear hk hg5))
  clear HC HB0 HB1 HB2 HB3 HB4 HV4 BK1 BK12 BK13 BK14 BK2 BK23 BK24 HK hc0_ hc1_ hd0_ hd1_ hf0_ hf1_
  go_loopw [4, 18] (fun a b wr => Rel l (.slice A1 l.length c1) w g1 g2 a0 a b wr) (fun _ b _ => l.length - (intOf b).toNat)
  case atStart =>
    refine ⟨0, by omega, rfl, ⟨by simpa using HV5.out⟩, ⟨Kd.R_nil _ _ _ _ _⟩, ⟨?_⟩, BK15, BK25, HB5⟩
    cases A1 with
    | none => exact .inl rfl
    | some ad => exact .inr (by simp [Value.ownBlock])
  case round =>
    obtain ⟨j, hj, rfl, HM, HO, HA, BK1, BK2, HB⟩ := hrel
    clear HV5 BK15 BK25 HB5
    by_cases hlt : j < l.length
    · have hxl : ((l.take j).map cl ++ l.drop j).length = l.length := by simp; omega
      obtain ⟨ad, hA, hxs⟩ := at_T27 (Kd.R_reads' HM.out).2.2 (j : Int) (by omega) (by omega)
      subst hA
      obtain ⟨r, rfl⟩ := Kd.R_head HM.out
      have hxj : rd_T27 ((l.take j).map cl ++ l.drop j) (j : Int) = l[j] := by
        rw [rd_at _ j (by omega), List.getElem_append_right (by simp; omega), List.getElem_drop]
        congr 1
        simp
        omega
      obtain ⟨x, hx⟩ : ∃ x, x = l[j] := ⟨_, rfl⟩
      have hset : ∀ b, ((l.take j).map cl ++ l.drop j).set j ⟨x.f0, x.f1, b⟩ = (l.take j).map cl ++ ⟨x.f0, x.f1, b⟩ :: l.drop (j + 1) := by
        intro b
        have hmj : ((l.take j).map cl).length = j := by simp; omega
        rw [List.drop_eq_getElem_cons hlt, List.set_append_right _ _ (by omega), hmj, Nat.sub_self]
        rfl
      have hmap : (l.take (j + 1)).map cl ++ l.drop (j + 1) = (l.take j).map cl ++ cl x :: l.drop (j + 1) := by
        rw [List.take_succ_eq_append_getElem hlt, List.map_append, List.append_assoc, hx]
        rfl
      have hfil : (l.take (j + 1)).filter (fun x => x.f2) = (l.take j).filter (fun x => x.f2) ++ if x.f2 = true then [x] else [] := by
        rw [List.take_succ_eq_append_getElem hlt, List.filter_append, ← hx]
        congr 1
        cases hp : x.f2 <;> simp [hp]
      have hsame : (l.take j).map cl ++ l.drop j = (l.take j).map cl ++ x :: l.drop (j + 1) := by rw [List.drop_eq_getElem_cons hlt, hx]
      have hgj : ((l.take j).map cl ++ l.drop j)[j]? = some x := by
        rw [List.getElem?_append_right (by simp; omega), hx]
        simp [Nat.min_eq_left hj, hlt]
      rw [hxj, ← hx, Int.toNat_natCast, add_zero_] at hxs
      have HSET := Aside0.mk hset
      have HMAP := Aside0.mk hmap
      have HFIL := Aside0.mk hfil
      have HSAME := Aside0.mk hsame
      have HGJ := Aside0.mk hgj
      have HXL := Aside0.mk hxl
      clear hset hmap hfil hsame hgj hxl hxj hx
      obtain ⟨x0, x1, x2⟩ := x
      obtain ⟨hx0, hx1, hx2⟩ := hxs
      have hHB := Aside0.mk HB.out
      have GEK := Aside0.mk (below_size HB.out)
      cases x2
      · go_wp2_with (first
          | ((with_reducible refine gate_dst (N := 6) rfl ?_); refine box_event ?hg (N := 6) ?hd (cs := #[.int .i64 0, .string (⟨#[]⟩ : ByteArray), .bool false]) (t := 27) ?hr ?_; (case hd => rfl); (case hg => rfl); (case hr => first | (go_simp; done) | (go_simp; rfl)); intro g6 hg6 w6 hbox hb; have BK6 := Aside0.mk hbox; have hb6 := Aside0.mk hb; have hne6 := Aside0.mk hg6; clear hbox hb hg6)
          | ((with_reducible refine gate_store (t := 27) (p := 6) rfl ?_); refine store_row_event rfl 27 _ _ rfl g6 #[.int .i64 x0, .string x1, .bool false] rfl rfl 27 #[.int .i64 0, .string (⟨#[]⟩ : ByteArray), .bool false] BK6.out info_E rfl (by simp [Value.oneCell']) ?_; intro w7 hk hbel; have hb7 := Aside0.mk (hbel wr hb6.out (Nat.le_of_eq hne6.out.symm)); clear BK6 hb6; have BK6 := Aside0.mk hk; have he0_ := (blk_cell hk 0).trans rfl; have he1_ := (blk_cell hk 1).trans rfl; have he2_ := (blk_cell hk 2).trans rfl; clear hk hbel))
        go_roundw
        case rel =>
          refine ⟨j + 1, by omega, by go_num, ⟨?_⟩, ⟨?_⟩, HA, ⟨blk_below BK1.out hb7.out⟩, ⟨blk_below BK2.out hb7.out⟩, ⟨below_step HB.out hb7.out⟩⟩
          · rw [HMAP.out]
            have := HM.out
            rw [HSAME.out] at this
            exact Kd.R_below this hb7.out
          · rw [HFIL.out]
            simp only [Bool.false_eq_true, if_false, List.append_nil]
            exact Kd.R_below HO.out hb7.out
        case measure => simp [intOf]; omega
      · go_wp2_with (first
          | ((with_reducible refine gate_dst (N := 6) rfl ?_); refine box_event ?hg (N := 6) ?hd (cs := #[.int .i64 0, .string (⟨#[]⟩ : ByteArray), .bool false]) (t := 27) ?hr ?_; (case hd => rfl); (case hg => rfl); (case hr => first | (go_simp; done) | (go_simp; rfl)); intro g6 hg6 w6 hbox hb; have BK6 := Aside0.mk hbox; have hb6 := Aside0.mk hb; have hne6 := Aside0.mk hg6; clear hbox hb hg6)
          | ((with_reducible refine gate_store (t := 27) (p := 6) rfl ?_); refine store_row_event rfl 27 _ _ rfl g6 #[.int .i64 x0, .string x1, .bool true] rfl rfl 27 #[.int .i64 0, .string (⟨#[]⟩ : ByteArray), .bool false] BK6.out info_E rfl (by simp [Value.oneCell']) ?_; intro w7 hk hbel; have hb7 := Aside0.mk (hbel wr hb6.out (Nat.le_of_eq hne6.out.symm)); clear BK6 hb6; have HM7 := Aside0.mk (Kd.R_below HM.out hb7.out); have HO7 := Aside0.mk (Kd.R_below HO.out hb7.out); have BK17 := Aside0.mk (blk_below BK1.out hb7.out); have BK27 := Aside0.mk (blk_below BK2.out hb7.out); have HB7 := Aside0.mk (below_step HB.out hb7.out); have he0_ := (blk_cell hk 0).trans rfl; have he1_ := (blk_cell hk 1).trans rfl; have he2_ := (blk_cell hk 2).trans rfl; clear hk hbel)
          | ((with_reducible refine gate_dst (N := 27) rfl ?_); refine Kd.R_lit k27 w.heap.size 27 ?hg (N := 27) ?hd (w0 := w) (xs := [(⟨x0, x1, true⟩ : S27)]) (inner := [.int .i64 x0, .string x1, .bool true]) (ok := fun _ => True) (okp := fun _ => True) ?hr ?hp (fun _ hk => hk) trivial HB7.out HB7.out.size (by simp) ?_; (case hd => rfl); (case hg => rfl); (case hr => first | (go_simp; done) | (go_simp; rfl)); (case hp => exact Reps.c3 (k27_mkM _ _ _ (⟨x0, x1, true⟩ : S27)) (Reps.none _ _)); intro v8 w8 ho8 hb8 hg8 hn8; obtain ⟨A8, c8, rfl⟩ := Kd.R_slice ho8; have HL8 := Aside0.mk ho8; have HM8 := Aside0.mk (Kd.R_below HM7.out (below_of_grown hg8)); have HO8 := Aside0.mk (Kd.R_below HO7.out (below_of_grown hg8)); have BK18 := Aside0.mk (blk_below BK17.out (below_of_grown hg8)); have BK28 := Aside0.mk (blk_below BK27.out (below_of_grown hg8)); have HB8 := Aside0.mk hb8; clear ho8 hb8 hg8 hn8)
          | ((with_reducible refine gate_builtin (b := .append) (xs := #[.tmp 25, .tmp 27]) rfl ?_); refine clean_append rfl (.tmp 25) (.tmp 27) rfl (w0 := w) rfl rfl HO8.out (Kd.R_reads' HL8.out).2.2 HB8.out (by have h_ := List.length_filter_le (fun x : S27 => x.f2) (l.take j); have h2_ := List.length_take_le j l; simp; omega) ?_; intro v9 w9 ho9 hb9 hg9 hn9; have HO9 := Aside0.mk ho9; have HB9 := Aside0.mk hb9; have HA9 := Aside0.mk (show (Value.slice (some ⟨r, 0, none⟩) l.length c1).ownBlock ≠ v9.ownBlock from app_apart HA.out HM8.out hn9); have HM9 := Aside0.mk (Kd.R_grown2 HM8.out rfl hg9 (fun k hk_ => by rw [← hk_]; exact fun e => (HA.out.resolve_left (by simp [Value.ownBlock])) e.symm)); have BK19 := Aside0.mk (blk_grown BK18.out hg9 (Kd.R_ne HO8.out BK18.out (by decide))); have BK29 := Aside0.mk (blk_grown BK28.out hg9 (Kd.R_ne HO8.out BK28.out (by decide))); have hh0_ := (blk_cell BK19.out 0).trans rfl; have hh1_ := (blk_cell BK19.out 1).trans rfl; clear ho9 hb9 hg9 hn9)
          | ((with_reducible refine gate_store (t := 4) (p := 33) rfl ?_); refine field_store rfl rfl (.tmp 33) _ rfl (r := r) (n := l.length) (cap := c1) (m := j) (v := false) rfl rfl HM9.out (by rw [HXL.out]; exact hlt) ?_; intro w10 ho10 hg10; have HM10 := Aside0.mk ho10; have HG10 := Aside0.mk hg10; clear ho10 hg10))
        go_roundw
        case rel =>
          refine ⟨j + 1, by omega, by go_num, ⟨?_⟩, ⟨?_⟩, ⟨.inr HA9.out⟩, ⟨blk_grown BK19.out HG10.out (Kd.R_ne HM9.out BK19.out (by decide))⟩, ⟨blk_grown BK29.out HG10.out (Kd.R_ne HM9.out BK29.out (by decide))⟩, ⟨HB9.out.grown HG10.out HB9.out.size (fun k hk_ => Kd.R_base HM9.out k hk_)⟩⟩
          · rw [HMAP.out]
            have h_ := HM10.out
            have hj_ : ((l.take j).map cl ++ l.drop j)[j]'(by rw [HXL.out]; exact hlt) = ⟨x0, x1, true⟩ := by
              have := HGJ.out
              rw [List.getElem?_eq_some_iff] at this
              exact this.2
            simp only [hj_] at h_
            rw [HSET.out false] at h_
            exact h_
          · rw [HFIL.out]
            simp only [if_true]
            exact Kd.R_grown2 HO9.out rfl HG10.out (fun k hk_ => by rw [← hk_]; exact HA9.out)
        case measure => simp [intOf]; omega
    · obtain rfl : j = l.length := by omega
      rw [List.take_length] at HM HO
      rw [List.drop_length, List.append_nil] at HM
      have hf0_ := (blk_cell BK1.out 0).trans rfl
      have hf1_ := (blk_cell BK1.out 1).trans rfl
      go_wp2_with ((with_reducible refine gate_store (t := 24) (p := 2) rfl ?_); refine var_store rfl 24 _ _ rfl g2 #[.int .i64 a0, .slice A1 l.length c1] rfl rfl 24 #[.int .i64 0, .slice none 0 0] BK2.out info_c rfl (by simp [Value.oneCell']) ?_; intro w6 hk hg6; have BK26 := Aside0.mk hk; have HM6 := Aside0.mk (Kd.R_grown2 HM.out rfl hg6 (fun k hk_ => by rw [← hk_]; exact Kd.R_ne HM.out BK2.out (by decide))); have HO6 := Aside0.mk (Kd.R_grown2 HO.out rfl hg6 (fun k hk_ => by rw [← hk_]; exact Kd.R_ne HO.out BK2.out (by decide))); have HB6 := Aside0.mk (HB.out.grown hg6 HB.out.size (fun k hk_ => by injection hk_ with hk_; rw [← hk_]; exact GE2.out)); clear hk hg6)
      refine bodyPost_ret (results_ct (p := 2) (u := 3) (ty := 24) rfl _ _ g2 24 _ (0, 0) _ rfl BK26.out Try.underlying24 rfl (by kernel_rfl)) rfl ?_
      exact ⟨_, _, rfl, HM6.out, HO6.out, HA.out, HB6.out⟩
/-- What isn't right is handed back. -/
theorem clean_no (k : Nat) (a0 : Int) (P0 : Nat → Prop) (A : Option Addr) (c : Nat) (l : List S27) (w : World) (hs : Kd.V k27 27 w w.heap.size P0 (.slice A l.length c) l) (hr : cache_Right.f k a0 l = some false) :
    Calls Try.prog 16 #[.agg #[.int .i64 a0, .slice A l.length c]] w fun e w' => e = .returned (.tuple #[.agg #[.int .i64 a0, .slice A l.length c], .slice none 0 0]) ∧ Below w.heap.size w w' := by
  have hu24 := Try.underlying24
  have hu27 := Try.underlying27
  have HC := Aside0.mk (Kd.V_reads' hs).2.2
  have HCC := Aside0.mk (Kd.V_reads' hs).2.1
  have HB0 := Aside0.mk (Below.refl w.heap.size w)
  clear hs
  have HK := Aside0.mk hr
  clear hr
  go_enter Try.func16, Try.ntmps16
  go_wp2_with (first
    | ((with_reducible refine gate_dst (N := 1) rfl ?_); refine box_event ?hg (N := 1) ?hd (cs := #[.int .i64 a0, .slice A l.length c]) (t := 24) ?hr ?_; (case hd => rfl); (case hg => rfl); (case hr => first | (go_simp; done) | (go_simp; rfl)); intro g1 hg1 w1 hbox hb; have HB1 := Aside0.mk (below_step HB0.out hb); have BK1 := Aside0.mk hbox; have GE1 := Aside0.mk (Nat.le_of_eq hg1.symm); clear hbox hb hg1)
    | ((with_reducible refine gate_dst (N := 2) rfl ?_); refine box_event ?hg (N := 2) ?hd (cs := #[.int .i64 0, .slice none 0 0]) (t := 24) ?hr ?_; (case hd => rfl); (case hg => rfl); (case hr => first | (go_simp; done) | (go_simp; rfl)); intro g2 hg2 w2 hbox hb; have HB2 := Aside0.mk (below_step HB1.out hb); have BK12 := Aside0.mk (blk_below BK1.out hb); have BK2 := Aside0.mk hbox; have GE2 := Aside0.mk (Nat.le_trans HB1.out.size (Nat.le_of_eq hg2.symm)); have NE12 := Aside0.mk (show g1 ≠ g2 from fun e => by have h_ := blk_lt BK1.out; omega); have hc0_ := (blk_cell BK12.out 0).trans rfl; have hc1_ := (blk_cell BK12.out 1).trans rfl; clear hbox hb hg2)
    | (go_at_call 19; refine (cache_Right.calls k a0 A c l false w2 (Kd.C_below HC.out HB2.out) HCC.out HK.out).mono ?_; rintro e w3 ⟨rfl, hb⟩; have HB3 := Aside0.mk (below_step HB2.out hb); have BK13 := Aside0.mk (blk_below BK12.out hb); have BK23 := Aside0.mk (blk_below BK2.out hb); have hd0_ := (blk_cell BK13.out 0).trans rfl; have hd1_ := (blk_cell BK13.out 1).trans rfl; clear hb)
    | ((with_reducible refine gate_store (t := 24) (p := 2) rfl ?_); refine var_store rfl 24 _ _ rfl g2 #[.int .i64 a0, .slice A l.length c] rfl rfl 24 #[.int .i64 0, .slice none 0 0] BK23.out info_c rfl (by simp [Value.oneCell']) ?_; intro w6 hk hg6; have BK26 := Aside0.mk hk; have HB6 := Aside0.mk (HB3.out.grown hg6 HB3.out.size (fun k hk_ => by injection hk_ with hk_; rw [← hk_]; exact GE2.out)); clear hk hg6))
  refine bodyPost_ret (results_ct (p := 2) (u := 3) (ty := 24) rfl _ _ g2 24 _ (0, 0) _ rfl BK26.out Try.underlying24 rfl (by kernel_rfl)) rfl ?_
  exact ⟨rfl, HB6.out⟩
end Go.Proofs.Ytgjngaeoojcioaa.Clean
