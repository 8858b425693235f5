/- The library's IndexFunc, DeleteFunc and Clone at a slice of structs, walked, whatever the function value that is handed in: its answers are told by a predicate. -/
import Derived.Test.YtgjngaeoojcioaaXx0
import Derived.Test.YtgjngaeoojcioaaMine
import Derived.WalkSpells
import Derived.Outline
import Derived.Lib.SliceRun
import Derived.Laws.Tables
import Derived.Laws.Rows
import Derived.Laws.CopyOwn
namespace Go.Proofs.Ytgjngaeoojcioaa.Fun
open Go Go.RowKit Go.Proofs.Ytgjngaeoojcioaa.X Go.Proofs.YtgjngaeoojcioaaW Go.Proofs.YtgjngaeoojcioaaW.PrintWords Go.Proofs.YtgjngaeoojcioaaW.PrintLast Go.Proofs.YtgjngaeoojcioaaW.PrintMore
set_option linter.unusedVariables false
set_option linter.unusedSimpArgs false

section
variable {P : Program} {ops : Array Oper} {Q : Exit → Act → World → Prop}
/-- A call of a function value that is known by its number and what it has captured. -/
theorem goesV_ {rest : List Oper} {oi : Oper} {a : Act} {w : World} (N : Option Tmp) (hd : oi.dst = N) (hg : oi.guard = none) {f : FuncId} {ex : Array Value} {x : Operand} {xs : Array Operand} {ts : Array TypeId}
    (he : ∀ args w, (callFunc f args).run P w = .ok (.enter f args) w) (args : Array Value)
    (hop : oi.op = .call { callee := .value x, args := xs, argTypes := ts }) (hx : a.eval x = .func (.func f) #[] ex) (hargs : xs.map a.eval = args)
    (h : Calls P f (args ++ ex) w fun e w' => ∃ v, e = .returned v ∧ wpList P ops Q rest (a.put N v) w') : wpList P ops Q (oi :: rest) a w := by
  refine wpList_plain hg fun K hK => ?_
  have hrun : (execOp a.eval oi).run P w = .ok (.enter f (args ++ ex)) w := by
    unfold execOp
    cases x with
    | tmp t => simp [hop, resolve, Deferred.ofValue, invoke, hx, hargs, he]
    | const v =>
      have hv : v = .func (.func f) #[] ex := by simpa [Act.eval] using hx
      subst hv
      simp [hop, resolve, Deferred.ofValue, invoke, hx, hargs, he]
    | _ => simp [hop, resolve, Deferred.ofValue, invoke, hx, hargs, he]
  unfold Oper.wp
  rw [hrun, Oper.upon_enter]
  refine h.mono fun e w'' hh => ?_
  obtain ⟨v, rfl, hk⟩ := hh
  subst hd
  exact hK _ _ hk
end
section
variable {P : Program} {ops : Array Oper} {rest : List Oper} {o : Oper} {a : Act} {Q : Exit → Act → World → Prop} {w : World}
/-- A whole value is stored into a variable that is known whole. -/
theorem store_row_event (hgd : o.guard = none) (ty : TypeId) (x y : Operand) (ho : o.op = .store ty x y)
    (g : Nat) (cells : Array Value) (hx : a.eval x = .pointer (some ⟨g, 0, none⟩)) (hy : a.eval y = .agg cells)
    (t : TypeId) (old : Array Value) (hg : w.heap[g]? = some (.cells old t (0, 0))) (hi : (P.info? ty).map (·.size) = some cells.size)
    (hold : old.size = cells.size) (h1 : cells.all (·.oneCell') = true)
    (h : ∀ w1, w1.heap[g]? = some (.cells cells t (0, 0)) → (∀ (w0 : World), Below w0.heap.size w0 w → w0.heap.size ≤ g → Below w0.heap.size w0 w1) → wpList P ops Q rest (a.put o.dst undef) w1) : wpList P ops Q (o :: rest) a w :=
  wpList_store_row hgd ty x y ho g cells hx hy t old hg hi hold h1 (h _ (setRow_heap w g old cells t (0, 0) hg) (fun _ hb hle => below_setRow hb hle cells))
end
theorem info_E : (Try.prog.info? 27).map (·.size) = some 3 := by kernel_rfl
/-- Blocks that a function value has captured, as they are. -/
def Cap (L : List (Nat × Obj)) (w : World) : Prop := ∀ q ∈ L, w.heap[q.1]? = some q.2
theorem Cap.below {L : List (Nat × Obj)} {w w' : World} (h : Cap L w) (hb : Below w.heap.size w w') : Cap L w' := fun q hq => blk_below (h q hq) hb
theorem Cap.grown {L : List (Nat × Obj)} {w w' : World} {r : Nat} (h : Cap L w) (hg : w.grownBy w' (some r)) (hr : ∀ q ∈ L, q.1 ≠ r) : Cap L w' := fun q hq => blk_grown (h q hq) hg (fun e => hr q hq (by injection e))
/-- An element's cells. -/
def enc (x : S27) : List Value := [.int .i64 x.f0, .string x.f1, .bool x.f2]
/-- What a function value answers, wherever what it has captured is as it was. -/
structure Pred (f : FuncId) (ex : Array Value) (L : List (Nat × Obj)) (p : S27 → Bool) : Prop where
  enters : ∀ args w, (callFunc f args).run Try.prog w = .ok (.enter f args) w
  calls : ∀ w x, Cap L w → Calls Try.prog f (#[.agg #[.int .i64 x.f0, .string x.f1, .bool x.f2]] ++ ex) w fun e w' => e = .returned (.bool (p x)) ∧ Below w.heap.size w w'
def idx (p : S27 → Bool) (l : List S27) : Int := match l.findIdx? p with
  | some i => (i : Int)
  | none => -1
theorem findIdx_take {p : S27 → Bool} {l : List S27} {k : Nat} (hk : k < l.length) (h : ∀ x ∈ l.take k, p x = false) (hp : p l[k] = true) : idx p l = (k : Int) := by
  have : l.findIdx? p = some k := by
    rw [List.findIdx?_eq_some_iff_getElem]
    refine ⟨hk, hp, fun j hj => ?_⟩
    have := h l[j] (by rw [List.mem_take_iff_getElem]; exact ⟨j, by omega, rfl⟩)
    simp [this]
  unfold idx
  rw [this]
theorem findIdx_none {p : S27 → Bool} {l : List S27} (h : ∀ x ∈ l, p x = false) : idx p l = -1 := by
  have : l.findIdx? p = none := by
    rw [List.findIdx?_eq_none_iff]
    exact h
  unfold idx
  rw [this]
theorem rd_at (l : List S27) (i : Nat) (h : i < l.length) : rd_T27 l (i : Int) = l[i] := by
  unfold rd_T27
  rw [Int.toNat_natCast, List.getD_eq_getElem?_getD, List.getElem?_eq_getElem h]
  rfl
set_option maxRecDepth 100000 in
set_option maxHeartbeats 1000000 in
theorem index_calls {f : FuncId} {ex : Array Value} {L : List (Nat × Obj)} {p : S27 → Bool} (hp : Pred f ex L p) (A : Option Addr) (c : Nat) (l : List S27) (w : World) (hC : Kd.C k27 w A l.length l) (hL : Cap L w) :
    Calls Try.prog 27 #[.slice A l.length c, .func (.func f) #[] ex] w fun e w' => e = .returned (.int .i64 (idx p l)) ∧ Below w.heap.size w w' := by
  have hu27 := Try.underlying27
  have hl : l.length ≤ 9223372036854775807 := hC.2.1
  have HC := Aside0.mk hC
  have HL := Aside0.mk hL
  have HB := Aside0.mk (Below.refl w.heap.size w)
  clear hC hL
  go_enter Try.func27, Try.ntmps27
  go_wp2
  go_loopw [8] (fun i wr => ∃ k : Nat, k ≤ l.length ∧ i = .int .i64 k ∧ Aside0 (∀ x ∈ l.take k, p x = false) ∧ Aside0 (Below w.heap.size w wr)) (fun i _ => l.length - (intOf i).toNat)
  case atStart => exact ⟨0, by omega, rfl, ⟨by simp⟩, HB⟩
  case round =>
    obtain ⟨k, hk, rfl, HN, HB⟩ := hrel
    by_cases hlt : k < l.length
    · obtain ⟨ad, hA, hxs⟩ := at_T27 (Kd.C_below HC.out HB.out) (k : Int) (by omega) (by omega)
      subst hA
      rw [rd_at l k hlt, Int.toNat_natCast] at hxs
      have HX := Aside0.mk hxs
      obtain ⟨hx0, hx1, hx2⟩ := hxs
      have hLk := Aside0.mk (HL.out.below HB.out)
      obtain ⟨b, hb_⟩ : ∃ b, b = p l[k] := ⟨_, rfl⟩
      have Hb := Aside0.mk hb_
      have hcall := Aside0.mk (show Calls Try.prog f (#[.agg #[.int .i64 l[k].f0, .string l[k].f1, .bool l[k].f2]] ++ ex) wr fun e w' => e = .returned (.bool b) ∧ Below wr.heap.size wr w' from by rw [hb_]; exact hp.calls wr l[k] hLk.out)
      clear hb_
      have hBk := Aside0.mk HB.out
      cases b
      · go_wp2_with ((with_reducible refine gate_dst (N := 16) rfl ?_); refine goesV_ (some 16) rfl rfl hp.enters #[.agg #[.int .i64 l[k].f0, .string l[k].f1, .bool l[k].f2]] rfl rfl (by (try simp only [List.map_toArray, List.map_cons, List.map_nil]); first | done | rfl) ?_; refine hcall.out.mono ?_; rintro e w' ⟨rfl, hb⟩; refine ⟨_, rfl, ?_⟩; have hb2 := Aside0.mk hb; clear hb)
        go_roundw
        case rel =>
          refine ⟨k + 1, by omega, by go_num, ⟨fun x hx => ?_⟩, ⟨below_step hBk.out hb2.out⟩⟩
          rw [List.take_succ_eq_append_getElem hlt] at hx
          rcases List.mem_append.1 hx with hx | hx
          · exact HN.out x hx
          · simp at hx
            rw [hx, ← Hb.out]
        case measure => simp [intOf]; omega
      · go_wp2_with ((with_reducible refine gate_dst (N := 16) rfl ?_); refine goesV_ (some 16) rfl rfl hp.enters #[.agg #[.int .i64 l[k].f0, .string l[k].f1, .bool l[k].f2]] rfl rfl (by (try simp only [List.map_toArray, List.map_cons, List.map_nil]); first | done | rfl) ?_; refine hcall.out.mono ?_; rintro e w' ⟨rfl, hb⟩; refine ⟨_, rfl, ?_⟩; have hb2 := Aside0.mk hb; clear hb)
        go_ret
        rw [findIdx_take hlt HN.out Hb.out.symm]
        exact ⟨rfl, below_step hBk.out hb2.out⟩
    · obtain rfl : k = l.length := by omega
      go_wp2
      go_ret
      rw [findIdx_none (fun x hx => HN.out x (by rw [List.take_length]; exact hx))]
      exact ⟨rfl, HB.out⟩
theorem add_zero_ (r n : Nat) : (⟨r, 0, none⟩ : Addr).add n = ⟨r, n, none⟩ := by
  unfold Addr.add
  split <;> simp_all
theorem one_cells (x : S27) : ∀ q ∈ enc x, q.oneCell' = true := by
  intro q hq
  simp only [enc, List.mem_cons, List.not_mem_nil, or_false] at hq
  rcases hq with rfl | rfl | rfl <;> rfl
theorem one_arr (x : S27) : (#[.int .i64 x.f0, .string x.f1, .bool x.f2] : Array Value).all (·.oneCell') = true := by
  rw [Array.all_eq_true_iff_forall_mem]
  intro v hv
  exact one_cells x v (by simpa [enc] using hv)
theorem old_cells {w : World} {base : Nat} {ok : Nat → Prop} {r n cap : Nat} {xs : List S27} (h : Kd.R k27 27 w base ok (.slice (some ⟨r, 0, none⟩) n cap) xs) (m : Nat) (hm : m < xs.length) : ∀ j u, (enc xs[m])[j]? = some u → w.cell? ⟨r, (m : Int).toNat * k27.sz + j, none⟩ = some u := by
  have hC := (Kd.R_reads' h).2.2
  obtain ⟨ad, c, hA, hcl, hK, hc⟩ := Kd.C_get hC z27 (m : Int) (by omega) (by omega)
  obtain rfl : ad = ⟨r, 0, none⟩ := by injection hA with hA; exact hA.symm
  have hx : xs.getD (m : Int).toNat z27 = xs[m] := by
    rw [Int.toNat_natCast, List.getD_eq_getElem?_getD, List.getElem?_eq_getElem hm]
    rfl
  rw [hx] at hK
  have hce : c = enc xs[m] := k27_open hK
  subst hce
  intro j u hu
  have := hc j u hu
  rwa [add_zero_] at this
/-- An element is stored into a row of one's own. -/
theorem row_store {ops : Array Oper} {rest : List Oper} {o : Oper} {a : Act} {Q : Exit → Act → World → Prop} {w : World} (hgd : o.guard = none) (hN : o.dst = none) (p x : Operand) (ho : o.op = .store 27 p x)
    {base : Nat} {ok : Nat → Prop} {r n cap m : Nat} {xs : List S27} {v : S27} (hx : a.eval p = .pointer (some ⟨r, m * 3, none⟩)) (hy : a.eval x = .agg #[.int .i64 v.f0, .string v.f1, .bool v.f2])
    (HO : Kd.R k27 27 w base ok (.slice (some ⟨r, 0, none⟩) n cap) xs) (hm : m < xs.length)
    (h : ∀ w1, Kd.R k27 27 w1 base ok (.slice (some ⟨r, 0, none⟩) n cap) (xs.set m v) → w.grownBy w1 (some r) → wpList Try.prog ops Q rest a w1) : wpList Try.prog ops Q (o :: rest) a w := by
  have hn : n = xs.length := (Kd.R_reads' HO).1
  refine Kd.R_store k27 (w0 := w) base hN hgd 27 p x ho 27 (g := r) (n := n) (cap := cap) (o' := m * 3) (m : Int) 0 xs v (.agg #[.int .i64 v.f0, .string v.f1, .bool v.f2]) (enc v) (enc xs[m]) ok (fun k => ok k ∧ k ≠ r) hx (by rw [Int.toNat_natCast]; rfl) hy rfl info_E (one_cells v) HO (by omega) (by omega) rfl (old_cells HO m hm) (Nat.le_refl _) (k27_mkM _ _ _ _) (fun k hk => hk) (Below.refl _ _) ?_
  intro w1 h1 _ h3
  rw [Int.toNat_natCast] at h1
  exact h w1 h1 h3
theorem idx_cases (p : S27 → Bool) (l : List S27) : (idx p l = -1 ∧ ∀ x ∈ l, p x = false) ∨ ∃ i : Nat, ∃ h : i < l.length, idx p l = (i : Int) ∧ p l[i] = true ∧ ∀ x ∈ l.take i, p x = false := by
  rcases h : l.findIdx? p with _ | i
  · left
    rw [List.findIdx?_eq_none_iff] at h
    exact ⟨findIdx_none h, h⟩
  · right
    rw [List.findIdx?_eq_some_iff_getElem] at h
    obtain ⟨hi, hpi, hlt⟩ := h
    have hn : ∀ x ∈ l.take i, p x = false := by
      intro x hx
      rw [List.mem_take_iff_getElem] at hx
      obtain ⟨j, hj, rfl⟩ := hx
      simpa using hlt j (by omega)
    exact ⟨i, hi, findIdx_take hi hn hpi, hpi, hn⟩
theorem below_grown {w w' : World} (h : Below w.heap.size w w') (r : Option Nat) : w.grownBy w' r := ⟨h.os, h.tape, h.output, h.size, fun k hk _ => h.block k hk⟩
/-- What stays: those of which the predicate does not hold. -/
def keep (p : S27 → Bool) (l : List S27) : List S27 := l.filter fun x => !p x
theorem keep_succ (p : S27 → Bool) (l : List S27) (j : Nat) (h : j < l.length) : keep p (l.take (j + 1)) = keep p (l.take j) ++ if p l[j] = true then [] else [l[j]] := by
  unfold keep
  rw [List.take_succ_eq_append_getElem h, List.filter_append]
  congr 1
  cases hp : p l[j] <;> simp [hp]
theorem keep_le (p : S27 → Bool) (l : List S27) : (keep p l).length ≤ l.length := List.length_filter_le _ _
theorem keep_all {p : S27 → Bool} {l : List S27} (h : ∀ x ∈ l, p x = false) : keep p l = l := by
  unfold keep
  rw [List.filter_eq_self]
  intro x hx
  simp [h x hx]
theorem keep_nil {w : World} {p : S27 → Bool} {f : FuncId} {ex : Array Value} {L : List (Nat × Obj)} (hp : Pred f ex L p) (hL : Cap L w) :
    Calls Try.prog 29 #[.slice none 0 0, .func (.func f) #[] ex] w fun e w' => e = .returned (.slice none 0 0) ∧ Below w.heap.size w w' := by
  have HI := Aside0.mk (index_calls hp none 0 [] w ⟨rfl, by simp, fun h => absurd h (by simp)⟩ hL)
  have h0 : idx p [] = -1 := findIdx_none (by simp)
  rw [h0] at HI
  clear h0
  go_enter Try.func29, Try.ntmps29
  go_wp2_with (go_at_call 27; refine HI.out.mono ?_; rintro e w1 ⟨rfl, hb⟩; have HB := Aside0.mk hb; clear hb)
  go_ret
  exact ⟨rfl, HB.out⟩
theorem R_cleared {α : Type} {d : Kd α} {e base : Nat} {ok : Nat → Prop} {W : World} {g n cap m : Nat} {xs : List α} (h : d.R e W base ok (.slice (some ⟨g, 0, none⟩) n cap) xs) (hm : m ≤ n) (vs : List Value) (hvs : m * d.sz + vs.length ≤ n * d.sz) :
    d.R e (W.setCells g (m * d.sz) vs) base ok (.slice (some ⟨g, 0, none⟩) m cap) (xs.take m) ∧ W.grownBy (W.setCells g (m * d.sz) vs) (some g) := by
  obtain ⟨hn, hnc, _⟩ := Kd.R_reads' h
  have h2 := Kd.R_take (m := m) h (by omega)
  obtain ⟨hok, inner, ho, hr⟩ := h2
  obtain ⟨ho1, ho2⟩ := ho
  rcases ho2 with ⟨hv, _⟩ | ⟨g', cap', cur, hv, hb, hh, hnc', hcm, hcs, ht⟩
  · cases hv
  injection hv with ha _ hc
  injection ha with ha
  injection ha with hg
  subst hg; subst hc
  have hfit : m * d.sz + vs.length ≤ cur.size := by
    have : n * d.sz ≤ cap * d.sz := Nat.mul_le_mul_right _ hnc
    omega
  obtain ⟨cur', h3, h4, h5⟩ := setCells_row vs (m * d.sz) W cur hh hfit
  obtain ⟨s1, s2, s3, s4⟩ := setCells_same g vs (m * d.sz) W
  have hfar : ∀ k, k ≠ g → (W.setCells g (m * d.sz) vs).heap[k]? = W.heap[k]? := fun k hk => setCells_far vs _ k hk
  have hlen : (xs.take m).length = m := by rw [List.length_take]; omega
  refine ⟨⟨hok, inner, ⟨ho1, .inr ⟨g, cap, cur', by rw [hlen], hb, h3, hnc', hcm, by rw [h4, hcs], ?_⟩⟩, ?_⟩, ⟨s1, s2, s3, by rw [s4]; exact Nat.le_refl _, fun k _ hk => hfar k (fun he => hk (by rw [he]))⟩⟩
  · rw [hlen] at ht ⊢
    rw [h5, ← ht]
    have : (cur.toList.take (m * d.sz)).length = m * d.sz := by
      rw [List.length_take, Array.length_toList]
      omega
    rw [List.append_assoc, List.take_append_of_le_length (by omega), List.take_take, Nat.min_self]
  · refine hr.imp_ (fun p c hp => d.M_move (fun k hk => hfar k (fun he => hk.2 (by rw [he]; rfl))) hp)
theorem run_clear_row (W : World) (ty : TypeId) (g o n c : Nat) (cur : Array Value) (t : TypeId) (hn : 0 < n) (hg : W.heap[g]? = some (.cells cur t (0, 0))) (hf : o + n * 3 ≤ cur.size) :
    ∃ vs : List Value, vs.length = n * 3 ∧ (Builtin.clear_ #[22] ty #[.slice (some ⟨g, o, none⟩) n c]).run Try.prog W = .ok (.tuple #[]) (W.setCells g o vs) := by
  obtain ⟨m, rfl⟩ : ∃ m, n = m + 1 := ⟨n - 1, by omega⟩
  have hz : ∀ w, (zeroValue 27).run Try.prog w = .ok (.agg #[.int .i64 0, .string (⟨#[]⟩ : ByteArray), .bool false]) w := fun w => by rfl
  refine ⟨(Builtin.zeroCells (Value.cells (.agg #[.int .i64 0, .string (⟨#[]⟩ : ByteArray), .bool false])) (m + 1)).toList, by rw [Array.length_toList, size_zeroCells]; rfl, ?_⟩
  have hst := run_storeCells_cells (P := Try.prog) g o (Builtin.zeroCells (Value.cells (.agg #[.int .i64 0, .string (⟨#[]⟩ : ByteArray), .bool false])) (m + 1)).toList 0 W
    (fun j hj => by
      rw [cell_of_row W g _ cur t (0, 0) hg]
      rw [Array.length_toList, size_zeroCells] at hj
      have hj' : j < (m + 1) * 3 := hj
      rw [Array.getElem?_eq_getElem (by omega)]
      rfl)
    (fun j hj => frozen_of_row W g _ cur t hg)
    (fun v hv => by
      simp only [Builtin.zeroCells, Array.toList_map, List.mem_map, Array.mem_toList_iff, Array.mem_range] at hv
      obtain ⟨q, _, rfl⟩ := hv
      have : q % (Value.cells (.agg #[.int .i64 0, .string (⟨#[]⟩ : ByteArray), .bool false])).size < 3 := Nat.mod_lt _ (by show 0 < 3; omega)
      generalize q % (Value.cells (.agg #[.int .i64 0, .string (⟨#[]⟩ : ByteArray), .bool false])).size = r at this
      have hr : ∀ r, r < 3 → ((Value.cells (.agg #[.int .i64 0, .string (⟨#[]⟩ : ByteArray), .bool false]))[r]!).oneCell' = true := by decide
      exact hr r this)
  simp only [Nat.add_zero] at hst
  simp [Builtin.clear_, run_underlying Try.underlying22, hz, hst]
/-- The rest of a row of one's own is cleared. -/
theorem clear_event {ops : Array Oper} {rest : List Oper} {o : Oper} {a : Act} {Q : Exit → Act → World → Prop} {w : World} (hgd : o.guard = none) (x : Operand) (ho : o.op = .call { callee := .builtin .clear, args := #[x], argTypes := #[22] })
    {base : Nat} {ok : Nat → Prop} {r n cap m q c : Nat} {xs : List S27} (hx : a.eval x = .slice (some ⟨r, m * 3, none⟩) q c) (HO : Kd.R k27 27 w base ok (.slice (some ⟨r, 0, none⟩) n cap) xs) (hm : m + q = n) (hq : 0 < q)
    (h : ∀ w1, Kd.R k27 27 w1 base ok (.slice (some ⟨r, 0, none⟩) m cap) (xs.take m) → w.grownBy w1 (some r) → wpList Try.prog ops Q rest (a.put o.dst (.tuple #[])) w1) : wpList Try.prog ops Q (o :: rest) a w := by
  have HO2 := HO
  obtain ⟨hnx, hnc, _⟩ := Kd.R_reads' HO
  obtain ⟨hok, inner, ho', hr⟩ := HO2
  obtain ⟨ho1, ho2⟩ := ho'
  rcases ho2 with ⟨hv, _⟩ | ⟨g', cap', cur, hv, hb, hh, hnc', hcm, hcs, ht⟩
  · cases hv
  injection hv with ha _ hc
  injection ha with ha
  injection ha with hg
  subst hg; subst hc
  have hsz : k27.sz = 3 := rfl
  rw [hsz] at hcs
  obtain ⟨vs, hvl, hrun⟩ := run_clear_row w o.type r (m * 3) q c cur 27 hq hh (by omega)
  have hcl := R_cleared (m := m) HO (by omega) vs (by rw [hsz, hvl]; omega)
  rw [hsz] at hcl
  refine Kd.event_run hgd ?_ (h _ hcl.1 hcl.2)
  unfold execOp
  simp [ho, resolve, invoke, builtin, hx, hrun]
/-- What holds at the head of DeleteFunc's loop: j elements are looked at, those that stay stand in front. -/
def DelRel (p : S27 → Bool) (l : List S27) (i r cap base : Nat) (ok : Nat → Prop) (L : List (Nat × Obj)) (w : World) (a b : Value) (wr : World) : Prop :=
  ∃ j : Nat, i < j ∧ j ≤ l.length ∧ a = .int .i64 ((keep p (l.take j)).length : Int) ∧ b = .int .i64 j ∧ Aside0 ((keep p (l.take j)).length < j) ∧ Aside0 (Kd.R k27 27 wr base ok (.slice (some ⟨r, 0, none⟩) l.length cap) (keep p (l.take j) ++ l.drop (keep p (l.take j)).length)) ∧ Aside0 (w.grownBy wr (some r)) ∧ Aside0 (Cap L wr)
set_option maxRecDepth 100000 in
set_option maxHeartbeats 2000000 in
theorem delete_calls {f : FuncId} {ex : Array Value} {L : List (Nat × Obj)} {p : S27 → Bool} (hp : Pred f ex L p) (r cap : Nat) (l : List S27) (w : World) (base : Nat) (ok : Nat → Prop) (HO : Kd.R k27 27 w base ok (.slice (some ⟨r, 0, none⟩) l.length cap) l) (hl : l.length ≤ 1000000) (hL : Cap L w) (hr : ∀ q ∈ L, q.1 ≠ r) :
    Calls Try.prog 29 #[.slice (some ⟨r, 0, none⟩) l.length cap, .func (.func f) #[] ex] w fun e w' => e = .returned (.slice (some ⟨r, 0, none⟩) (keep p l).length cap) ∧ Kd.R k27 27 w' base ok (.slice (some ⟨r, 0, none⟩) (keep p l).length cap) (keep p l) ∧ w.grownBy w' (some r) := by
  have hu27 := Try.underlying27
  have HIX := Aside0.mk (index_calls hp _ cap l w (Kd.R_reads' HO).2.2 hL)
  have HR := Aside0.mk HO
  have HL := Aside0.mk hL
  clear HO hL
  rcases idx_cases p l with ⟨he, hall⟩ | ⟨i, hi, he, hpi, hn⟩
  · rw [he] at HIX
    go_enter Try.func29, Try.ntmps29
    go_wp2_with (go_at_call 27; refine HIX.out.mono ?_; rintro e w1 ⟨rfl, hb⟩; have HB := Aside0.mk hb; clear hb)
    go_ret
    rw [keep_all hall]
    exact ⟨rfl, Kd.R_below HR.out HB.out, below_grown HB.out _⟩
  · rw [he] at HIX
    clear he
    have hi0 : (0 : Int) ≤ (i : Int) := by omega
    go_enter Try.func29, Try.ntmps29
    go_wp2_with (go_at_call 27; refine HIX.out.mono ?_; rintro e w1 ⟨rfl, hb⟩; have HB := Aside0.mk hb; clear hb)
    have HR1 := Aside0.mk (Kd.R_below HR.out HB.out)
    have HG1 := Aside0.mk (below_grown HB.out (some r))
    have HL1 := Aside0.mk (HL.out.below HB.out)
    have hstart : keep p (l.take (i + 1)) = l.take i := by
      rw [keep_succ p l i hi, if_pos hpi, List.append_nil, keep_all hn]
    have HS := Aside0.mk hstart
    clear HR HB HL hstart hn hpi HIX
    go_loopw [5, 6] (fun a b wr => DelRel p l i r cap base ok L w a b wr) (fun _ b _ => l.length - (intOf b).toNat)
    case atStart =>
      have hlen : (l.take i).length = i := List.length_take_of_le (by omega)
      refine ⟨i + 1, by omega, by omega, by rw [HS.out, hlen], by go_num, ⟨by rw [HS.out, hlen]; omega⟩, ⟨?_⟩, HG1, HL1⟩
      rw [HS.out, hlen, List.take_append_drop]
      exact HR1.out
    case round =>
      obtain ⟨j, hij, hj, rfl, rfl, HM, HR, HG, HL⟩ := hrel
      clear HR1 HG1 HL1 HS
      by_cases hlt : j < l.length
      · generalize hF : keep p (l.take j) = F at HM HR ⊢
        have HF := Aside0.mk hF
        clear hF
        have hm0 : F.length < j := HM.out
        have hxl : (F ++ l.drop F.length).length = l.length := by simp; omega
        have hxj : rd_T27 (F ++ l.drop F.length) (j : Int) = l[j] := by
          rw [rd_at _ j (by omega), List.getElem_append_right (by omega), List.getElem_drop]
          congr 1
          omega
        obtain ⟨ad, hA, hxs⟩ := at_T27 (Kd.R_reads' HR.out).2.2 (j : Int) (by omega) (by omega)
        obtain rfl : ad = ⟨r, 0, none⟩ := by injection hA with hA; exact hA.symm
        rw [hxj, Int.toNat_natCast, add_zero_] at hxs
        obtain ⟨hx0, hx1, hx2⟩ := hxs
        have HXL := Aside0.mk hxl
        clear hA hxj hxl
        generalize hm : F.length = m at *
        have hLk := Aside0.mk HL.out
        have HRk := Aside0.mk HR.out
        have HGk := Aside0.mk HG.out
        have hmj : m < l.length := by omega
        obtain ⟨b, hb_⟩ : ∃ b, b = p l[j] := ⟨_, rfl⟩
        have Hb := Aside0.mk hb_
        have hcall := Aside0.mk (show ∀ w, Cap L w → Calls Try.prog f (#[.agg #[.int .i64 l[j].f0, .string l[j].f1, .bool l[j].f2]] ++ ex) w fun e w' => e = .returned (.bool b) ∧ Below w.heap.size w w' from fun w hw => by rw [hb_]; exact hp.calls w l[j] hw)
        clear hb_
        cases b
        · go_wp2_with (first | ((with_reducible refine gate_dst (N := 7) rfl ?_); refine box_event ?hg (N := 7) ?hd (cs := #[.int .i64 0, .string (⟨#[]⟩ : ByteArray), .bool false]) (t := 27) ?hr ?_; (case hd => rfl); (case hg => rfl); (case hr => first | (go_simp; done) | (go_simp; rfl)); intro g0 hg0 w2 hbox hb; have BK := Aside0.mk hbox; have hb1 := Aside0.mk hb; have hne := Aside0.mk hg0; clear hbox hb hg0) | ((with_reducible refine gate_store (t := 27) (p := 7) rfl ?_); refine store_row_event rfl 27 _ _ rfl g0 #[.int .i64 l[j].f0, .string l[j].f1, .bool l[j].f2] rfl rfl 27 #[.int .i64 0, .string (⟨#[]⟩ : ByteArray), .bool false] BK.out info_E rfl (one_arr _) ?_; intro w3 hk hbel; have hb3 := Aside0.mk (hbel wr hb1.out (Nat.le_of_eq hne.out.symm)); clear BK hb1; have BK := Aside0.mk hk; have hv3_0 := (blk_cell hk 0).trans rfl; have hv3_1 := (blk_cell hk 1).trans rfl; have hv3_2 := (blk_cell hk 2).trans rfl; clear hk hbel) | ((with_reducible refine gate_dst (N := 28) rfl ?_); refine goesV_ (some 28) rfl rfl hp.enters #[.agg #[.int .i64 l[j].f0, .string l[j].f1, .bool l[j].f2]] rfl rfl (by (try simp only [List.map_toArray, List.map_cons, List.map_nil]); first | done | rfl) ?_; refine (hcall.out w3 (hLk.out.below hb3.out)).mono ?_; rintro e w4 ⟨rfl, hb⟩; refine ⟨_, rfl, ?_⟩; have hb4 := Aside0.mk (below_step hb3.out hb); have BK4 := Aside0.mk (blk_below BK.out hb); have hv4_0 := (blk_cell BK4.out 0).trans rfl; have hv4_1 := (blk_cell BK4.out 1).trans rfl; have hv4_2 := (blk_cell BK4.out 2).trans rfl; clear hb) | ((with_reducible refine gate_store (t := 27) (p := 33) rfl ?_); refine row_store rfl rfl (.tmp 33) (.tmp 32) rfl (r := r) (n := l.length) (cap := cap) (m := m) (xs := F ++ l.drop m) (v := l[j]) rfl rfl (Kd.R_below HRk.out hb4.out) (by rw [HXL.out]; exact hmj) ?_; intro w5 ho5 hg5; have HR5 := Aside0.mk ho5; have HG5 := Aside0.mk (World.grownBy.trans (below_grown hb4.out (some r)) hg5); have HL5 := Aside0.mk ((hLk.out.below hb4.out).grown hg5 hr); clear ho5 hg5))
          go_roundw
          case rel =>
            have hk : keep p (l.take (j + 1)) = F ++ [l[j]] := by rw [keep_succ p l j hlt, ← Hb.out, HF.out]; rfl
            have hk2 : (keep p (l.take (j + 1))).length = m + 1 := by rw [hk]; simp [hm]
            refine ⟨j + 1, by omega, by omega, by rw [hk2]; go_num, by go_num, ⟨by rw [hk2]; omega⟩, ⟨?_⟩, ⟨World.grownBy.trans HGk.out HG5.out⟩, HL5⟩
            rw [hk2, hk]
            have : (F ++ l.drop m).set m l[j] = F ++ [l[j]] ++ l.drop (m + 1) := by
              rw [List.drop_eq_getElem_cons hmj, List.set_append_right _ _ (by omega), hm, Nat.sub_self, List.append_assoc]
              rfl
            rw [this] at HR5
            exact HR5.out
          case measure => simp [intOf]; omega
        · go_wp2_with (first | ((with_reducible refine gate_dst (N := 7) rfl ?_); refine box_event ?hg (N := 7) ?hd (cs := #[.int .i64 0, .string (⟨#[]⟩ : ByteArray), .bool false]) (t := 27) ?hr ?_; (case hd => rfl); (case hg => rfl); (case hr => first | (go_simp; done) | (go_simp; rfl)); intro g0 hg0 w2 hbox hb; have BK := Aside0.mk hbox; have hb1 := Aside0.mk hb; have hne := Aside0.mk hg0; clear hbox hb hg0) | ((with_reducible refine gate_store (t := 27) (p := 7) rfl ?_); refine store_row_event rfl 27 _ _ rfl g0 #[.int .i64 l[j].f0, .string l[j].f1, .bool l[j].f2] rfl rfl 27 #[.int .i64 0, .string (⟨#[]⟩ : ByteArray), .bool false] BK.out info_E rfl (one_arr _) ?_; intro w3 hk hbel; have hb3 := Aside0.mk (hbel wr hb1.out (Nat.le_of_eq hne.out.symm)); clear BK hb1; have BK := Aside0.mk hk; have hv3_0 := (blk_cell hk 0).trans rfl; have hv3_1 := (blk_cell hk 1).trans rfl; have hv3_2 := (blk_cell hk 2).trans rfl; clear hk hbel) | ((with_reducible refine gate_dst (N := 28) rfl ?_); refine goesV_ (some 28) rfl rfl hp.enters #[.agg #[.int .i64 l[j].f0, .string l[j].f1, .bool l[j].f2]] rfl rfl (by (try simp only [List.map_toArray, List.map_cons, List.map_nil]); first | done | rfl) ?_; refine (hcall.out w3 (hLk.out.below hb3.out)).mono ?_; rintro e w4 ⟨rfl, hb⟩; refine ⟨_, rfl, ?_⟩; have hb4 := Aside0.mk (below_step hb3.out hb); have BK4 := Aside0.mk (blk_below BK.out hb); have hv4_0 := (blk_cell BK4.out 0).trans rfl; have hv4_1 := (blk_cell BK4.out 1).trans rfl; have hv4_2 := (blk_cell BK4.out 2).trans rfl; clear hb))
          go_roundw
          case rel =>
            have hk : keep p (l.take (j + 1)) = F := by rw [keep_succ p l j hlt, ← Hb.out, HF.out]; simp
            refine ⟨j + 1, by omega, by omega, by rw [hk, hm], by go_num, ⟨by rw [hk, hm]; omega⟩, ⟨?_⟩, ⟨World.grownBy.trans HGk.out (below_grown hb4.out _)⟩, ⟨hLk.out.below hb4.out⟩⟩
            rw [hk, hm]
            exact Kd.R_below HRk.out hb4.out
          case measure => simp [intOf]; omega
      · obtain rfl : j = l.length := by omega
        rw [List.take_length] at HM HR ⊢
        have hm0 := HM.out
        generalize hF : keep p l = F at HM HR hm0 ⊢
        have HF := Aside0.mk hF
        clear hF HM
        have hxl : Aside0 ((F ++ l.drop F.length).length = l.length) := ⟨by simp; omega⟩
        have hcap : l.length ≤ cap := (Kd.R_reads' HR.out).2.1
        have htk : Aside0 ((F ++ l.drop F.length).take F.length = F) := ⟨by simp⟩
        generalize hm : F.length = m at *
        have hne : ¬ cap = m := by omega
        have hz : Aside0 (0 < l.length - m) := ⟨by omega⟩
        have HLk := Aside0.mk HL.out
        go_wp2_with ((with_reducible refine gate_builtin (b := .clear) (xs := #[.tmp 38]) rfl ?_); refine clear_event (r := r) (n := l.length) (cap := cap) (m := m) (xs := F ++ l.drop m) rfl (.tmp 38) rfl rfl HR.out (by omega) hz.out ?_; intro w6 ho6 hg6; rw [htk.out] at ho6; have HR6 := Aside0.mk ho6; have HG6 := Aside0.mk (World.grownBy.trans HG.out hg6); clear ho6 hg6)
        go_ret
        rw [HF.out, hm]
        exact ⟨rfl, HR6.out, HG6.out⟩
section
variable {P : Program} {ops : Array Oper} {rest : List Oper} {o : Oper} {a : Act} {Q : Exit → Act → World → Prop} {w : World}
/-- A slice is held against nil. -/
theorem eqnil_event (hgd : o.guard = none) (t e : TypeId) (x y : Operand) (ho : o.op = .binOp .eql t x y t) (hu : P.underlying t = some (.slice e)) (A : Option Addr) (n c n' c' : Nat) (hx : a.eval x = .slice A n c) (hy : a.eval y = .slice none n' c')
    (h : wpList P ops Q rest (a.put o.dst (.bool A.isNone)) w) : wpList P ops Q (o :: rest) a w := by
  refine Kd.event_run hgd ?_ h
  have hr := Lib.run_eql_slice_nil w t e A n c n' c' hu
  unfold execOp
  simp [ho, hx, hy, hr, eqGuard]
end
theorem put_E : (Try.prog.info? 27).map (fun i => (i.zero, i.size, i.bytes)) = some (some (.agg #[.int .i64 0, .string (⟨#[]⟩ : ByteArray), .bool false]), 3, 32) := by kernel_rfl
theorem clone_append {ops : Array Oper} {rest : List Oper} {o : Oper} {a : Act} {Q : Exit → Act → World → Prop} {w0 w : World} (hgd : o.guard = none) (s x : Operand) (ho : o.op = .call { callee := .builtin .append, args := #[s, x], argTypes := #[22, 22] })
    {v : Value} {l : List S27} {ad : Addr} {c : Nat} (hs : a.eval s = v) (hx : a.eval x = .slice (some ad) l.length c) (HO : Kd.R k27 27 w w0.heap.size (fun _ => True) v []) (HC : Kd.C k27 w (some ad) l.length l) (HB : Below w0.heap.size w0 w) (hl : l.length ≤ 1000000)
    (h : ∀ v1 w1, Kd.R k27 27 w1 w0.heap.size (fun _ => True) v1 l → Below w0.heap.size w0 w1 → wpList Try.prog ops Q rest (a.put o.dst v1) w1) : wpList Try.prog ops Q (o :: rest) a w := by
  refine Kd.R_append_rows k27 (w0 := w0) w0.heap.size hgd s x 22 27 (.agg #[.int .i64 0, .string (⟨#[]⟩ : ByteArray), .bool false]) 32 ho Try.underlying22 put_E rfl (by decide) (by decide) v [] l (some ad) l.length c (fun _ => True) (fun _ => False) hs hx HO HC (fun x cs h => by rw [k27_open h]; exact k27_mkM _ _ _ x) (fun _ h => h.elim) (fun _ _ => trivial) HB HB.size (by simp; omega) (fun v1 w1 h1 h2 _ _ => h v1 w1 h1 h2)
set_option maxRecDepth 100000 in
set_option maxHeartbeats 1000000 in
theorem clone_nil (n c : Nat) (w : World) : Calls Try.prog 26 #[.slice none n c] w fun e w' => e = .returned (.slice none 0 0) ∧ Below w.heap.size w w' := by
  have HB := Aside0.mk (Below.refl w.heap.size w)
  have hu22 := Try.underlying22
  go_enter Try.func26, Try.ntmps26
  go_wp2_with ((with_reducible refine gate_dst (N := 4) rfl ?_); refine eqnil_event rfl 22 27 (.tmp 3) _ rfl hu22 none n c 0 0 rfl rfl ?_; simp only [Option.isNone])
  go_ret
  exact ⟨rfl, HB.out⟩
set_option maxRecDepth 100000 in
set_option maxHeartbeats 1000000 in
theorem clone_some (w : World) (ad : Addr) (c : Nat) (l : List S27) (hC : Kd.C k27 w (some ad) l.length l) (hl : l.length ≤ 1000000) : Calls Try.prog 26 #[.slice (some ad) l.length c] w fun e w' => ∃ v, e = .returned v ∧ Kd.R k27 27 w' w.heap.size (fun _ => True) v l ∧ Below w.heap.size w w' := by
  have HB := Aside0.mk (Below.refl w.heap.size w)
  have HC := Aside0.mk hC
  clear hC
  have hu22 := Try.underlying22
  go_enter Try.func26, Try.ntmps26
  go_wp2_with (first | ((with_reducible refine gate_dst (N := 4) rfl ?_); refine eqnil_event rfl 22 27 (.tmp 3) _ rfl hu22 (some ad) l.length c 0 0 rfl rfl ?_; simp only [Option.isNone]) | ((with_reducible refine gate_dst (N := 5) rfl ?_); refine Kd.R_lit k27 w.heap.size 27 ?hg (N := 5) ?hd (w0 := w) (xs := []) (inner := []) (ok := fun _ => True) (okp := fun _ => True) ?hr ?hp (fun _ hk => hk) trivial (Below.refl _ _) (Nat.le_refl _) (by simp) ?_; (case hd => rfl); (case hg => rfl); (case hr => first | (go_simp; done) | (go_simp; rfl)); (case hp => exact Reps.none _ _); intro v1 w1 ho1 hb1 hg1 hn1; have HR1 := Aside0.mk ho1; have HB1 := Aside0.mk hb1; have HL1 := Aside0.mk hn1; clear ho1 hb1 hg1 hn1) | ((with_reducible refine gate_builtin (b := .append) (xs := #[.tmp 5, .tmp 6]) rfl ?_); refine clone_append rfl (.tmp 5) (.tmp 6) rfl (w0 := w) (v := v1) (l := l) (ad := ad) (c := c) rfl rfl HR1.out (Kd.C_below HC.out HB1.out) HB1.out hl ?_; intro v2 w2 ho2 hb2; have HR2 := Aside0.mk ho2; have HB2 := Aside0.mk hb2; clear ho2 hb2))
  go_ret
  exact ⟨_, rfl, HR2.out, HB2.out⟩
/-- What Clone answers: a row of one's own with the same elements; of nil it answers nil. -/
theorem clone_calls (A : Option Addr) (c : Nat) (l : List S27) (w : World) (hC : Kd.C k27 w A l.length l) (hl : l.length ≤ 1000000) : Calls Try.prog 26 #[.slice A l.length c] w fun e w' => ∃ v, e = .returned v ∧ Kd.R k27 27 w' w.heap.size (fun _ => True) v l ∧ Below w.heap.size w w' := by
  cases A with
  | none =>
    have h0 : l = [] := by
      rcases Nat.eq_zero_or_pos l.length with h | h
      · exact List.length_eq_zero_iff.1 h
      · obtain ⟨_, h, _⟩ := hC.2.2 h
        cases h
    refine (clone_nil l.length c w).mono ?_
    rintro e w' ⟨rfl, hb⟩
    exact ⟨_, rfl, by rw [h0]; exact Kd.R_nil _ _ _ _ _, hb⟩
  | some ad => exact clone_some w ad c l hC hl
/-- DeleteFunc at any row of one's own, nil too. -/
theorem delete_any {f : FuncId} {ex : Array Value} {L : List (Nat × Obj)} {p : S27 → Bool} (hp : Pred f ex L p) (v : Value) (l : List S27) (w : World) (base : Nat) (ok : Nat → Prop) (HO : Kd.R k27 27 w base ok v l) (hl : l.length ≤ 1000000) (hL : Cap L w) (hr : ∀ q ∈ L, some q.1 ≠ v.ownBlock) :
    Calls Try.prog 29 #[v, .func (.func f) #[] ex] w fun e w' => ∃ v', e = .returned v' ∧ Kd.R k27 27 w' base ok v' (keep p l) ∧ w.grownBy w' v.ownBlock ∧ v'.ownBlock = v.ownBlock := by
  obtain ⟨inner, ho1, ho2⟩ := Kd.R_own HO
  rcases ho2 with ⟨rfl, hn⟩ | ⟨g, cap, cur, rfl, _⟩
  · obtain rfl := List.length_eq_zero_iff.1 hn
    refine (keep_nil hp hL).mono ?_
    rintro e w' ⟨rfl, hb⟩
    exact ⟨_, rfl, Kd.R_nil _ _ _ _ _, below_grown hb _, rfl⟩
  · refine (delete_calls hp g cap l w base ok HO hl hL (fun q hq he => hr q hq (by rw [he]; rfl))).mono ?_
    rintro e w' ⟨rfl, h1, h2⟩
    exact ⟨_, rfl, h1, h2, rfl⟩
end Go.Proofs.Ytgjngaeoojcioaa.Fun
