/- trail.Newest, walked: a map of the last Seq of each key, and those that are no older. -/
import Derived.Test.YtldccimehioakaaTrail
import Derived.Maps.Own
import Derived.Maps.OwnOps
import Derived.Maps.OwnSet
import Derived.Maps.Views
import Derived.StringKeys
namespace Go.Proofs.Ytldccimehioakaa.Newest
open Go Go.RowKit Go.Maps Go.Proofs.Ytldccimehioakaa.X Go.Proofs.YtldccimehioakaaW Go.Proofs.YtldccimehioakaaW.PrintWords Go.Proofs.YtldccimehioakaaW.PrintLast Go.Proofs.YtldccimehioakaaW.PrintMore Go.Proofs.Ytldccimehioakaa.Fun Go.Proofs.Ytldccimehioakaa.Trail
set_option linter.unusedVariables false
set_option linter.unusedSimpArgs false
set_option maxRecDepth 100000
set_option maxHeartbeats 1000000
/-- A change whose Seq and whose Key are as they may be. -/
def okC (x : S30) : Prop := (Lit.int .i64 x.f0).wf = true ∧ x.f1.size ≤ maxLen
instance (x : S30) : Decidable (okC x) := by unfold okC; exact inferInstance
theorem law : Keyed Try.prog 9 := string_keyed Try.underlying9
theorem zero3 (w : World) : (zeroValue 3).run Try.prog w = .ok (.int .i64 0) w := by kernel_rfl
/-- Of each key the last Seq up to one. -/
def lastUp (s : Int) (l : List S30) (k : ByteArray) : Int := l.foldl (fun v x => if x.f0 ≤ s ∧ x.f1 = k then x.f0 else v) 0
/-- A map that has these numbers. -/
def Says (D : DataW Unit) (f : ByteArray → Int) : Prop := ∀ k : ByteArray, D.atKey (.string k.data.toList) (.lit (.int .i64 0)) = .lit (.int .i64 (f k))
theorem newest_pred (g b n : Nat) (es : Array MapEntry) (clock : Nat) (D : DataW Unit) (f : ByteArray → Int) (hF : ∀ w : World, w.heap[b]? = some (.map es clock) → w.ownsMap Try.prog 9 (plainElem Try.prog 3) b n D) (hS : Says D f) : Pred 27 #[.pointer (some ⟨g, 0, none⟩)] [(g, .cells #[.map (some b)] 45 (0, 0)), (b, .map es clock)] (fun x => decide (x.f0 < f x.f1)) okC := by
  refine ⟨fun args w => rfl, fun w x hL hok => ?_⟩
  have hg := hL _ (List.mem_cons_self ..)
  have hb := hL _ (List.mem_cons_of_mem _ (List.mem_singleton.2 rfl))
  have HG := Aside0.mk hg
  have HM := Aside0.mk hb
  have HF := Aside0.mk hF
  have HK := Aside0.mk (Go.WideMaps.keyOf_string_mk Try.underlying9 hok.2)
  have HS := Aside0.mk (hS x.f1)
  clear hL hg hb hF hS hok
  have hu30 := Try.underlying30
  generalize f x.f1 = v at HS ⊢
  show Calls Try.prog 27 #[.agg #[.int .i64 x.f0, .string x.f1, .bool x.f2, .string x.f3, .bool x.f4, .string x.f5], .pointer (some ⟨g, 0, none⟩)] w _
  go_enter Try.func27, Try.ntmps27
  go_wp2_with (first | ((with_reducible refine gate_dst (N := 2) rfl ?_); refine box_event ?hg (N := 2) ?hd (cs := #[.int .i64 x.f0, .string x.f1, .bool x.f2, .string x.f3, .bool x.f4, .string x.f5]) (t := 30) ?hr ?_; (case hd => rfl); (case hg => rfl); (case hr => first | (go_simp; done) | (go_simp; rfl)); intro g0 hg0 w2 hbox hb; have h0_ := (blk_cell hbox 0).trans rfl; have h1_ := (blk_cell hbox 1).trans rfl; have h2_ := (blk_cell (blk_below HG.out hb) 0).trans rfl; have HB := Aside0.mk hb; have HO := Aside0.mk (HF.out w2 (blk_below HM.out hb)); clear hbox hb hg0) | (at_lookup; refine wpList_lookup_own_int _ rfl _ _ 45 rfl 9 3 .i64 law Try.underlying45 Try.underlying3 (zero3 _) b n D rfl HO.out _ _ rfl HK.out ?_; intro c hat hwc; obtain rfl : c = v := (by have h_ := hat.symm.trans HS.out; injection h_ with h_; injection h_); clear hat hwc))
  go_ret
  exact ⟨rfl, HB.out⟩
theorem lastUp_succ (s : Int) (l : List S30) (k : Nat) (h : k < l.length) (key : ByteArray) : lastUp s (l.take (k + 1)) key = if l[k].f0 ≤ s ∧ l[k].f1 = key then l[k].f0 else lastUp s (l.take k) key := by
  unfold lastUp
  rw [List.take_succ_eq_append_getElem h, List.foldl_append]
  rfl
theorem str_lit {a b : ByteArray} (h : (Lit.string a.data.toList) = .string b.data.toList) : a = b := by
  injection h with h
  exact ByteArray.ext (Array.toList_inj.1 h)
theorem says_put {D : DataW Unit} {f : ByteArray → Int} {key : ByteArray} {v : Int} (hD : IsMap D) (hS : Says D f) : Says (D.put (.string key.data.toList) (.lit (.int .i64 v))) (fun k => if key = k then v else f k) := by
  intro k
  show _ = DataW.lit (.int .i64 (if key = k then v else f k))
  by_cases e : key = k
  · subst e
    rw [if_pos rfl]
    exact atKey_put_same hD (by trivial) _ _
  · rw [if_neg e, atKey_put_other (fun h => e (str_lit h).symm)]
    exact hS k
theorem says_congr {D : DataW Unit} {f g : ByteArray → Int} (h : Says D f) (e : ∀ k, f k = g k) : Says D g := fun k => by rw [h k, e k]
/-- A map that has these numbers lies in a block. -/
def Holds (w : World) (b n : Nat) (f : ByteArray → Int) : Prop := ∃ D : DataW Unit, w.ownsMap Try.prog 9 (plainElem Try.prog 3) b n D ∧ Says D f
theorem Holds.kept {w w' : World} {b n : Nat} {f : ByteArray → Int} (h : Holds w b n f) (hb : Below w.heap.size w w') : Holds w' b n f := by
  obtain ⟨D, h1, h2⟩ := h
  exact ⟨D, h1.kept (below_grown hb none) (by simp), h2⟩
section
variable {P : Program} {ops : Array Oper} {rest : List Oper} {o : Oper} {a : Act} {Q : Exit → Act → World → Prop} {w : World}
theorem makemap_event (hgd : o.guard = none) (t : TypeId) (ho : o.op = .makeMap t none)
    (h : ∀ b w1, b = w.heap.size → w1.heap[b]? = some (.map #[] 0) → Below w.heap.size w w1 → wpList P ops Q rest (a.put o.dst (.map (some b))) w1) : wpList P ops Q (o :: rest) a w := by
  refine Kd.event_run hgd ?_ (h w.heap.size (w.alloc (.map #[] 0)) rfl (MapKept.heap_alloc w _).1 (below_alloc (Below.refl _ _) _))
  unfold execOp
  simp [ho, run_makeMap]
end
theorem obj_far {w : World} {b : Nat} {o : Obj} (h : w.heap[b]? = some o) {p : Addr} (hp : b ≠ p.block) (u : Value) : (w.setCell p u).heap[b]? = some o := (Below.heap_setCell w p u b hp).trans h
theorem holds_new {w1 : World} {b : Nat} (h : w1.heap[b]? = some (.map #[] 0)) (s : Int) : Holds w1 b 0 (lastUp s []) :=
  ⟨.map [], ⟨#[], 0, h, ⟨by simp, Go.MapKept.stamped_empty 0, by simp⟩, Nat.le_refl _, rfl⟩, fun k => rfl⟩
theorem info_30s : (Try.prog.info? 30).map (·.size) = some 6 := by kernel_rfl
theorem newest_calls (A : Option Addr) (c : Nat) (l : List S30) (s : Int) (w : World) (hC : Kd.C k30 w A l.length l) (hc : l.length ≤ c) (hl : l.length ≤ 1000000) (hok : ∀ x ∈ l, okC x) (k : Nat) (r : Bool) (hr : trail_Right.f k l = some r) :
    Calls Try.prog 13 #[.slice A l.length c, .int .i64 s] w fun e w' => ∃ v, e = .returned v ∧ Kd.R k30 30 w' w.heap.size (fun _ => True) v (kept r (fun x => decide (x.f0 < lastUp s l x.f1)) l) ∧ Below w.heap.size w w' := by
  have HC := Aside0.mk hC
  have HR := Aside0.mk hr
  have HOK := Aside0.mk hok
  have hu30 := Try.underlying30
  clear hC hr hok
  go_enter Try.func13, Try.ntmps13
  go_wp2_with (first | ((with_reducible refine gate_dst (N := 8) rfl ?_); refine makemap_event rfl 45 rfl ?_; intro b w2 hb2 hm2 hbel2; have HM2 := Aside0.mk hm2; have HB2 := Aside0.mk hbel2; have HN2 := Aside0.mk hb2; clear hb2 hm2 hbel2) | ((with_reducible refine gate_dst (N := 5) rfl ?_); refine box_event ?hg (N := 5) ?hd (cs := #[.map none]) (t := 45) ?hr ?_; (case hd => rfl); (case hg => rfl); (case hr => first | (go_simp; done) | (go_simp; rfl)); intro g hg w3 hbox hb; have h0_ := (blk_cell hbox 0).trans rfl; have hf_ := blk_frozen hbox 0; have HB3 := Aside0.mk (below_step HB2.out hb); have BK3 := Aside0.mk hbox; have HM3 := Aside0.mk (blk_below HM2.out hb); have HN3 := Aside0.mk hg; have HL3 := Aside0.mk (blk_lt HM2.out); clear hbox hb hg))
  have HB4 := Aside0.mk (show Below w.heap.size w (w3.setCell ⟨g, 0, none⟩ (.map (some b))) from below_set HB3.out (by rw [HN3.out]; exact HB2.out.size))
  have BK4 := Aside0.mk (blk_set BK3.out 0 (.map (some b)))
  have HM4 := Aside0.mk (holds_new (obj_far HM3.out (p := ⟨g, 0, none⟩) (by show b ≠ g; rw [HN3.out]; exact Nat.ne_of_lt HL3.out) (.map (some b))) s)
  have HG := Aside0.mk (show b ≠ g by rw [HN3.out]; exact Nat.ne_of_lt HL3.out)
  have HW := Aside0.mk (Nat.le_of_eq HN2.out.symm)
  clear h0_ hf_ HB2 HB3 BK3 HM2 HM3 HL3 HN2 HN3
  generalize w3.setCell ⟨g, 0, none⟩ (.map (some b)) = W at HB4 BK4 HM4 ⊢
  go_loopw [11] (fun i wr => ∃ k : Nat, k ≤ l.length ∧ i = .int .i64 k ∧ Aside0 (wr.heap[g]? = some (.cells #[.map (some b)] 45 (0, 0))) ∧ Aside0 (Holds wr b k (lastUp s (l.take k))) ∧ Aside0 (Below w.heap.size w wr)) (fun i _ => l.length - (intOf i).toNat)
  case atStart => exact ⟨0, by omega, rfl, BK4, HM4, HB4⟩
  case round =>
    obtain ⟨j, hj, rfl, BK, HM, HB⟩ := hrel
    clear BK4 HM4 HB4
    by_cases hlt : j < l.length
    · obtain ⟨ad, hA, hxs⟩ := at_T30 (Kd.C_below HC.out HB.out) (j : Int) (by omega) (by omega)
      subst hA
      rw [Fun.rd_at l j hlt, Int.toNat_natCast] at hxs
      obtain ⟨hx0, hx1, hx2, hx3, hx4, hx5⟩ := hxs
      have hm_ := HOK.out l[j] (List.getElem_mem hlt)
      have HWF := Aside0.mk hm_.1
      have HK := Aside0.mk (Go.WideMaps.keyOf_string_mk Try.underlying9 hm_.2)
      clear hm_
      have hsu := Aside0.mk (fun key => lastUp_succ s l j hlt key)
      obtain ⟨D, hown_, hs_⟩ := HM.out
      have HOwn := Aside0.mk hown_
      have HS := Aside0.mk hs_
      clear hown_ hs_
      by_cases hs : l[j].f0 ≤ s
      · have hd := decide_eq_true hs
        go_wp2_with (first | ((with_reducible refine gate_dst (N := 7) rfl ?_); refine box_event ?hg (N := 7) ?hd (cs := #[.int .i64 0, .string (⟨#[]⟩ : ByteArray), .bool false, .string (⟨#[]⟩ : ByteArray), .bool false, .string (⟨#[]⟩ : ByteArray)]) (t := 30) ?hr ?_; (case hd => rfl); (case hg => rfl); (case hr => first | (go_simp; done) | (go_simp; rfl)); intro g0 hg0 w2 hbox hb; have HB7 := Aside0.mk hb; have BK7 := Aside0.mk hbox; have HN7 := Aside0.mk hg0; clear hbox hb hg0) | ((with_reducible refine gate_store (t := 30) (p := 7) rfl ?_); refine store_row_event rfl 30 _ _ rfl g0 #[.int .i64 l[j].f0, .string l[j].f1, .bool l[j].f2, .string l[j].f3, .bool l[j].f4, .string l[j].f5] rfl rfl 30 #[.int .i64 0, .string (⟨#[]⟩ : ByteArray), .bool false, .string (⟨#[]⟩ : ByteArray), .bool false, .string (⟨#[]⟩ : ByteArray)] BK7.out info_30s rfl (one_arr l[j]) ?_; intro w4 hk hbel; have HB8 := Aside0.mk (hbel wr HB7.out (Nat.le_of_eq HN7.out.symm)); have BKg := Aside0.mk (blk_below BK.out HB8.out); have hv0_ := (blk_cell hk 0).trans rfl; have hv1_ := (blk_cell hk 1).trans rfl; have hg0_ := (blk_cell BKg.out 0).trans rfl; have HO8 := Aside0.mk (HOwn.out.kept (below_grown HB8.out none) (by simp)); clear hk hbel BK7 HB7) | (at_mapUpdate; refine wpList_mapUpdate_own _ rfl _ _ _ 45 rfl 9 3 law Try.underlying45 _ b j D rfl HO8.out (by unfold maxLen; omega) _ _ _ rfl rfl HK.out _ [] (plainElem_int Try.underlying3 HWF.out) ?_; intro w6 hown6 hgrow6; have HO6 := Aside0.mk hown6; have HG6 := Aside0.mk hgrow6; clear hown6 hgrow6))
        go_roundw
        case rel =>
          refine ⟨j + 1, by omega, by go_num, ⟨blk_grown BKg.out HG6.out (by intro e; injection e with e; exact HG.out e.symm)⟩, ⟨⟨_, HO6.out, ?_⟩⟩, ⟨(below_step HB.out HB8.out).grown HG6.out (below_step HB.out HB8.out).size (fun k hk => by injection hk with hk; rw [← hk]; exact HW.out)⟩⟩
          refine says_congr (says_put HOwn.out.isMap HS.out) (fun key => ?_)
          rw [hsu.out key]
          by_cases e : l[j].f1 = key
          · rw [if_pos e, if_pos ⟨hs, e⟩]
          · rw [if_neg e, if_neg (fun h => e h.2)]
        case measure => simp [intOf]; omega
      · have hd := decide_eq_false hs
        go_wp2_with (first | ((with_reducible refine gate_dst (N := 7) rfl ?_); refine box_event ?hg (N := 7) ?hd (cs := #[.int .i64 0, .string (⟨#[]⟩ : ByteArray), .bool false, .string (⟨#[]⟩ : ByteArray), .bool false, .string (⟨#[]⟩ : ByteArray)]) (t := 30) ?hr ?_; (case hd => rfl); (case hg => rfl); (case hr => first | (go_simp; done) | (go_simp; rfl)); intro g0 hg0 w2 hbox hb; have HB7 := Aside0.mk hb; have BK7 := Aside0.mk hbox; have HN7 := Aside0.mk hg0; clear hbox hb hg0) | ((with_reducible refine gate_store (t := 30) (p := 7) rfl ?_); refine store_row_event rfl 30 _ _ rfl g0 #[.int .i64 l[j].f0, .string l[j].f1, .bool l[j].f2, .string l[j].f3, .bool l[j].f4, .string l[j].f5] rfl rfl 30 #[.int .i64 0, .string (⟨#[]⟩ : ByteArray), .bool false, .string (⟨#[]⟩ : ByteArray), .bool false, .string (⟨#[]⟩ : ByteArray)] BK7.out info_30s rfl (one_arr l[j]) ?_; intro w4 hk hbel; have HB8 := Aside0.mk (hbel wr HB7.out (Nat.le_of_eq HN7.out.symm)); have BKg := Aside0.mk (blk_below BK.out HB8.out); have hv0_ := (blk_cell hk 0).trans rfl; have hv1_ := (blk_cell hk 1).trans rfl; have hg0_ := (blk_cell BKg.out 0).trans rfl; have HO8 := Aside0.mk (HOwn.out.kept (below_grown HB8.out none) (by simp)); clear hk hbel BK7 HB7))
        go_roundw
        case rel =>
          refine ⟨j + 1, by omega, by go_num, BKg, ⟨⟨D, HO8.out.mono (by omega), ?_⟩⟩, ⟨below_step HB.out HB8.out⟩⟩
          refine says_congr HS.out (fun key => ?_)
          rw [hsu.out key, if_neg (fun h => hs h.1)]
        case measure => simp [intOf]; omega
    · obtain rfl : j = l.length := by omega
      obtain ⟨D, ⟨es, clock, hb_, F, hsz, hD⟩, hs_⟩ := HM.out
      rw [List.take_length] at hs_
      have HP := Aside0.mk (newest_pred g b l.length es clock D (lastUp s l) (fun w hw => ⟨es, clock, hw, F, hsz, hD⟩) hs_)
      have HMb := Aside0.mk hb_
      clear hb_ F hsz hD hs_ HM
      go_wp2_with (go_at_call 23; refine (without_any HP.out A c l wr (Kd.C_below HC.out HB.out) hc hl (fun q hq => by rcases List.mem_cons.1 hq with e_ | hq; rw [e_]; exact BK.out; rw [List.mem_singleton.1 hq]; exact HMb.out) k r HR.out HOK.out).mono ?_; rintro e w7 ⟨v7, rfl, h7, hb7⟩; have HO7 := Aside0.mk h7; have HB7 := Aside0.mk hb7; clear h7 hb7)
      go_ret
      exact ⟨_, rfl, Kd.R_lower HO7.out HB.out.size, below_step HB.out HB7.out⟩
end Go.Proofs.Ytldccimehioakaa.Newest
