-- Written by a program of this session (wip/tools/xprint.py) out of the translation. Not trusted: Lean checks it.
import Derived.Test.YtjldikjnljidbaaXx0
import Derived.Test.YtjldikjnljidbaaXx3
import Derived.Test.YtjldikjnljidbaaHand
namespace Go.Proofs.Ytjldikjnljidbaa.X
open Go.RowKit Go.Proofs.YtjldikjnljidbaaW.PrintWords Go.Proofs.YtjldikjnljidbaaW.PrintLast Go.Proofs.YtjldikjnljidbaaW.PrintMore
attribute [local go_sem] max2_int min2_int max_two min_two max_three min_three max_four min_four max2_str min2_str   -- for this text's walks alone
set_option linter.unusedVariables false
set_option linter.unusedSimpArgs false

/-! ### weirkeeperlaw02_awake: function 11, BY HAND -/
-- IMPORT Hand
def weirkeeperlaw02_awake.f : Option (Bool) := some true
def sA : ByteArray := ⟨#[49, 50, 51, 52, 53, 54, 55, 56, 57]⟩
def sB : ByteArray := ⟨#[49, 50, 51, 52]⟩
def sC : ByteArray := ⟨#[53, 54, 55, 56, 57]⟩
theorem sum_A : check_Sum.f 9 [sA] = some 2215682 := by
  decide +kernel
theorem sum_N : check_Sum.f 9 [] = some 11994318 := by
  decide +kernel
theorem sum_B : check_Sum.f 9 [sB, sC] = some 2215682 := by
  decide +kernel
theorem no_strings {w : World} : Kd.C Kd.string w none ([] : List ByteArray).length [] := ⟨rfl, by simp, fun h => absurd h (by simp)⟩
theorem tab0 : Hand.tabI 0 = 0 := by decide +kernel
theorem tab1 : Hand.tabI 1 = 8801531 := by decide +kernel
section
variable {P : Program} {ops : Array Oper} {rest : List Oper} {o : Oper} {a : Act} {Q : Exit → Act → World → Prop} {w : World}
theorem store_row_event (hgd : o.guard = none) (ty : TypeId) (x y : Operand) (ho : o.op = .store ty x y)
    (g : Nat) (cells : Array Value) (hx : a.eval x = .pointer (some ⟨g, 0, none⟩)) (hy : a.eval y = .agg cells)
    (t : TypeId) (old : Array Value) (hg : w.heap[g]? = some (.cells old t (0, 0))) (hi : (P.info? ty).map (·.size) = some cells.size)
    (hold : old.size = cells.size) (h1 : cells.all (·.oneCell') = true)
    (h : ∀ w1, w1.heap[g]? = some (.cells cells t (0, 0)) → (∀ (w0 : World), Below w0.heap.size w0 w → w0.heap.size ≤ g → Below w0.heap.size w0 w1) → wpList P ops Q rest (a.put o.dst undef) w1) : wpList P ops Q (o :: rest) a w :=
  wpList_store_row hgd ty x y ho g cells hx hy t old hg hi hold h1 (h _ (setRow_heap w g old cells t (0, 0) hg) (fun _ hb hle => below_setRow hb hle cells))
end
set_option maxRecDepth 100000 in
set_option maxHeartbeats 1000000 in
theorem weirkeeperlaw02_awake.calls (r : Bool) (w : World) (h : weirkeeperlaw02_awake.f = some r) :
    Calls Try.prog 11 #[] w fun e w' => e = .returned (.bool r) ∧ Below w.heap.size w w' := by
  obtain rfl := Option.some.inj h
  clear h
  go_enter Try.func11, Try.ntmps11
  go_wp2_with (first | (go_at_call 16; refine (Hand.table_calls _).mono ?_; rintro e w1 ⟨rfl, hb⟩; have HB := Aside0.mk hb; clear hb) | ((with_reducible refine gate_dst (N := 1) rfl ?_); refine box_event ?hg (N := 1) ?hd (cs := Hand.zeros) (t := 34) ?hr ?_; (case hd => rfl); (case hg => rfl); (case hr => kernel_rfl); intro g0 hg0 w2 hbox0 hb0; have BK := Aside0.mk hbox0; have GE := Aside0.mk (show w.heap.size ≤ g0 by rw [hg0]; exact below_size HB.out); have n1 := Aside0.mk (below_step HB.out hb0); clear HB; have HB := n1; clear n1 hbox0 hb0 hg0) | (with_reducible refine store_row_event rfl 34 _ _ rfl _ (Hand.tabV 256) rfl rfl 34 Hand.zeros BK.out (Hand.tab_info 256) (Hand.tab_hold 256) (Hand.tab_one 256) ?_; intro w3 hk hbel; clear BK; have BK := Aside0.mk hk; have n1 := Aside0.mk (hbel w HB.out GE.out); clear HB; have HB := n1; clear n1 hk hbel) | ((with_reducible refine gate_dst (N := 3) rfl ?_); refine Kd.R_lit Kd.string _ 9 ?hg (N := 3) ?hd (xs := [sA]) (inner := [.string sA]) (ok := fun _ => True) (okp := fun _ => True) ?hr ?hp (fun _ hk => hk) trivial (Below.refl _ _) (Nat.le_refl _) (by simp) ?_; (case hd => rfl); (case hg => rfl); (case hr => first | (go_simp; done) | (go_simp; rfl)); (case hp => exact Reps.one rfl (Reps.none _ _)); intro v4 w4 ho hb hg_ hnew_; clear hg_ hnew_; obtain ⟨Ao, co, eo⟩ := Kd.R_slice ho; subst eo; have HO := Aside0.mk ho; have n1 := Aside0.mk (below_step HB.out hb); have n2 := Aside0.mk (blk_below BK.out hb); clear HB BK; have HB := n1; have BK := n2; clear n1 n2 hb ho) | ((with_reducible refine gate_dst (N := 4) rfl ?_); (try (refine gate_guard (by rfl) ?_; dsimp only)); refine goesL_ (some 4) rfl rfl Try.func12 (by kernel_rfl) rfl #[.slice Ao [sA].length co] rfl (by (try simp only [List.map_toArray, List.map_cons, List.map_nil]); first | done | rfl) ?_; (with_reducible refine (check_Sum.calls 9 Ao co [sA] 2215682 _ (Kd.R_reads' HO.out).2.2 (Kd.R_reads' HO.out).2.1 sum_A).mono ?_); rintro e w_ ⟨rfl, hb⟩; refine ⟨_, rfl, ?_⟩; clear HO; have n1 := Aside0.mk (below_step HB.out hb); have n2 := Aside0.mk (blk_below BK.out hb); clear HB BK; have HB := n1; have BK := n2; clear n1 n2 hb) | ((with_reducible refine gate_dst (N := 7) rfl ?_); (try (refine gate_guard (by rfl) ?_; dsimp only)); refine goesL_ (some 7) rfl rfl Try.func12 (by kernel_rfl) rfl #[.slice none ([] : List ByteArray).length 0] rfl (by (try simp only [List.map_toArray, List.map_cons, List.map_nil]); first | done | rfl) ?_; (with_reducible refine (check_Sum.calls 9 none 0 [] 11994318 _ no_strings (Nat.le_refl _) sum_N).mono ?_); rintro e w_ ⟨rfl, hb⟩; refine ⟨_, rfl, ?_⟩; have n1 := Aside0.mk (below_step HB.out hb); have n2 := Aside0.mk (blk_below BK.out hb); clear HB BK; have HB := n1; have BK := n2; clear n1 n2 hb) | ((with_reducible refine gate_dst (N := 11) rfl ?_); (try (refine gate_guard (by rfl) ?_; dsimp only)); refine Kd.R_lit Kd.string _ 9 ?hg (N := 11) ?hd (xs := [sB, sC]) (inner := [.string sB, .string sC]) (ok := fun _ => True) (okp := fun _ => True) ?hr ?hp (fun _ hk => hk) trivial (Below.refl _ _) (Nat.le_refl _) (by simp) ?_; (case hd => rfl); (case hg => rfl); (case hr => first | (go_simp; done) | (go_simp; rfl)); (case hp => exact Reps.one rfl (Reps.one rfl (Reps.none _ _))); intro v7 w7 ho hb hg_ hnew_; clear hg_ hnew_; obtain ⟨Ap, cp, ep⟩ := Kd.R_slice ho; subst ep; have HP := Aside0.mk ho; clear ho; have n1 := Aside0.mk (below_step HB.out hb); have n2 := Aside0.mk (blk_below BK.out hb); clear HB BK; have HB := n1; have BK := n2; clear n1 n2 hb) | ((with_reducible refine gate_dst (N := 12) rfl ?_); (try (refine gate_guard (by rfl) ?_; dsimp only)); refine goesL_ (some 12) rfl rfl Try.func12 (by kernel_rfl) rfl #[.slice Ap [sB, sC].length cp] rfl (by (try simp only [List.map_toArray, List.map_cons, List.map_nil]); first | done | rfl) ?_; (with_reducible refine (check_Sum.calls 9 Ap cp [sB, sC] 2215682 _ (Kd.R_reads' HP.out).2.2 (Kd.R_reads' HP.out).2.1 sum_B).mono ?_); rintro e w_ ⟨rfl, hb⟩; refine ⟨_, rfl, ?_⟩; clear HP; have n1 := Aside0.mk (below_step HB.out hb); have n2 := Aside0.mk (blk_below BK.out hb); clear HB BK; have HB := n1; have BK := n2; clear n1 n2 hb; have hz0 := (blk_cell BK.out 0).trans ((Hand.tabV_get 256 0 (by decide)).trans (by rw [if_pos (by decide), tab0])); have hz1 := (blk_cell BK.out 1).trans ((Hand.tabV_get 256 1 (by decide)).trans (by rw [if_pos (by decide), tab1]))))
  go_ret
  exact ⟨rfl, HB.out⟩

end Go.Proofs.Ytjldikjnljidbaa.X
