-- Written by a program of this session (wip/tools/xprint.py) out of the translation. Not trusted: Lean checks it.
import Derived.Test.YtgjngaeoojcioaaXx0
import Derived.Test.YtgjngaeoojcioaaXx1
import Derived.Test.YtgjngaeoojcioaaXx10
import Derived.Test.YtgjngaeoojcioaaXx11
import Derived.Test.YtgjngaeoojcioaaXx12
import Derived.Test.YtgjngaeoojcioaaXx13
namespace Go.Proofs.Ytgjngaeoojcioaa.X
open Go.RowKit Go.Proofs.YtgjngaeoojcioaaW.PrintWords Go.Proofs.YtgjngaeoojcioaaW.PrintLast Go.Proofs.YtgjngaeoojcioaaW.PrintMore
attribute [local go_sem] max2_int min2_int max_two min_two max_three min_three max_four min_four max2_str min2_str   -- for this text's walks alone
set_option linter.unusedVariables false
set_option linter.unusedSimpArgs false

attribute [local go_sem high] eqA27
/-! ### weirkeeperlaw14_CacheKeeps: function 5 -/
mutual
def weirkeeperlaw14_CacheKeeps.l0 : Nat → List Int → Int → List (S27) → List Int → Int → Int → Int → List (S27) → Option (Bool)
  | 0, _, _, _, _, _, _, _, _ => none
  | k + 1, x1, x6, x7, x36, x37, x38, x414000, x414001 => if x38 < x37 then (if 0 ≤ x38 then (if x38 < (x36.length : Int) then (if x38 ≤ (x1.length : Int) then (weirkeeperlaw14_CacheKeeps.l1 k x1 x6 x7 (rd x36 x38) x36 x37 x38 (x1.take (x38 : Int).toNat) ((x1.take (x38 : Int).toNat).length : Int) 0 x414000 x414001) else (none)) else (none)) else (none)) else ((cache_Put.f k x414000 x414001 x7).bind fun bt421 => ((cache_Clean.f k bt421.1 bt421.2.1).bind fun bt429 => ((some (([] : List (S27)) : List (S27))).bind fun y437 => (if y437.length + bt421.2.2.1.length < 4398046511104 then ((some (y437 ++ bt421.2.2.1 : List (S27))).bind fun y440 => (if y440.length + bt429.2.2.length < 4398046511104 then (weirkeeperlaw14_CacheKeeps.l2 k x6 x7 bt421.2.2.2 (y440 ++ bt429.2.2) x7 (x7.length : Int) 0 bt421.1 bt421.2.1 bt429.1 bt429.2.1) else (none))) else (none)))))
def weirkeeperlaw14_CacheKeeps.l1 : Nat → List Int → Int → List (S27) → Int → List Int → Int → Int → List Int → Int → Int → Int → List (S27) → Option (Bool)
  | 0, _, _, _, _, _, _, _, _, _, _, _, _ => none
  | k + 1, x1, x6, x7, x9, x36, x37, x38, x45, x46, x47, x414000, x414001 => if x47 < x46 then (if 0 ≤ x47 then (if x47 < (x45.length : Int) then (if x9 = (rd x45 x47) then ((weirkeeperlaw14_awake.f k).bind fun t417 => (some t417)) else (weirkeeperlaw14_CacheKeeps.l1 k x1 x6 x7 x9 x36 x37 x38 x45 x46 (wrap64 (x47 + 1)) x414000 x414001)) else (none)) else (none)) else (if x7.length < 4398046511104 then (weirkeeperlaw14_CacheKeeps.l0 k x1 x6 (x7 ++ [(⟨x9, (⟨#[]⟩ : ByteArray), true⟩ : S27)]) x36 x37 (wrap64 (x38 + 1)) x414000 x414001) else (none))
def weirkeeperlaw14_CacheKeeps.l2 : Nat → Int → List (S27) → Int → List (S27) → List (S27) → Int → Int → Int → List (S27) → Int → List (S27) → Option (Bool)
  | 0, _, _, _, _, _, _, _, _, _, _, _ => none
  | k + 1, x6, x7, x13, x16, x79, x80, x81, x414000, x414001, x437000, x437001 => if x81 < x80 then (if 0 ≤ x81 then (if x81 < (x79.length : Int) then (weirkeeperlaw14_CacheKeeps.l3 k x6 x7 x13 x16 0 x79 x80 x81 x16 (x16.length : Int) 0 x414000 x414001 x437000 x437001 ((rd_T27 x79 x81).f0) ((rd_T27 x79 x81).f1) ((rd_T27 x79 x81).f2)) else (none)) else (none)) else ((cache_Clean.f k x437000 x437001).bind fun bt446 => (if x6 = 0 then (if x13 = 0 then (if (x16.length : Int) = (x7.length : Int) then (if (bt446.2.2.length : Int) = 0 then (if (x437001.length : Int) = (x414001.length : Int) then ((weirkeeperlaw14_awake.f k).bind fun t454 => (some t454)) else (none)) else (none)) else (none)) else (none)) else (none)))
def weirkeeperlaw14_CacheKeeps.l3 : Nat → Int → List (S27) → Int → List (S27) → Int → List (S27) → Int → Int → List (S27) → Int → Int → Int → List (S27) → Int → List (S27) → Int → ByteArray → Bool → Option (Bool)
  | 0, _, _, _, _, _, _, _, _, _, _, _, _, _, _, _, _, _, _ => none
  | k + 1, x6, x7, x13, x16, x19, x79, x80, x81, x85, x86, x87, x414000, x414001, x437000, x437001, x457000, x457001, x457002 => if x87 < x86 then (if 0 ≤ x87 then (if x87 < (x85.length : Int) then (if (((rd_T27 x85 x87).f0) == x457000 && ((((rd_T27 x85 x87).f1).toList) == x457001.toList && (((rd_T27 x85 x87).f2) == x457002))) = true then (weirkeeperlaw14_CacheKeeps.l3 k x6 x7 x13 x16 (wrap64 (x19 + 1)) x79 x80 x81 x85 x86 (wrap64 (x87 + 1)) x414000 x414001 x437000 x437001 x457000 x457001 x457002) else (weirkeeperlaw14_CacheKeeps.l3 k x6 x7 x13 x16 x19 x79 x80 x81 x85 x86 (wrap64 (x87 + 1)) x414000 x414001 x437000 x437001 x457000 x457001 x457002)) else (none)) else (none)) else (if x19 = 1 then (weirkeeperlaw14_CacheKeeps.l2 k x6 x7 x13 x16 x79 x80 (wrap64 (x81 + 1)) x414000 x414001 x437000 x437001) else (none))
end
def weirkeeperlaw14_CacheKeeps.f (k : Nat) (a0 : Int) (l1 : List Int) : Option (Bool) := if (l1.length : Int) > 60 then ((weirkeeperlaw14_awake.f k).bind fun t407 => (some t407)) else ((cache_New.f (wrap64 (1 + (wrap64 (Int.tmod a0 20))))).bind fun bt408 => (weirkeeperlaw14_CacheKeeps.l0 k l1 bt408.2.2 ([] : List (S27)) l1 (l1.length : Int) 0 bt408.1 bt408.2.1))
theorem weirkeeperlaw14_CacheKeeps.mono_l : ∀ k, (∀ y0 y1 y2 y3 y4 y5 y6 y7, LeO (weirkeeperlaw14_CacheKeeps.l0 k y0 y1 y2 y3 y4 y5 y6 y7) (weirkeeperlaw14_CacheKeeps.l0 (k + 1) y0 y1 y2 y3 y4 y5 y6 y7)) ∧ (∀ y0 y1 y2 y3 y4 y5 y6 y7 y8 y9 y10 y11, LeO (weirkeeperlaw14_CacheKeeps.l1 k y0 y1 y2 y3 y4 y5 y6 y7 y8 y9 y10 y11) (weirkeeperlaw14_CacheKeeps.l1 (k + 1) y0 y1 y2 y3 y4 y5 y6 y7 y8 y9 y10 y11)) ∧ (∀ y0 y1 y2 y3 y4 y5 y6 y7 y8 y9 y10, LeO (weirkeeperlaw14_CacheKeeps.l2 k y0 y1 y2 y3 y4 y5 y6 y7 y8 y9 y10) (weirkeeperlaw14_CacheKeeps.l2 (k + 1) y0 y1 y2 y3 y4 y5 y6 y7 y8 y9 y10)) ∧ (∀ y0 y1 y2 y3 y4 y5 y6 y7 y8 y9 y10 y11 y12 y13 y14 y15 y16 y17, LeO (weirkeeperlaw14_CacheKeeps.l3 k y0 y1 y2 y3 y4 y5 y6 y7 y8 y9 y10 y11 y12 y13 y14 y15 y16 y17) (weirkeeperlaw14_CacheKeeps.l3 (k + 1) y0 y1 y2 y3 y4 y5 y6 y7 y8 y9 y10 y11 y12 y13 y14 y15 y16 y17))
  | 0 => ⟨fun _ _ _ _ _ _ _ _ r h => by simp [weirkeeperlaw14_CacheKeeps.l0] at h, fun _ _ _ _ _ _ _ _ _ _ _ _ r h => by simp [weirkeeperlaw14_CacheKeeps.l1] at h, fun _ _ _ _ _ _ _ _ _ _ _ r h => by simp [weirkeeperlaw14_CacheKeeps.l2] at h, fun _ _ _ _ _ _ _ _ _ _ _ _ _ _ _ _ _ _ r h => by simp [weirkeeperlaw14_CacheKeeps.l3] at h⟩
  | k + 1 => by
    obtain ⟨ih0, ih1, ih2, ih3⟩ := weirkeeperlaw14_CacheKeeps.mono_l k
    refine ⟨?_, ?_, ?_, ?_⟩
    · intro y0 y1 y2 y3 y4 y5 y6 y7
      unfold weirkeeperlaw14_CacheKeeps.l0
      repeat' first
      | (with_reducible exact ih0 _ _ _ _ _ _ _ _)
      | (with_reducible exact ih1 _ _ _ _ _ _ _ _ _ _ _ _)
      | (with_reducible exact ih2 _ _ _ _ _ _ _ _ _ _ _)
      | (with_reducible exact ih3 _ _ _ _ _ _ _ _ _ _ _ _ _ _ _ _ _ _)
      | (with_reducible exact cache_Clean.mono _ _ _)
      | (with_reducible exact cache_Put.mono _ _ _ _)
      | (with_reducible exact weirkeeperlaw14_awake.mono _)
      | (with_reducible exact LeO.refl _)
      | (with_reducible exact LeO.none _)
      | (with_reducible refine LeO.ite ?_ ?_)
      | (with_reducible refine LeO.bind ?_ (fun _ => ?_))
      | exact ih0 _ _ _ _ _ _ _ _
      | exact ih1 _ _ _ _ _ _ _ _ _ _ _ _
      | exact ih2 _ _ _ _ _ _ _ _ _ _ _
      | exact ih3 _ _ _ _ _ _ _ _ _ _ _ _ _ _ _ _ _ _
      | exact cache_Clean.mono _ _ _
      | exact cache_Put.mono _ _ _ _
      | exact weirkeeperlaw14_awake.mono _
      | exact LeO.none _
      | refine LeO.ite ?_ ?_
      | refine LeO.bind ?_ (fun _ => ?_)
    · intro y0 y1 y2 y3 y4 y5 y6 y7 y8 y9 y10 y11
      unfold weirkeeperlaw14_CacheKeeps.l1
      repeat' first
      | (with_reducible exact ih0 _ _ _ _ _ _ _ _)
      | (with_reducible exact ih1 _ _ _ _ _ _ _ _ _ _ _ _)
      | (with_reducible exact ih2 _ _ _ _ _ _ _ _ _ _ _)
      | (with_reducible exact ih3 _ _ _ _ _ _ _ _ _ _ _ _ _ _ _ _ _ _)
      | (with_reducible exact cache_Clean.mono _ _ _)
      | (with_reducible exact cache_Put.mono _ _ _ _)
      | (with_reducible exact weirkeeperlaw14_awake.mono _)
      | (with_reducible exact LeO.refl _)
      | (with_reducible exact LeO.none _)
      | (with_reducible refine LeO.ite ?_ ?_)
      | (with_reducible refine LeO.bind ?_ (fun _ => ?_))
      | exact ih0 _ _ _ _ _ _ _ _
      | exact ih1 _ _ _ _ _ _ _ _ _ _ _ _
      | exact ih2 _ _ _ _ _ _ _ _ _ _ _
      | exact ih3 _ _ _ _ _ _ _ _ _ _ _ _ _ _ _ _ _ _
      | exact cache_Clean.mono _ _ _
      | exact cache_Put.mono _ _ _ _
      | exact weirkeeperlaw14_awake.mono _
      | exact LeO.none _
      | refine LeO.ite ?_ ?_
      | refine LeO.bind ?_ (fun _ => ?_)
    · intro y0 y1 y2 y3 y4 y5 y6 y7 y8 y9 y10
      unfold weirkeeperlaw14_CacheKeeps.l2
      repeat' first
      | (with_reducible exact ih0 _ _ _ _ _ _ _ _)
      | (with_reducible exact ih1 _ _ _ _ _ _ _ _ _ _ _ _)
      | (with_reducible exact ih2 _ _ _ _ _ _ _ _ _ _ _)
      | (with_reducible exact ih3 _ _ _ _ _ _ _ _ _ _ _ _ _ _ _ _ _ _)
      | (with_reducible exact cache_Clean.mono _ _ _)
      | (with_reducible exact cache_Put.mono _ _ _ _)
      | (with_reducible exact weirkeeperlaw14_awake.mono _)
      | (with_reducible exact LeO.refl _)
      | (with_reducible exact LeO.none _)
      | (with_reducible refine LeO.ite ?_ ?_)
      | (with_reducible refine LeO.bind ?_ (fun _ => ?_))
      | exact ih0 _ _ _ _ _ _ _ _
      | exact ih1 _ _ _ _ _ _ _ _ _ _ _ _
      | exact ih2 _ _ _ _ _ _ _ _ _ _ _
      | exact ih3 _ _ _ _ _ _ _ _ _ _ _ _ _ _ _ _ _ _
      | exact cache_Clean.mono _ _ _
      | exact cache_Put.mono _ _ _ _
      | exact weirkeeperlaw14_awake.mono _
      | exact LeO.none _
      | refine LeO.ite ?_ ?_
      | refine LeO.bind ?_ (fun _ => ?_)
    · intro y0 y1 y2 y3 y4 y5 y6 y7 y8 y9 y10 y11 y12 y13 y14 y15 y16 y17
      unfold weirkeeperlaw14_CacheKeeps.l3
      repeat' first
      | (with_reducible exact ih0 _ _ _ _ _ _ _ _)
      | (with_reducible exact ih1 _ _ _ _ _ _ _ _ _ _ _ _)
      | (with_reducible exact ih2 _ _ _ _ _ _ _ _ _ _ _)
      | (with_reducible exact ih3 _ _ _ _ _ _ _ _ _ _ _ _ _ _ _ _ _ _)
      | (with_reducible exact cache_Clean.mono _ _ _)
      | (with_reducible exact cache_Put.mono _ _ _ _)
      | (with_reducible exact weirkeeperlaw14_awake.mono _)
      | (with_reducible exact LeO.refl _)
      | (with_reducible exact LeO.none _)
      | (with_reducible refine LeO.ite ?_ ?_)
      | (with_reducible refine LeO.bind ?_ (fun _ => ?_))
      | exact ih0 _ _ _ _ _ _ _ _
      | exact ih1 _ _ _ _ _ _ _ _ _ _ _ _
      | exact ih2 _ _ _ _ _ _ _ _ _ _ _
      | exact ih3 _ _ _ _ _ _ _ _ _ _ _ _ _ _ _ _ _ _
      | exact cache_Clean.mono _ _ _
      | exact cache_Put.mono _ _ _ _
      | exact weirkeeperlaw14_awake.mono _
      | exact LeO.none _
      | refine LeO.ite ?_ ?_
      | refine LeO.bind ?_ (fun _ => ?_)
theorem weirkeeperlaw14_CacheKeeps.mono : ∀ a0 a1 k, LeO (weirkeeperlaw14_CacheKeeps.f k a0 a1) (weirkeeperlaw14_CacheKeeps.f (k + 1) a0 a1) := by
  intro a0 a1 k
  obtain ⟨ih0, ih1, ih2, ih3⟩ := weirkeeperlaw14_CacheKeeps.mono_l k
  unfold weirkeeperlaw14_CacheKeeps.f
  repeat' first
      | (with_reducible exact ih0 _ _ _ _ _ _ _ _)
      | (with_reducible exact ih1 _ _ _ _ _ _ _ _ _ _ _ _)
      | (with_reducible exact ih2 _ _ _ _ _ _ _ _ _ _ _)
      | (with_reducible exact ih3 _ _ _ _ _ _ _ _ _ _ _ _ _ _ _ _ _ _)
      | (with_reducible exact cache_Clean.mono _ _ _)
      | (with_reducible exact cache_Put.mono _ _ _ _)
      | (with_reducible exact weirkeeperlaw14_awake.mono _)
      | (with_reducible exact LeO.refl _)
      | (with_reducible exact LeO.none _)
      | (with_reducible refine LeO.ite ?_ ?_)
      | (with_reducible refine LeO.bind ?_ (fun _ => ?_))
      | exact ih0 _ _ _ _ _ _ _ _
      | exact ih1 _ _ _ _ _ _ _ _ _ _ _ _
      | exact ih2 _ _ _ _ _ _ _ _ _ _ _
      | exact ih3 _ _ _ _ _ _ _ _ _ _ _ _ _ _ _ _ _ _
      | exact cache_Clean.mono _ _ _
      | exact cache_Put.mono _ _ _ _
      | exact weirkeeperlaw14_awake.mono _
      | exact LeO.none _
      | refine LeO.ite ?_ ?_
      | refine LeO.bind ?_ (fun _ => ?_)
set_option maxHeartbeats 8000000 in
set_option maxRecDepth 100000 in
theorem weirkeeperlaw14_CacheKeeps.calls (k : Nat) (a0 : Int) (A1 : Option Addr) (c1 : Nat) (l1 : List Int) (r : Bool) (w : World) (hr1 : Kd.C (Kd.int .i64) w A1 l1.length l1) (hc1 : l1.length ≤ c1) (h : weirkeeperlaw14_CacheKeeps.f k a0 l1 = some r) :
    Calls Try.prog 5 #[.int .u8 a0, .slice A1 l1.length c1] w fun e w' => e = .returned (.bool r) ∧ Below w.heap.size w w' := by
  have hu24 := Try.underlying24
  have hu27 := Try.underlying27
  have HR1 := Aside0.mk hr1
  have HC1 := Aside0.mk hc1
  clear hr1 hc1
  have HB := Aside0.mk (Below.refl w.heap.size w)
  have H : (if (l1.length : Int) > 60 then ((weirkeeperlaw14_awake.f k).bind fun t407 => (some t407)) else ((cache_New.f (wrap64 (1 + (wrap64 (Int.tmod a0 20))))).bind fun bt408 => (weirkeeperlaw14_CacheKeeps.l0 k l1 bt408.2.2 ([] : List (S27)) l1 (l1.length : Int) 0 bt408.1 bt408.2.1))) = some r := h
  clear h
  by_cases c3 : (l1.length : Int) > 60
  · rw [if_pos c3] at H
    have c3b0 : decide (60 < (l1.length : Int)) = true := decide_eq_true c3
    have c3b1 : decide (60 < l1.length) = true := decide_eq_true (by omega)
    clear c3
    replace H := Option.bind_eq_some_iff.mp H
    obtain ⟨t407, A40, H⟩ := H
    replace H : (some t407) = some r := H
    have A4 := Aside0.mk A40
    clear A40
    obtain rfl := Option.some.inj H
    go_enter Try.func5, Try.ntmps5
    go_wp2_with (first | ((with_reducible refine gate_callee (f := 9) rfl ?_); refine goesL_ (some 27) rfl rfl Try.func9 (by kernel_rfl) rfl #[] rfl (by (try simp only [List.map_toArray, List.map_cons, List.map_nil]); first | done | rfl | (simp only [List.length_drop, List.length_take]; rfl)) ?_; (with_reducible refine (weirkeeperlaw14_awake.calls k  t407 _ A4.out).mono ?_); rintro e w5 ⟨rfl, hb⟩; refine ⟨_, rfl, ?_⟩; have n0_ := Aside0.mk (below_step (by repeat (first | (with_reducible first | exact HB.out | apply below_alloc | apply pw_below_drewN | apply below_drew1) | exact HB.out)) hb); clear HB; have HB := n0_; clear n0_; (try clear hb); (try clear hb2); (try clear hk); (try clear hi)))
    go_ret
    exact ⟨by first | rfl | (simp [errW_none, errW_some] <;> rfl) | (simp [*, errW_none, errW_some] <;> rfl), by repeat (first | (with_reducible first | exact HB.out | apply below_alloc | apply pw_below_drewN | apply below_drew1) | exact HB.out)⟩
  · rw [if_neg c3] at H
    have c3b0 : decide (60 < (l1.length : Int)) = false := decide_eq_false c3
    have c3b1 : decide (60 < l1.length) = false := decide_eq_false (by omega)
    clear c3
    replace H := Option.bind_eq_some_iff.mp H
    obtain ⟨⟨t408, t409, t412⟩, A60, H⟩ := H
    replace H : (weirkeeperlaw14_CacheKeeps.l0 k l1 t412 ([] : List (S27)) l1 (l1.length : Int) 0 t408 t409) = some r := H
    have A6 := Aside0.mk A60
    clear A60
    have H' := Aside0.mk H
    clear H
    go_enter Try.func5, Try.ntmps5
    go_wp2_with (first | ((with_reducible refine gate_callee (f := 21) rfl ?_); refine goesL_ (some 33) rfl rfl Try.func21 (by kernel_rfl) rfl #[.int .i64 (wrap64 (1 + (wrap64 (Int.tmod a0 20))))] rfl (by (try simp only [List.map_toArray, List.map_cons, List.map_nil]); first | done | rfl | (simp only [List.length_drop, List.length_take]; rfl)) ?_; (with_reducible refine (cache_New.calls (wrap64 (1 + (wrap64 (Int.tmod a0 20)))) t408 t409 t412 _ A6.out).mono ?_); rintro e w7 ⟨v410, rfl, ho0, hb⟩; refine ⟨_, rfl, ?_⟩; have n0_ := Aside0.mk (Kd.R_lower ho0 (below_size (by repeat (first | (with_reducible first | exact HB.out | apply below_alloc | apply pw_below_drewN | apply below_drew1) | exact HB.out)))); have n1_ := Aside0.mk (below_step (by repeat (first | (with_reducible first | exact HB.out | apply below_alloc | apply pw_below_drewN | apply below_drew1) | exact HB.out)) hb); clear HB; have HO411 := n0_; have HB := n1_; clear n0_ n1_; (try clear hb); (try clear hb2); (try clear hk); (try clear hi); (try clear ho0)) | ((with_reducible refine gate_dst (N := 5) rfl ?_); (try (refine gate_guard (by rfl) ?_; dsimp only)); refine box_event ?hg (N := 5) ?hd (cs := #[.int .i64 0, .slice none 0 0]) (t := 24) ?hr ?_; (case hd => rfl); (case hg => rfl); (case hr => first | (go_simp; done) | (go_simp; rfl)); intro gb413 hg w8 hbox hb; have n0_ := Aside0.mk (Kd.R_below (by (with_reducible repeat (first | apply Kd.R_alloc | apply Kd.R_drewN | apply Kd.R_drew)); exact HO411.out) hb); have n1_ := Aside0.mk (below_step (by repeat (first | (with_reducible first | exact HB.out | apply below_alloc | apply pw_below_drewN | apply below_drew1) | exact HB.out)) hb); have n2_ := Aside0.mk (hbox); have n3_ := Aside0.mk ((by rw [hg]; exact (below_size (by repeat (first | (with_reducible first | exact HB.out | apply below_alloc | apply pw_below_drewN | apply below_drew1) | exact HB.out))) : w.heap.size ≤ gb413)); have n4_ := Aside0.mk ((by rw [hg]; exact (below_size (by repeat (first | (with_reducible first | exact HB.out | apply below_alloc | apply pw_below_drewN | apply below_drew1) | exact HB.out))) : w.heap.size ≤ gb413)); clear HO411; clear HB; have HO411 := n0_; have HB := n1_; have BK413 := n2_; have GW413 := n3_; have GE413 := n4_; clear n0_ n1_ n2_ n3_ n4_; clear hb hbox hg; have hcz9_0 : w8.cell? ⟨gb413, 0, none⟩ = some (.int .i64 0) := (blk_cell BK413.out 0).trans rfl; have hcz9_1 : w8.cell? ⟨gb413, 1, none⟩ = some (.slice none 0 0) := (blk_cell BK413.out 1).trans rfl; have hfz9_0 := blk_frozen BK413.out 0; have hfz9_1 := blk_frozen BK413.out 1; obtain ⟨Ao10, co10, eo10⟩ := Kd.R_slice HO411.out; subst eo10))
    go_loopg [7, 38] k (fun kq v7 v38 w' => ∃ (x7_1 : List (S27)) (x38_1 : Int), v38 = .int .i64 x38_1 ∧ Aside0 (weirkeeperlaw14_CacheKeeps.l0 kq l1 t412 x7_1 l1 (l1.length : Int) x38_1 t408 t409 = some r) ∧ Aside0 (kq ≤ k) ∧ Aside0 (Kd.R k27 27 w' w.heap.size (fun k_ => some k_ ≠ ((.slice Ao10 t409.length co10) : Value).ownBlock) v7 x7_1) ∧ Aside0 (Kd.R k27 27 w' w.heap.size (fun k_ => some k_ ≠ (v7 : Value).ownBlock) (.slice Ao10 t409.length co10) t409) ∧ Aside0 (w'.heap[gb413]? = some (.cells #[.int .i64 t408, (.slice Ao10 t409.length co10)] 24 (0, 0))) ∧ Aside0 (Below w.heap.size w w'))
    case atStart => exact ⟨(([] : List (S27))), (0), (by first | rfl | (simp; done) | (simp [*]; done)), H', ⟨Nat.le_refl _⟩, ⟨by first | exact Kd.R_nil _ _ _ _ _ | exact Kd.N_nil _ _ _ _ _ | exact Kd.V_nil _ _ _ _ _ | exact Kd.Q_nil _ _ _ _ _ | exact Kd.S_nil _ _ _ _ _⟩, ⟨by (with_reducible repeat (first | apply Kd.R_alloc | apply Kd.R_drewN | apply Kd.R_drew)); exact Kd.R_mono (Kd.R_far (p := ⟨gb413, 1, none⟩) (Kd.R_far (p := ⟨gb413, 0, none⟩) (Kd.R_types HO411.out BK413.out (by decide)) (fun _ hk => hk.2) (.int .i64 t408)) (fun _ hk => hk.2) (.slice Ao10 t409.length co10)) (fun _ hk => (by simp [Value.ownBlock]))⟩, ⟨by (with_reducible repeat (first | refine blk_drewN ?_ _ | refine blk_drew ?_ | refine blk_alloc ?_ _)); refine blk_put (cs := #[.int .i64 t408, .slice none 0 0]) ?_ 1 _ rfl; (with_reducible repeat (first | refine blk_drewN ?_ _ | refine blk_drew ?_ | refine blk_alloc ?_ _)); refine blk_put (cs := #[.int .i64 0, .slice none 0 0]) ?_ 0 _ rfl; (with_reducible repeat (first | refine blk_drewN ?_ _ | refine blk_drew ?_ | refine blk_alloc ?_ _)); exact BK413.out⟩, ⟨by repeat (first | (with_reducible first | exact HB.out | apply below_alloc | apply pw_below_drewN | apply below_drew1 | refine below_set ?_ GE413.out) | exact HB.out)⟩⟩
    case round =>
      clear H'
      try clear c1
      try clear c2
      try clear p2
      try clear c3
      try clear c3b0
      try clear c3b1
      try clear c5
      try clear p6
      try clear c9
      try clear hcz9_0
      try clear hcz9_1
      try clear hfz9_0
      try clear hfz9_1
      obtain ⟨x7_1, x38_1, rfl, HA, HK1, HO_7, HO_414001, BK413, HB⟩ := hrel
      cases gk with
      | zero => exact absurd HA.out (by simp [weirkeeperlaw14_CacheKeeps.l0])
      | succ k1 =>
        have H := HA.out
        clear HA
        simp only [weirkeeperlaw14_CacheKeeps.l0] at H
        by_cases c11 : x38_1 < (l1.length : Int)
        · rw [if_pos c11] at H
          have c11b0 : decide (x38_1 < (l1.length : Int)) = true := decide_eq_true c11
          clear c11
          by_cases c12 : 0 ≤ x38_1
          · rw [if_pos c12] at H
            have c12b0 : decide (0 ≤ x38_1) = true := decide_eq_true c12
            clear c12
            by_cases c13 : x38_1 < (l1.length : Int)
            · rw [if_pos c13] at H
              have c13b0 : decide (x38_1 < (l1.length : Int)) = true := decide_eq_true c13
              clear c13
              have c14b0 := eq_true (of_decide_eq_true (by first | (with_reducible assumption) | assumption) : 0 ≤ x38_1)
              by_cases c15 : x38_1 ≤ (l1.length : Int)
              · rw [if_pos c15] at H
                have c15b0 := eq_true c15
                have c15b1 : decide (x38_1 ≤ (l1.length : Int)) = true := decide_eq_true c15
                clear c15
                have H' := Aside0.mk H
                clear H
                have p414 : 0 ≤ (x38_1 : Int) := of_decide_eq_true (by first | (with_reducible assumption) | assumption)
                have q414 : x38_1 < (l1.length : Int) := of_decide_eq_true (by first | (with_reducible assumption) | assumption)
                obtain ⟨ad414, e414, hx414_0⟩ := Kd.at_int HR1.out x38_1 p414 q414
                cases e414
                replace hx414_0 := (HB.out.cell (World.block_lt_of_cell? w _ hx414_0)).trans hx414_0
                replace p414 := eq_true p414
                replace q414 := eq_true q414
                obtain ⟨i016, hi016, _, hsz16, _⟩ := info_parts info3
                obtain ⟨hcut16, hA16, hC16⟩ := print_take_of (P := Try.prog) (Value.int .i64) 0 55 3 .i64 Try.underlying55 hi016 hsz16 (some ad414) c1 l1 x38_1 (of_decide_eq_true (by first | (with_reducible assumption) | assumption)) (of_decide_eq_true (by first | (with_reducible assumption) | assumption)) HC1.out
                have HR415 := Aside0.mk (Kd.C_of_reads (h1 := fun _ => rfl) (hA16 _ (Kd.reads_of_C HR1.out)))
                have HC415 := Aside0.mk hC16
                clear hA16 hC16 hi016 hsz16
                have hmx_ := Aside0.mk (show ((l1.take (x38_1 : Int).toNat).length : Int) = max x38_1 0 from by rw [List.length_take]; have h1_ := of_eq_true p414; have h2_ := of_eq_true c15b0; omega)
                go_wp2
                go_loopg [47] k1 (fun kq v47 w' => ∃ (x47_2 : Int), v47 = .int .i64 x47_2 ∧ Aside0 (weirkeeperlaw14_CacheKeeps.l1 kq l1 t412 x7_1 (rd l1 x38_1) l1 (l1.length : Int) x38_1 (l1.take (x38_1 : Int).toNat) ((l1.take (x38_1 : Int).toNat).length : Int) x47_2 t408 t409 = some r) ∧ Aside0 (kq ≤ k1) ∧ Aside0 (Kd.R k27 27 w' w.heap.size (fun k_ => some k_ ≠ ((.slice Ao10 t409.length co10) : Value).ownBlock) u7 x7_1) ∧ Aside0 (Kd.R k27 27 w' w.heap.size (fun k_ => some k_ ≠ (u7 : Value).ownBlock) (.slice Ao10 t409.length co10) t409) ∧ Aside0 (w'.heap[gb413]? = some (.cells #[.int .i64 t408, (.slice Ao10 t409.length co10)] 24 (0, 0))) ∧ Aside0 (Below w.heap.size w w'))
                case atStart => exact ⟨(0), (by first | rfl | (simp; done) | (simp [*]; done)), H', ⟨Nat.le_refl _⟩, ⟨by (with_reducible repeat (first | apply Kd.R_alloc | apply Kd.R_drewN | apply Kd.R_drew)); exact HO_7.out⟩, ⟨by (with_reducible repeat (first | apply Kd.R_alloc | apply Kd.R_drewN | apply Kd.R_drew)); exact HO_414001.out⟩, ⟨by (with_reducible repeat (first | refine blk_drewN ?_ _ | refine blk_drew ?_ | refine blk_alloc ?_ _)); exact BK413.out⟩, ⟨by repeat (first | (with_reducible first | exact HB.out | apply below_alloc | apply pw_below_drewN | apply below_drew1 | refine below_set ?_ GE413.out) | exact HB.out)⟩⟩
                case round =>
                  clear H'
                  try clear c1
                  try clear c2
                  try clear p2
                  try clear c3
                  try clear c3b0
                  try clear c3b1
                  try clear p4
                  try clear q4
                  try clear hx4
                  try clear c5
                  try clear p6
                  try clear c9
                  try clear c11
                  try clear c11b0
                  try clear c12
                  try clear c12b0
                  try clear c13
                  try clear c13b0
                  try clear c14
                  try clear c14b0
                  try clear c15
                  try clear c15b0
                  try clear c15b1
                  try clear hcz9_0
                  try clear hcz9_1
                  try clear hfz9_0
                  try clear hfz9_1
                  try clear hx414_0
                  try clear p2
                  try clear p414
                  try clear p6
                  try clear q414
                  obtain ⟨x47_2, rfl, HA, HK2, HO_7, HO_414001, BK413, HB⟩ := hrel
                  cases gk with
                  | zero => exact absurd HA.out (by simp [weirkeeperlaw14_CacheKeeps.l1])
                  | succ k2 =>
                    have H := HA.out
                    clear HA
                    simp only [weirkeeperlaw14_CacheKeeps.l1] at H
                    by_cases c17 : x47_2 < ((l1.take (x38_1 : Int).toNat).length : Int)
                    · rw [if_pos c17] at H
                      have c17b0 : decide (x47_2 < ((l1.take (x38_1 : Int).toNat).length : Int)) = true := decide_eq_true c17
                      have c17m : decide (x47_2 < max x38_1 0) = true := (by rw [← hmx_.out]; exact c17b0)
                      have c17q : (x47_2 < max x38_1 0) = True := eq_true (of_decide_eq_true c17m)
                      have c17r : (max x38_1 0 ≤ x47_2) = False := eq_false (by have h_ := of_decide_eq_true c17m; omega)
                      clear c17
                      by_cases c18 : 0 ≤ x47_2
                      · rw [if_pos c18] at H
                        have c18b0 : decide (0 ≤ x47_2) = true := decide_eq_true c18
                        clear c18
                        by_cases c19 : x47_2 < ((l1.take (x38_1 : Int).toNat).length : Int)
                        · rw [if_pos c19] at H
                          have c19b0 : decide (x47_2 < ((l1.take (x38_1 : Int).toNat).length : Int)) = true := decide_eq_true c19
                          have c19m : decide (x47_2 < max x38_1 0) = true := (by rw [← hmx_.out]; exact c19b0)
                          have c19q : (x47_2 < max x38_1 0) = True := eq_true (of_decide_eq_true c19m)
                          have c19r : (max x38_1 0 ≤ x47_2) = False := eq_false (by have h_ := of_decide_eq_true c19m; omega)
                          clear c19
                          by_cases c20 : (rd l1 x38_1) = (rd (l1.take (x38_1 : Int).toNat) x47_2)
                          · rw [if_pos c20] at H
                            have c20b0 : ((rd l1 x38_1) == (rd (l1.take (x38_1 : Int).toNat) x47_2)) = true := beq_iff_eq.mpr c20
                            have c20b1 : ((rd l1 x38_1) != (rd (l1.take (x38_1 : Int).toNat) x47_2)) = false := bne_eq_false_iff_eq.mpr c20
                            clear c20
                            replace H := Option.bind_eq_some_iff.mp H
                            obtain ⟨t417, A210, H⟩ := H
                            replace H : (some t417) = some r := H
                            have A21 := Aside0.mk A210
                            clear A210
                            obtain rfl := Option.some.inj H
                            have p416 : 0 ≤ (x47_2 : Int) := of_decide_eq_true (by first | (with_reducible assumption) | assumption)
                            have q416 : x47_2 < ((l1.take (x38_1 : Int).toNat).length : Int) := of_decide_eq_true (by first | (with_reducible assumption) | assumption)
                            obtain ⟨ad416, e416, hx416_0⟩ := Kd.at_int HR415.out x47_2 p416 q416
                            obtain rfl : ad414 = ad416 := (by injection e416)
                            replace hx416_0 := (HB.out.cell (World.block_lt_of_cell? w _ hx416_0)).trans hx416_0
                            replace p416 := eq_true p416
                            replace q416 := eq_true q416
                            go_wp2_with (first | ((with_reducible refine gate_callee (f := 9) rfl ?_); refine goesL_ (some 54) rfl rfl Try.func9 (by kernel_rfl) rfl #[] rfl (by (try simp only [List.map_toArray, List.map_cons, List.map_nil]); first | done | rfl | (simp only [List.length_drop, List.length_take]; rfl)) ?_; (with_reducible refine (weirkeeperlaw14_awake.calls k2  t417 _ A21.out).mono ?_); rintro e w22 ⟨rfl, hb⟩; refine ⟨_, rfl, ?_⟩; have n0_ := Aside0.mk (Kd.R_below (by (with_reducible repeat (first | apply Kd.R_alloc | apply Kd.R_drewN | apply Kd.R_drew)); exact HO_7.out) hb); have n1_ := Aside0.mk (Kd.R_below (by (with_reducible repeat (first | apply Kd.R_alloc | apply Kd.R_drewN | apply Kd.R_drew)); exact HO_414001.out) hb); have n2_ := Aside0.mk (blk_below (g := gb413) (o := .cells #[.int .i64 t408, .slice Ao10 t409.length co10] 24 (0, 0)) (by (with_reducible repeat (first | refine blk_drewN ?_ _ | refine blk_drew ?_ | refine blk_alloc ?_ _)); exact BK413.out) hb); have n3_ := Aside0.mk (below_step (by repeat (first | (with_reducible first | exact HB.out | apply below_alloc | apply pw_below_drewN | apply below_drew1 | refine below_set ?_ GE413.out) | exact HB.out)) hb); clear HO_7; clear HO_414001; clear BK413; clear HB; have HO_7 := n0_; have HO_414001 := n1_; have BK413 := n2_; have HB := n3_; clear n0_ n1_ n2_ n3_; (try clear hb); (try clear hb2); (try clear hk); (try clear hi)))
                            go_ret
                            exact ⟨by first | rfl | (simp [errW_none, errW_some] <;> rfl) | (simp [*, errW_none, errW_some] <;> rfl), by repeat (first | (with_reducible first | exact HB.out | apply below_alloc | apply pw_below_drewN | apply below_drew1 | refine below_set ?_ GE413.out) | exact HB.out)⟩
                          · rw [if_neg c20] at H
                            have c20b0 : ((rd l1 x38_1) == (rd (l1.take (x38_1 : Int).toNat) x47_2)) = false := beq_eq_false_iff_ne.mpr c20
                            have c20b1 : ((rd l1 x38_1) != (rd (l1.take (x38_1 : Int).toNat) x47_2)) = true := bne_iff_ne.mpr c20
                            have H' := Aside0.mk H
                            clear H
                            have p416 : 0 ≤ (x47_2 : Int) := of_decide_eq_true (by first | (with_reducible assumption) | assumption)
                            have q416 : x47_2 < ((l1.take (x38_1 : Int).toNat).length : Int) := of_decide_eq_true (by first | (with_reducible assumption) | assumption)
                            obtain ⟨ad416, e416, hx416_0⟩ := Kd.at_int HR415.out x47_2 p416 q416
                            obtain rfl : ad414 = ad416 := (by injection e416)
                            replace hx416_0 := (HB.out.cell (World.block_lt_of_cell? w _ hx416_0)).trans hx416_0
                            replace p416 := eq_true p416
                            replace q416 := eq_true q416
                            go_wp2
                            go_roundg k2
                            case measure => have := HK1.out; have := HK2.out; omega
                            case rel => exact ⟨(wrap64 (x47_2 + 1)), (by first | rfl | (simp; done) | (simp [*]; done)), H', ⟨by have := HK1.out; have := HK2.out; omega⟩, ⟨by (with_reducible repeat (first | apply Kd.R_alloc | apply Kd.R_drewN | apply Kd.R_drew)); exact HO_7.out⟩, ⟨by (with_reducible repeat (first | apply Kd.R_alloc | apply Kd.R_drewN | apply Kd.R_drew)); exact HO_414001.out⟩, ⟨by (with_reducible repeat (first | refine blk_drewN ?_ _ | refine blk_drew ?_ | refine blk_alloc ?_ _)); exact BK413.out⟩, ⟨by repeat (first | (with_reducible first | exact HB.out | apply below_alloc | apply pw_below_drewN | apply below_drew1 | refine below_set ?_ GE413.out) | exact HB.out)⟩⟩
                        · rw [if_neg c19] at H
                          exact absurd H (by simp)
                      · rw [if_neg c18] at H
                        exact absurd H (by simp)
                    · rw [if_neg c17] at H
                      have c17b0 : decide (x47_2 < ((l1.take (x38_1 : Int).toNat).length : Int)) = false := decide_eq_false c17
                      have c17m : decide (x47_2 < max x38_1 0) = false := (by rw [← hmx_.out]; exact c17b0)
                      clear c17
                      by_cases c23 : x7_1.length < 4398046511104
                      · rw [if_pos c23] at H
                        have LMc23 := Aside0.mk c23
                        clear c23
                        obtain ⟨y418, hy418⟩ : ∃ y_ : List (S27), y_ = (x7_1 ++ [(⟨(rd l1 x38_1), (⟨#[]⟩ : ByteArray), true⟩ : S27)]) := ⟨_, rfl⟩
                        replace H : (weirkeeperlaw14_CacheKeeps.l0 k2 l1 t412 y418 l1 (l1.length : Int) (wrap64 (x38_1 + 1)) t408 t409) = some r := by first | (rw [hy418]; with_reducible exact H) | (have H2_ := (Option.bind_some _ _).symm.trans H; rw [hy418]; with_reducible exact H2_) | (have H2_ := (Option.bind_some _ _).symm.trans H; with_reducible exact H2_) | with_reducible exact H | (rw [hy418]; exact H) | exact H
                        have Ny418 := Aside0.mk hy418
                        clear hy418
                        have H' := Aside0.mk H
                        clear H
                        go_wp2_with (first | ((with_reducible refine gate_builtin (b := .append) (xs := #[.tmp 56, .tmp 59]) rfl ?_); (try (refine gate_guard (by rfl) ?_; dsimp only)); at_builtin; refine Kd.R_append k27 (w0 := w) w.heap.size rfl (.tmp 56) (.tmp 59) 22 27 (.agg #[(.int .i64 0), (.string ⟨#[]⟩), (.bool false)]) 32 rfl Try.underlying22 info27 rfl (by decide) (by omega) u7 x7_1 (⟨(rd l1 x38_1), (⟨#[]⟩ : ByteArray), true⟩ : S27) [.int .i64 (rd l1 x38_1), .string (⟨#[]⟩ : ByteArray), .bool true] (fun k_ => some k_ ≠ (.slice Ao10 t409.length co10 : Value).ownBlock) (fun _ => False) rfl rfl ?aP (fun _ hk => hk.elim) ?aF ?aO ?aB ?aS ?aL ?_; (case aP => exact k27_mkM _ _ _ (⟨(rd l1 x38_1), (⟨#[]⟩ : ByteArray), true⟩ : S27)); (case aB => exact (by repeat (first | (with_reducible first | exact HB.out | apply below_alloc | apply pw_below_drewN | apply below_drew1 | refine below_set ?_ GE413.out) | exact HB.out))); (case aF => exact (fun k_ hk => Kd.fresh' (Kd.R_lt (by (with_reducible repeat (first | apply Kd.R_alloc | apply Kd.R_drewN | apply Kd.R_drew)); exact HO_414001.out)) k_ hk)); (case aO => exact (by (with_reducible repeat (first | apply Kd.R_alloc | apply Kd.R_drewN | apply Kd.R_drew)); exact HO_7.out)); (case aS => exact (below_size (by repeat (first | (with_reducible first | exact HB.out | apply below_alloc | apply pw_below_drewN | apply below_drew1 | refine below_set ?_ GE413.out) | exact HB.out)))); (case aL => have := LMc23.out; omega); intro v419 w24 ho hb hg hat; rw [← Ny418.out] at ho; have n0_ := Aside0.mk (Kd.R_after (ok := (fun _ => True)) (by (with_reducible repeat (first | apply Kd.R_alloc | apply Kd.R_drewN | apply Kd.R_drew)); exact Kd.R_mono HO_414001.out (fun _ hk => ⟨trivial, hk⟩)) hg hat); have n1_ := Aside0.mk (blk_grown (g := gb413) (o := .cells #[.int .i64 t408, .slice Ao10 t409.length co10] 24 (0, 0)) (by (with_reducible repeat (first | refine blk_drewN ?_ _ | refine blk_drew ?_ | refine blk_alloc ?_ _)); exact BK413.out) hg (Kd.R_ne HO_7.out BK413.out (by decide))); have n2_ := Aside0.mk (hb); have n3_ := Aside0.mk (ho); clear HO_414001; clear BK413; clear HB; clear HO_7; have HO_414001 := n0_; have BK413 := n1_; have HB := n2_; have HO420 := n3_; clear n0_ n1_ n2_ n3_; clear ho hb hg hat))
                        go_roundg k2
                        case measure => have := HK1.out; have := HK2.out; omega
                        case rel => exact ⟨(y418), (wrap64 (x38_1 + 1)), (by first | rfl | (simp; done) | (simp [*]; done)), H', ⟨by have := HK1.out; have := HK2.out; omega⟩, ⟨by (with_reducible repeat (first | apply Kd.R_alloc | apply Kd.R_drewN | apply Kd.R_drew)); exact HO420.out⟩, ⟨by (with_reducible repeat (first | apply Kd.R_alloc | apply Kd.R_drewN | apply Kd.R_drew)); exact Kd.R_mono HO_414001.out (fun _ hk => hk.2)⟩, ⟨by (with_reducible repeat (first | refine blk_drewN ?_ _ | refine blk_drew ?_ | refine blk_alloc ?_ _)); exact BK413.out⟩, ⟨by repeat (first | (with_reducible first | exact HB.out | apply below_alloc | apply pw_below_drewN | apply below_drew1 | refine below_set ?_ GE413.out) | exact HB.out)⟩⟩
                      · rw [if_neg c23] at H
                        exact absurd H (by simp)
              · rw [if_neg c15] at H
                exact absurd H (by simp)
            · rw [if_neg c13] at H
              exact absurd H (by simp)
          · rw [if_neg c12] at H
            exact absurd H (by simp)
        · rw [if_neg c11] at H
          have c11b0 : decide (x38_1 < (l1.length : Int)) = false := decide_eq_false c11
          clear c11
          replace H := Option.bind_eq_some_iff.mp H
          obtain ⟨⟨t421, t422, t425, t428⟩, A250, H⟩ := H
          replace H : ((cache_Clean.f k1 t421 t422).bind fun bt429 => ((some (([] : List (S27)) : List (S27))).bind fun y437 => (if y437.length + t425.length < 4398046511104 then ((some (y437 ++ t425 : List (S27))).bind fun y440 => (if y440.length + bt429.2.2.length < 4398046511104 then (weirkeeperlaw14_CacheKeeps.l2 k1 t412 x7_1 t428 (y440 ++ bt429.2.2) x7_1 (x7_1.length : Int) 0 t421 t422 bt429.1 bt429.2.1) else (none))) else (none)))) = some r := H
          have A25 := Aside0.mk A250
          clear A250
          replace H := Option.bind_eq_some_iff.mp H
          obtain ⟨⟨t429, t430, t433⟩, A260, H⟩ := H
          replace H : ((some (([] : List (S27)) : List (S27))).bind fun y437 => (if y437.length + t425.length < 4398046511104 then ((some (y437 ++ t425 : List (S27))).bind fun y440 => (if y440.length + t433.length < 4398046511104 then (weirkeeperlaw14_CacheKeeps.l2 k1 t412 x7_1 t428 (y440 ++ t433) x7_1 (x7_1.length : Int) 0 t421 t422 t429 t430) else (none))) else (none))) = some r := H
          have A26 := Aside0.mk A260
          clear A260
          obtain ⟨y437, hy437⟩ : ∃ y_ : List (S27), y_ = (([] : List (S27))) := ⟨_, rfl⟩
          replace H : (if y437.length + t425.length < 4398046511104 then ((some (y437 ++ t425 : List (S27))).bind fun y440 => (if y440.length + t433.length < 4398046511104 then (weirkeeperlaw14_CacheKeeps.l2 k1 t412 x7_1 t428 (y440 ++ t433) x7_1 (x7_1.length : Int) 0 t421 t422 t429 t430) else (none))) else (none)) = some r := by first | (rw [hy437]; with_reducible exact H) | (have H2_ := (Option.bind_some _ _).symm.trans H; rw [hy437]; with_reducible exact H2_) | (have H2_ := (Option.bind_some _ _).symm.trans H; with_reducible exact H2_) | with_reducible exact H | (rw [hy437]; exact H) | exact H
          have Ny437 := Aside0.mk hy437
          clear hy437
          by_cases c27 : y437.length + t425.length < 4398046511104
          · rw [if_pos c27] at H
            have LMc27 := Aside0.mk c27
            clear c27
            obtain ⟨y440, hy440⟩ : ∃ y_ : List (S27), y_ = (y437 ++ t425) := ⟨_, rfl⟩
            replace H : (if y440.length + t433.length < 4398046511104 then (weirkeeperlaw14_CacheKeeps.l2 k1 t412 x7_1 t428 (y440 ++ t433) x7_1 (x7_1.length : Int) 0 t421 t422 t429 t430) else (none)) = some r := by first | (rw [hy440]; with_reducible exact H) | (have H2_ := (Option.bind_some _ _).symm.trans H; rw [hy440]; with_reducible exact H2_) | (have H2_ := (Option.bind_some _ _).symm.trans H; with_reducible exact H2_) | with_reducible exact H | (rw [hy440]; exact H) | exact H
            have Ny440 := Aside0.mk hy440
            clear hy440
            by_cases c28 : y440.length + t433.length < 4398046511104
            · rw [if_pos c28] at H
              have LMc28 := Aside0.mk c28
              clear c28
              obtain ⟨y443, hy443⟩ : ∃ y_ : List (S27), y_ = (y440 ++ t433) := ⟨_, rfl⟩
              replace H : (weirkeeperlaw14_CacheKeeps.l2 k1 t412 x7_1 t428 y443 x7_1 (x7_1.length : Int) 0 t421 t422 t429 t430) = some r := by first | (rw [hy443]; with_reducible exact H) | (have H2_ := (Option.bind_some _ _).symm.trans H; rw [hy443]; with_reducible exact H2_) | (have H2_ := (Option.bind_some _ _).symm.trans H; with_reducible exact H2_) | with_reducible exact H | (rw [hy443]; exact H) | exact H
              have Ny443 := Aside0.mk hy443
              clear hy443
              have H' := Aside0.mk H
              clear H
              have hcz29_0 : wr.cell? ⟨gb413, 0, none⟩ = some (.int .i64 t408) := (blk_cell BK413.out 0).trans rfl
              have hcz29_1 : wr.cell? ⟨gb413, 1, none⟩ = some (.slice Ao10 t409.length co10) := (blk_cell BK413.out 1).trans rfl
              have hfz29_0 := blk_frozen BK413.out 0
              have hfz29_1 := blk_frozen BK413.out 1
              obtain ⟨Ao30, co30, eo30⟩ := Kd.R_slice HO_7.out
              subst eo30
              go_wp2_with (first | ((with_reducible refine gate_callee (f := 13) rfl ?_); refine goesL_ (some 65) rfl rfl Try.func13 (by kernel_rfl) rfl #[.agg #[.int .i64 t408, .slice Ao10 t409.length co10], .slice Ao30 x7_1.length co30] rfl (by (try simp only [List.map_toArray, List.map_cons, List.map_nil]); first | done | rfl | (simp only [List.length_drop, List.length_take]; rfl)) ?_; (with_reducible refine (cache_Put.calls k1 t408 (fun k_ => some k_ = (.slice Ao10 t409.length co10 : Value).ownBlock) _ _ t409 _ _ x7_1 t421 t422 t425 t428 _ ?side1 ?side2 ?side3 A25.out).mono ?_); (case side1 => exact Kd.R_V (Kd.R_tight rfl (Kd.R_types (HO_414001.out) BK413.out (by decide)))); (case side2 => repeat (first | exact (Kd.R_reads' HO_7.out).2.2 | (with_reducible refine Kd.C_alloc ?_ _) | (with_reducible refine Kd.C_drewN ?_ _) | (with_reducible refine Kd.C_drew ?_))); (case side3 => exact (Kd.R_reads' HO_7.out).2.1); rintro e w31 ⟨v423, v426, rfl, ho0, ho1, hb⟩; refine ⟨_, rfl, ?_⟩; have n0_ := Aside0.mk (Kd.R_elder' (by (with_reducible repeat (first | apply Kd.R_alloc | apply Kd.R_drewN | apply Kd.R_drew)); exact HO_7.out) (Kd.R_base ho1) hb); have n1_ := Aside0.mk (Kd.R_elder' (by (with_reducible repeat (first | apply Kd.R_alloc | apply Kd.R_drewN | apply Kd.R_drew)); exact HO_414001.out) (Kd.R_base ho1) hb); have n2_ := Aside0.mk (Kd.V_lower (Kd.V_mono (ok' := fun k_ => some k_ ≠ (v426 : Value).ownBlock ∧ some k_ ≠ (.slice Ao30 x7_1.length co30 : Value).ownBlock ∧ k_ ≠ gb413) ho0 (fun k_ hk_ => ⟨hk_.2, Or.elim hk_.1 (fun hs_ => ((Kd.R_types (HO_414001.out) BK413.out (by decide)).1 k_ hs_.symm).1) (fun hn_ => (Kd.fresh' (Kd.R_lt (by (with_reducible repeat (first | apply Kd.R_alloc | apply Kd.R_drewN | apply Kd.R_drew)); exact HO_7.out)) k_ hn_)), Or.elim hk_.1 (fun hs_ => ((Kd.R_types (HO_414001.out) BK413.out (by decide)).1 k_ hs_.symm).2) (fun hn_ => (Kd.freshB (g := gb413) (o := .cells #[.int .i64 t408, .slice Ao10 t409.length co10] 24 (0, 0)) (by (with_reducible repeat (first | refine blk_drewN ?_ _ | refine blk_drew ?_ | refine blk_alloc ?_ _)); exact BK413.out) k_ hn_))⟩)) (below_size (by repeat (first | (with_reducible first | exact HB.out | apply below_alloc | apply pw_below_drewN | apply below_drew1 | refine below_set ?_ GE413.out) | exact HB.out)))); have n3_ := Aside0.mk (Kd.R_lower (Kd.R_new' (Kd.R_new' (Kd.R_mono (ok' := fun k_ => True) ho1 (fun _ hk_ => trivial)) (Kd.R_lt (by (with_reducible repeat (first | apply Kd.R_alloc | apply Kd.R_drewN | apply Kd.R_drew)); exact HO_7.out))) (Kd.R_lt (by (with_reducible repeat (first | apply Kd.R_alloc | apply Kd.R_drewN | apply Kd.R_drew)); exact HO_414001.out))) (below_size (by repeat (first | (with_reducible first | exact HB.out | apply below_alloc | apply pw_below_drewN | apply below_drew1 | refine below_set ?_ GE413.out) | exact HB.out)))); have n4_ := Aside0.mk (blk_below (g := gb413) (o := .cells #[.int .i64 t408, .slice Ao10 t409.length co10] 24 (0, 0)) (by (with_reducible repeat (first | refine blk_drewN ?_ _ | refine blk_drew ?_ | refine blk_alloc ?_ _)); exact BK413.out) hb); have n5_ := Aside0.mk (below_step (by repeat (first | (with_reducible first | exact HB.out | apply below_alloc | apply pw_below_drewN | apply below_drew1 | refine below_set ?_ GE413.out) | exact HB.out)) hb); clear HO_7; clear HO_414001; clear BK413; clear HB; have HO_7 := n0_; have HO_414001 := n1_; have HO424 := n2_; have HO427 := n3_; have BK413 := n4_; have HB := n5_; clear n0_ n1_ n2_ n3_ n4_ n5_; (try clear hb); (try clear hb2); (try clear hk); (try clear hi); (try clear ho0); (try clear ho1); have hcz32_0 : w31.cell? ⟨gb413, 0, none⟩ = some (.int .i64 t408) := (blk_cell BK413.out 0).trans rfl; have hcz32_1 : w31.cell? ⟨gb413, 1, none⟩ = some (.slice Ao10 t409.length co10) := (blk_cell BK413.out 1).trans rfl; have hfz32_0 := blk_frozen BK413.out 0; have hfz32_1 := blk_frozen BK413.out 1; obtain ⟨Ao33, co33, eo33⟩ := Kd.V_slice HO424.out; subst eo33) | ((with_reducible refine gate_store (t := 24) (p := 5) rfl ?_); refine store_event (t := 24) (p := 5) (v := ?vo_w34) (w1 := ((w31.setCell ⟨gb413, 0, none⟩ (.int .i64 t421)).setCell ⟨gb413, 1, none⟩ (.slice Ao33 t422.length co33))) ?hg ?ho ?hn ?hr ?_; (case ho => rfl); (case hg => rfl); (case hn => rfl); (case hr => first | (go_simp; done) | (go_simp; rfl)); intro w34 hw; have n0_ : Aside0 (Kd.R k27 27 w34 w.heap.size (fun k_ => some k_ ≠ (.slice Ao10 t409.length co10 : Value).ownBlock ∧ some k_ ≠ (v426 : Value).ownBlock) (.slice Ao30 x7_1.length co30) x7_1) := ⟨(by rw [hw]; exact (by (with_reducible repeat (first | apply Kd.R_alloc | apply Kd.R_drewN | apply Kd.R_drew)); exact Kd.R_mono (Kd.R_far (p := ⟨gb413, 1, none⟩) (Kd.R_far (p := ⟨gb413, 0, none⟩) (Kd.R_types HO_7.out BK413.out (by decide)) (fun _ hk => hk.2) (.int .i64 t421)) (fun _ hk => hk.2) (.slice Ao33 t422.length co33)) (fun _ hk => ⟨hk.1.1, hk.1.2⟩)))⟩; have n1_ : Aside0 (Kd.R k27 27 w34 w.heap.size (fun k_ => some k_ ≠ (.slice Ao30 x7_1.length co30 : Value).ownBlock ∧ some k_ ≠ (v426 : Value).ownBlock) (.slice Ao10 t409.length co10) t409) := ⟨(by rw [hw]; exact (by (with_reducible repeat (first | apply Kd.R_alloc | apply Kd.R_drewN | apply Kd.R_drew)); exact Kd.R_mono (Kd.R_far (p := ⟨gb413, 1, none⟩) (Kd.R_far (p := ⟨gb413, 0, none⟩) (Kd.R_types HO_414001.out BK413.out (by decide)) (fun _ hk => hk.2) (.int .i64 t421)) (fun _ hk => hk.2) (.slice Ao33 t422.length co33)) (fun _ hk => ⟨hk.1.1, hk.1.2⟩)))⟩; have n2_ : Aside0 (Kd.V k27 27 w34 w.heap.size (fun k_ => some k_ ≠ (.slice Ao30 x7_1.length co30 : Value).ownBlock ∧ some k_ ≠ (v426 : Value).ownBlock ∧ k_ ≠ gb413) (.slice Ao33 t422.length co33) t422) := ⟨(by rw [hw]; exact (by (with_reducible repeat (first | apply Kd.V_alloc | apply Kd.V_drewN | apply Kd.V_drew)); exact Kd.V_mono (Kd.V_far (p := ⟨gb413, 1, none⟩) (Kd.V_far (p := ⟨gb413, 0, none⟩) (Kd.V_mono HO424.out (fun k_ hk => (⟨hk, hk.2.2⟩ : _ ∧ k_ ≠ gb413))) (fun _ hk => hk.2) (.int .i64 t421)) (fun _ hk => hk.2) (.slice Ao33 t422.length co33)) (fun _ hk => ⟨hk.1.2.1, ⟨hk.1.1, hk.1.2.2⟩⟩)))⟩; have n3_ : Aside0 (Kd.R k27 27 w34 w.heap.size (fun k_ => some k_ ≠ (.slice Ao30 x7_1.length co30 : Value).ownBlock ∧ some k_ ≠ (.slice Ao10 t409.length co10 : Value).ownBlock) v426 t425) := ⟨(by rw [hw]; exact (by (with_reducible repeat (first | apply Kd.R_alloc | apply Kd.R_drewN | apply Kd.R_drew)); exact Kd.R_mono (Kd.R_far (p := ⟨gb413, 1, none⟩) (Kd.R_far (p := ⟨gb413, 0, none⟩) (Kd.R_types HO427.out BK413.out (by decide)) (fun _ hk => hk.2) (.int .i64 t421)) (fun _ hk => hk.2) (.slice Ao33 t422.length co33)) (fun _ hk => ⟨hk.1.1.2, hk.1.2⟩)))⟩; have n4_ : Aside0 (w34.heap[gb413]? = some (.cells #[.int .i64 t421, .slice Ao33 t422.length co33] 24 (0, 0))) := ⟨(by rw [hw]; exact (by (with_reducible repeat (first | refine blk_drewN ?_ _ | refine blk_drew ?_ | refine blk_alloc ?_ _)); refine blk_put (cs := #[.int .i64 t421, .slice Ao10 t409.length co10]) ?_ 1 _ rfl; (with_reducible repeat (first | refine blk_drewN ?_ _ | refine blk_drew ?_ | refine blk_alloc ?_ _)); refine blk_put (cs := #[.int .i64 t408, .slice Ao10 t409.length co10]) ?_ 0 _ rfl; (with_reducible repeat (first | refine blk_drewN ?_ _ | refine blk_drew ?_ | refine blk_alloc ?_ _)); exact BK413.out))⟩; have n5_ : Aside0 (Below w.heap.size w w34) := ⟨(by rw [hw]; exact (by repeat (first | (with_reducible first | exact HB.out | apply below_alloc | apply pw_below_drewN | apply below_drew1 | refine below_set ?_ GE413.out) | exact HB.out)))⟩; clear hw; clear HO_7; clear HO_414001; clear HO424; clear HO427; clear BK413; clear HB; have HO_7 := n0_; have HO_414001 := n1_; have HO424 := n2_; have HO427 := n3_; have BK413 := n4_; have HB := n5_; clear n0_ n1_ n2_ n3_ n4_ n5_; have hcz35_0 : w34.cell? ⟨gb413, 0, none⟩ = some (.int .i64 t421) := (blk_cell BK413.out 0).trans rfl; have hcz35_1 : w34.cell? ⟨gb413, 1, none⟩ = some (.slice Ao33 t422.length co33) := (blk_cell BK413.out 1).trans rfl; have hfz35_0 := blk_frozen BK413.out 0; have hfz35_1 := blk_frozen BK413.out 1) | ((with_reducible refine gate_callee (f := 16) rfl ?_); refine goesL_ (some 71) rfl rfl Try.func16 (by kernel_rfl) rfl #[.agg #[.int .i64 t421, .slice Ao33 t422.length co33]] rfl (by (try simp only [List.map_toArray, List.map_cons, List.map_nil]); first | done | rfl | (simp only [List.length_drop, List.length_take]; rfl)) ?_; (with_reducible refine (cache_Clean.calls k1 t421 (fun k_ => (some k_ ≠ (.slice Ao30 x7_1.length co30 : Value).ownBlock ∧ (some k_ ≠ (v426 : Value).ownBlock ∧ k_ ≠ gb413))) _ _ t422 t429 t430 t433 _ ?side1 A26.out).mono ?_); (case side1 => exact HO424.out); rintro e w36 ⟨v431, v434, rfl, ho0, ho1, hb⟩; refine ⟨_, rfl, ?_⟩; have n0_ := Aside0.mk (Kd.R_elder' (by (with_reducible repeat (first | apply Kd.R_alloc | apply Kd.R_drewN | apply Kd.R_drew)); exact HO_7.out) (Kd.R_base ho1) hb); have n1_ := Aside0.mk (Kd.R_elder' (by (with_reducible repeat (first | apply Kd.R_alloc | apply Kd.R_drewN | apply Kd.R_drew)); exact HO_414001.out) (Kd.R_base ho1) hb); have n2_ := Aside0.mk (Kd.V_elder' (by (with_reducible repeat (first | apply Kd.V_alloc | apply Kd.V_drewN | apply Kd.V_drew)); exact HO424.out) (Kd.R_base ho1) hb); have n3_ := Aside0.mk (Kd.R_elder' (by (with_reducible repeat (first | apply Kd.R_alloc | apply Kd.R_drewN | apply Kd.R_drew)); exact HO427.out) (Kd.R_base ho1) hb); have n4_ := Aside0.mk (Kd.V_lower (Kd.V_mono (ok' := fun k_ => some k_ ≠ (v434 : Value).ownBlock ∧ some k_ ≠ (.slice Ao30 x7_1.length co30 : Value).ownBlock ∧ some k_ ≠ (v426 : Value).ownBlock ∧ k_ ≠ gb413) ho0 (fun k_ hk_ => ⟨hk_.2, Or.elim hk_.1 (fun hs_ => hs_.1) (fun hn_ => (Kd.fresh' (Kd.R_lt (by (with_reducible repeat (first | apply Kd.R_alloc | apply Kd.R_drewN | apply Kd.R_drew)); exact HO_7.out)) k_ hn_)), Or.elim hk_.1 (fun hs_ => hs_.2.1) (fun hn_ => (Kd.fresh' (Kd.R_lt (by (with_reducible repeat (first | apply Kd.R_alloc | apply Kd.R_drewN | apply Kd.R_drew)); exact HO427.out)) k_ hn_)), Or.elim hk_.1 (fun hs_ => hs_.2.2) (fun hn_ => (Kd.freshB (g := gb413) (o := .cells #[.int .i64 t421, .slice Ao33 t422.length co33] 24 (0, 0)) (by (with_reducible repeat (first | refine blk_drewN ?_ _ | refine blk_drew ?_ | refine blk_alloc ?_ _)); exact BK413.out) k_ hn_))⟩)) (below_size (by repeat (first | (with_reducible first | exact HB.out | apply below_alloc | apply pw_below_drewN | apply below_drew1 | refine below_set ?_ GE413.out) | exact HB.out)))); have n5_ := Aside0.mk (Kd.R_lower (Kd.R_new' (Kd.R_new' (Kd.R_new' (Kd.R_mono (ok' := fun k_ => True) ho1 (fun _ hk_ => trivial)) (Kd.R_lt (by (with_reducible repeat (first | apply Kd.R_alloc | apply Kd.R_drewN | apply Kd.R_drew)); exact HO_7.out))) (Kd.R_lt (by (with_reducible repeat (first | apply Kd.R_alloc | apply Kd.R_drewN | apply Kd.R_drew)); exact HO_414001.out))) (Kd.R_lt (by (with_reducible repeat (first | apply Kd.R_alloc | apply Kd.R_drewN | apply Kd.R_drew)); exact HO427.out))) (below_size (by repeat (first | (with_reducible first | exact HB.out | apply below_alloc | apply pw_below_drewN | apply below_drew1 | refine below_set ?_ GE413.out) | exact HB.out)))); have n6_ := Aside0.mk (blk_below (g := gb413) (o := .cells #[.int .i64 t421, .slice Ao33 t422.length co33] 24 (0, 0)) (by (with_reducible repeat (first | refine blk_drewN ?_ _ | refine blk_drew ?_ | refine blk_alloc ?_ _)); exact BK413.out) hb); have n7_ := Aside0.mk (below_step (by repeat (first | (with_reducible first | exact HB.out | apply below_alloc | apply pw_below_drewN | apply below_drew1 | refine below_set ?_ GE413.out) | exact HB.out)) hb); clear HO_7; clear HO_414001; clear HO424; clear HO427; clear BK413; clear HB; have HO_7 := n0_; have HO_414001 := n1_; have HO424 := n2_; have HO427 := n3_; have HO432 := n4_; have HO435 := n5_; have BK413 := n6_; have HB := n7_; clear n0_ n1_ n2_ n3_ n4_ n5_ n6_ n7_; (try clear hb); (try clear hb2); (try clear hk); (try clear hi); (try clear ho0); (try clear ho1)) | ((with_reducible refine gate_dst (N := 14) rfl ?_); (try (refine gate_guard (by rfl) ?_; dsimp only)); refine box_event ?hg (N := 14) ?hd (cs := #[.int .i64 0, .slice none 0 0]) (t := 24) ?hr ?_; (case hd => rfl); (case hg => rfl); (case hr => first | (go_simp; done) | (go_simp; rfl)); intro gb436 hg w37 hbox hb; have n0_ := Aside0.mk (Kd.R_below (by (with_reducible repeat (first | apply Kd.R_alloc | apply Kd.R_drewN | apply Kd.R_drew)); exact HO_7.out) hb); have n1_ := Aside0.mk (Kd.R_below (by (with_reducible repeat (first | apply Kd.R_alloc | apply Kd.R_drewN | apply Kd.R_drew)); exact HO_414001.out) hb); have n2_ := Aside0.mk (Kd.V_below (Kd.V_elderB (by (with_reducible repeat (first | apply Kd.V_alloc | apply Kd.V_drewN | apply Kd.V_drew)); exact HO424.out) gb436 (Nat.le_of_eq hg.symm)) hb); have n3_ := Aside0.mk (Kd.R_below (by (with_reducible repeat (first | apply Kd.R_alloc | apply Kd.R_drewN | apply Kd.R_drew)); exact HO427.out) hb); have n4_ := Aside0.mk (Kd.V_below (Kd.V_elderB (by (with_reducible repeat (first | apply Kd.V_alloc | apply Kd.V_drewN | apply Kd.V_drew)); exact HO432.out) gb436 (Nat.le_of_eq hg.symm)) hb); have n5_ := Aside0.mk (Kd.R_below (by (with_reducible repeat (first | apply Kd.R_alloc | apply Kd.R_drewN | apply Kd.R_drew)); exact HO435.out) hb); have n6_ := Aside0.mk (blk_below (g := gb413) (o := .cells #[.int .i64 t421, .slice Ao33 t422.length co33] 24 (0, 0)) (by (with_reducible repeat (first | refine blk_drewN ?_ _ | refine blk_drew ?_ | refine blk_alloc ?_ _)); exact BK413.out) hb); have n7_ := Aside0.mk (below_step (by repeat (first | (with_reducible first | exact HB.out | apply below_alloc | apply pw_below_drewN | apply below_drew1 | refine below_set ?_ GE413.out) | exact HB.out)) hb); have n8_ := Aside0.mk (hbox); have n9_ := Aside0.mk ((by rw [hg]; exact (below_size (by repeat (first | (with_reducible first | exact HB.out | apply below_alloc | apply pw_below_drewN | apply below_drew1 | refine below_set ?_ GE413.out) | exact HB.out))) : w.heap.size ≤ gb436)); have n10_ := Aside0.mk ((by rw [hg]; exact (below_size (by repeat (first | (with_reducible first | exact HB.out | apply below_alloc | apply pw_below_drewN | apply below_drew1 | refine below_set ?_ GE413.out) | exact HB.out))) : w.heap.size ≤ gb436)); have n11_ := Aside0.mk ((by rw [hg]; exact Nat.ne_of_lt (blk_lt (g := gb413) (o := .cells #[.int .i64 t421, .slice Ao33 t422.length co33] 24 (0, 0)) (by (with_reducible repeat (first | refine blk_drewN ?_ _ | refine blk_drew ?_ | refine blk_alloc ?_ _)); exact BK413.out)) : gb413 ≠ gb436)); have n12_ := Aside0.mk ((by rw [hg]; exact Nat.ne_of_gt (blk_lt (g := gb413) (o := .cells #[.int .i64 t421, .slice Ao33 t422.length co33] 24 (0, 0)) (by (with_reducible repeat (first | refine blk_drewN ?_ _ | refine blk_drew ?_ | refine blk_alloc ?_ _)); exact BK413.out)) : gb436 ≠ gb413)); clear HO_7; clear HO_414001; clear HO424; clear HO427; clear HO432; clear HO435; clear BK413; clear HB; have HO_7 := n0_; have HO_414001 := n1_; have HO424 := n2_; have HO427 := n3_; have HO432 := n4_; have HO435 := n5_; have BK413 := n6_; have HB := n7_; have BK436 := n8_; have GW436 := n9_; have GE436 := n10_; have NB413_436 := n11_; have NB436_413 := n12_; clear n0_ n1_ n2_ n3_ n4_ n5_ n6_ n7_ n8_ n9_ n10_ n11_ n12_; clear hb hbox hg; have hnb38 := NB436_413.out; have hnc38 := NB413_436.out; have hcz39_0 : w37.cell? ⟨gb436, 0, none⟩ = some (.int .i64 0) := (blk_cell BK436.out 0).trans rfl; have hcz39_1 : w37.cell? ⟨gb436, 1, none⟩ = some (.slice none 0 0) := (blk_cell BK436.out 1).trans rfl; have hfz39_0 := blk_frozen BK436.out 0; have hfz39_1 := blk_frozen BK436.out 1; obtain ⟨Ao40, co40, eo40⟩ := Kd.V_slice HO432.out; subst eo40) | ((with_reducible refine gate_dst (N := 74) rfl ?_); (try (refine gate_guard (by rfl) ?_; dsimp only)); refine Kd.R_lit k27 _ 27 ?hg (N := 74) ?hd (xs := ([] : List (S27))) (inner := []) (ok := fun _ => True) (okp := fun _ => True) ?hr ?hp (fun _ hk => hk) trivial (Below.refl _ _) (Nat.le_refl _) (by simp) ?_; (case hd => rfl); (case hg => rfl); (case hr => first | (go_simp; done) | (go_simp; rfl)); (case hp => exact (Reps.none _ _)); intro v438 w41 ho42 hb hg_ hnew_; clear hg_ hnew_; (first | rw [← Ny437.out] at ho42 | (simp only [Int.reduceToNat] at ho42; rw [← Ny437.out] at ho42)); have n0_ := Aside0.mk (Kd.R_elder' (by (with_reducible repeat (first | apply Kd.R_alloc | apply Kd.R_drewN | apply Kd.R_drew)); exact (Kd.R_mono (Kd.R_far (p := ⟨gb436, 1, none⟩) (Kd.R_far (p := ⟨gb436, 0, none⟩) (Kd.R_types HO_7.out BK436.out (by decide)) (fun _ hk => hk.2) (.int .i64 t429)) (fun _ hk => hk.2) (.slice Ao40 t430.length co40)) (fun _ h_ => h_.1))) (Kd.R_base ho42) hb); have n1_ := Aside0.mk (Kd.R_elder' (by (with_reducible repeat (first | apply Kd.R_alloc | apply Kd.R_drewN | apply Kd.R_drew)); exact (Kd.R_mono (Kd.R_far (p := ⟨gb436, 1, none⟩) (Kd.R_far (p := ⟨gb436, 0, none⟩) (Kd.R_types HO_414001.out BK436.out (by decide)) (fun _ hk => hk.2) (.int .i64 t429)) (fun _ hk => hk.2) (.slice Ao40 t430.length co40)) (fun _ h_ => h_.1))) (Kd.R_base ho42) hb); have n2_ := Aside0.mk (Kd.V_elder' (by (with_reducible repeat (first | apply Kd.V_alloc | apply Kd.V_drewN | apply Kd.V_drew)); exact (Kd.V_mono (Kd.V_far (p := ⟨gb436, 1, none⟩) (Kd.V_far (p := ⟨gb436, 0, none⟩) (Kd.V_mono HO424.out (fun k_ hk => (⟨hk, hk.2⟩ : _ ∧ k_ ≠ gb436))) (fun _ hk => hk.2) (.int .i64 t429)) (fun _ hk => hk.2) (.slice Ao40 t430.length co40)) (fun _ h_ => h_.1))) (Kd.R_base ho42) hb); have n3_ := Aside0.mk (Kd.R_elder' (by (with_reducible repeat (first | apply Kd.R_alloc | apply Kd.R_drewN | apply Kd.R_drew)); exact (Kd.R_mono (Kd.R_far (p := ⟨gb436, 1, none⟩) (Kd.R_far (p := ⟨gb436, 0, none⟩) (Kd.R_types HO427.out BK436.out (by decide)) (fun _ hk => hk.2) (.int .i64 t429)) (fun _ hk => hk.2) (.slice Ao40 t430.length co40)) (fun _ h_ => h_.1))) (Kd.R_base ho42) hb); have n4_ := Aside0.mk (Kd.V_elder' (by (with_reducible repeat (first | apply Kd.V_alloc | apply Kd.V_drewN | apply Kd.V_drew)); exact (Kd.V_mono (Kd.V_far (p := ⟨gb436, 1, none⟩) (Kd.V_far (p := ⟨gb436, 0, none⟩) (Kd.V_mono HO432.out (fun k_ hk => (⟨hk, hk.2⟩ : _ ∧ k_ ≠ gb436))) (fun _ hk => hk.2) (.int .i64 t429)) (fun _ hk => hk.2) (.slice Ao40 t430.length co40)) (fun _ h_ => h_.1))) (Kd.R_base ho42) hb); have n5_ := Aside0.mk (Kd.R_elder' (by (with_reducible repeat (first | apply Kd.R_alloc | apply Kd.R_drewN | apply Kd.R_drew)); exact (Kd.R_mono (Kd.R_far (p := ⟨gb436, 1, none⟩) (Kd.R_far (p := ⟨gb436, 0, none⟩) (Kd.R_types HO435.out BK436.out (by decide)) (fun _ hk => hk.2) (.int .i64 t429)) (fun _ hk => hk.2) (.slice Ao40 t430.length co40)) (fun _ h_ => h_.1))) (Kd.R_base ho42) hb); have n6_ := Aside0.mk (Kd.R_lower (Kd.R_new' (Kd.R_new' (Kd.R_new' (Kd.R_new' ho42 (Kd.R_lt (by (with_reducible repeat (first | apply Kd.R_alloc | apply Kd.R_drewN | apply Kd.R_drew)); exact (Kd.R_mono (Kd.R_far (p := ⟨gb436, 1, none⟩) (Kd.R_far (p := ⟨gb436, 0, none⟩) (Kd.R_types HO_7.out BK436.out (by decide)) (fun _ hk => hk.2) (.int .i64 t429)) (fun _ hk => hk.2) (.slice Ao40 t430.length co40)) (fun _ h_ => h_.1))))) (Kd.R_lt (by (with_reducible repeat (first | apply Kd.R_alloc | apply Kd.R_drewN | apply Kd.R_drew)); exact (Kd.R_mono (Kd.R_far (p := ⟨gb436, 1, none⟩) (Kd.R_far (p := ⟨gb436, 0, none⟩) (Kd.R_types HO_414001.out BK436.out (by decide)) (fun _ hk => hk.2) (.int .i64 t429)) (fun _ hk => hk.2) (.slice Ao40 t430.length co40)) (fun _ h_ => h_.1))))) (Kd.R_lt (by (with_reducible repeat (first | apply Kd.R_alloc | apply Kd.R_drewN | apply Kd.R_drew)); exact (Kd.R_mono (Kd.R_far (p := ⟨gb436, 1, none⟩) (Kd.R_far (p := ⟨gb436, 0, none⟩) (Kd.R_types HO427.out BK436.out (by decide)) (fun _ hk => hk.2) (.int .i64 t429)) (fun _ hk => hk.2) (.slice Ao40 t430.length co40)) (fun _ h_ => h_.1))))) (Kd.R_lt (by (with_reducible repeat (first | apply Kd.R_alloc | apply Kd.R_drewN | apply Kd.R_drew)); exact (Kd.R_mono (Kd.R_far (p := ⟨gb436, 1, none⟩) (Kd.R_far (p := ⟨gb436, 0, none⟩) (Kd.R_types HO435.out BK436.out (by decide)) (fun _ hk => hk.2) (.int .i64 t429)) (fun _ hk => hk.2) (.slice Ao40 t430.length co40)) (fun _ h_ => h_.1))))) (below_size (by repeat (first | (with_reducible first | exact HB.out | apply below_alloc | apply pw_below_drewN | apply below_drew1 | refine below_set ?_ GE413.out | refine below_set ?_ GE436.out) | exact HB.out)))); have n7_ := Aside0.mk (blk_below (g := gb413) (o := .cells #[.int .i64 t421, .slice Ao33 t422.length co33] 24 (0, 0)) (by (with_reducible repeat (first | refine blk_drewN ?_ _ | refine blk_drew ?_ | refine blk_alloc ?_ _)); refine blk_far ?_ NB413_436.out _; (with_reducible repeat (first | refine blk_drewN ?_ _ | refine blk_drew ?_ | refine blk_alloc ?_ _)); refine blk_far ?_ NB413_436.out _; (with_reducible repeat (first | refine blk_drewN ?_ _ | refine blk_drew ?_ | refine blk_alloc ?_ _)); exact BK413.out) hb); have n8_ := Aside0.mk (blk_below (g := gb436) (o := .cells #[.int .i64 t429, .slice Ao40 t430.length co40] 24 (0, 0)) (by (with_reducible repeat (first | refine blk_drewN ?_ _ | refine blk_drew ?_ | refine blk_alloc ?_ _)); refine blk_put (cs := #[.int .i64 t429, .slice none 0 0]) ?_ 1 _ rfl; (with_reducible repeat (first | refine blk_drewN ?_ _ | refine blk_drew ?_ | refine blk_alloc ?_ _)); refine blk_put (cs := #[.int .i64 0, .slice none 0 0]) ?_ 0 _ rfl; (with_reducible repeat (first | refine blk_drewN ?_ _ | refine blk_drew ?_ | refine blk_alloc ?_ _)); exact BK436.out) hb); have n9_ := Aside0.mk (below_step (by repeat (first | (with_reducible first | exact HB.out | apply below_alloc | apply pw_below_drewN | apply below_drew1 | refine below_set ?_ GE413.out | refine below_set ?_ GE436.out) | exact HB.out)) hb); clear HO_7; clear HO_414001; clear HO424; clear HO427; clear HO432; clear HO435; clear BK413; clear BK436; clear HB; have HO_7 := n0_; have HO_414001 := n1_; have HO424 := n2_; have HO427 := n3_; have HO432 := n4_; have HO435 := n5_; have HO439 := n6_; have BK413 := n7_; have BK436 := n8_; have HB := n9_; clear n0_ n1_ n2_ n3_ n4_ n5_ n6_ n7_ n8_ n9_; clear hb ho42; obtain ⟨Ao44, co44, eo44⟩ := Kd.R_slice HO427.out; subst eo44) | ((with_reducible refine gate_builtin (b := .append) (xs := #[.tmp 74, .tmp 75]) rfl ?_); (try (refine gate_guard (by rfl) ?_; dsimp only)); at_builtin; refine Kd.R_append_rows k27 (w0 := w) w.heap.size rfl (.tmp 74) (.tmp 75) 22 27 (.agg #[(.int .i64 0), (.string ⟨#[]⟩), (.bool false)]) 32 rfl Try.underlying22 info27 rfl (by decide) (by omega) v438 y437 t425 _ _ _ (fun k_ => some k_ ≠ (.slice Ao30 x7_1.length co30 : Value).ownBlock ∧ some k_ ≠ (.slice Ao10 t409.length co10 : Value).ownBlock ∧ some k_ ≠ (.slice Ao44 t425.length co44 : Value).ownBlock ∧ some k_ ≠ (v434 : Value).ownBlock) (fun _ => False) rfl rfl ?aO ?aR (fun _ _ h => h) (fun _ h => h.elim) ?aF ?aB ?aS ?aL ?_; (case aR => repeat (first | exact (Kd.R_reads' HO427.out).2.2 | (with_reducible refine Kd.C_alloc ?_ _) | (with_reducible refine Kd.C_drewN ?_ _) | (with_reducible refine Kd.C_drew ?_))); (case aB => exact (by repeat (first | (with_reducible first | exact HB.out | apply below_alloc | apply pw_below_drewN | apply below_drew1 | refine below_set ?_ GE413.out | refine below_set ?_ GE436.out) | exact HB.out))); (case aF => exact (fun k_ hk => ⟨Kd.fresh' (Kd.R_lt (by (with_reducible repeat (first | apply Kd.R_alloc | apply Kd.R_drewN | apply Kd.R_drew)); exact HO_7.out)) k_ hk, Kd.fresh' (Kd.R_lt (by (with_reducible repeat (first | apply Kd.R_alloc | apply Kd.R_drewN | apply Kd.R_drew)); exact HO_414001.out)) k_ hk, Kd.fresh' (Kd.R_lt (by (with_reducible repeat (first | apply Kd.R_alloc | apply Kd.R_drewN | apply Kd.R_drew)); exact HO427.out)) k_ hk, Kd.fresh' (Kd.R_lt (by (with_reducible repeat (first | apply Kd.R_alloc | apply Kd.R_drewN | apply Kd.R_drew)); exact HO435.out)) k_ hk⟩)); (case aO => exact (by (with_reducible repeat (first | apply Kd.R_alloc | apply Kd.R_drewN | apply Kd.R_drew)); exact Kd.R_mono HO439.out (fun _ hk => ⟨hk.1.1.1.2, ⟨hk.1.1.2, ⟨hk.1.2, hk.2⟩⟩⟩))); (case aS => exact (below_size (by repeat (first | (with_reducible first | exact HB.out | apply below_alloc | apply pw_below_drewN | apply below_drew1 | refine below_set ?_ GE413.out | refine below_set ?_ GE436.out) | exact HB.out)))); (case aL => have := LMc27.out; omega); intro v441 w43 ho hb hg hat; rw [← Ny440.out] at ho; have n0_ := Aside0.mk (Kd.R_after (ok := (fun k_ => some k_ ≠ (.slice Ao10 t409.length co10 : Value).ownBlock ∧ some k_ ≠ (.slice Ao44 t425.length co44 : Value).ownBlock ∧ some k_ ≠ (v434 : Value).ownBlock)) (by (with_reducible repeat (first | apply Kd.R_alloc | apply Kd.R_drewN | apply Kd.R_drew)); exact Kd.R_mono HO_7.out (fun _ hk => ⟨⟨hk.1.1.1, ⟨hk.1.1.2, hk.1.2⟩⟩, hk.2⟩)) hg hat); have n1_ := Aside0.mk (Kd.R_after (ok := (fun k_ => some k_ ≠ (.slice Ao30 x7_1.length co30 : Value).ownBlock ∧ some k_ ≠ (.slice Ao44 t425.length co44 : Value).ownBlock ∧ some k_ ≠ (v434 : Value).ownBlock)) (by (with_reducible repeat (first | apply Kd.R_alloc | apply Kd.R_drewN | apply Kd.R_drew)); exact Kd.R_mono HO_414001.out (fun _ hk => ⟨⟨hk.1.1.1, ⟨hk.1.1.2, hk.1.2⟩⟩, hk.2⟩)) hg hat); have n2_ := Aside0.mk (blk_grown (g := gb413) (o := .cells #[.int .i64 t421, .slice Ao33 t422.length co33] 24 (0, 0)) (by (with_reducible repeat (first | refine blk_drewN ?_ _ | refine blk_drew ?_ | refine blk_alloc ?_ _)); exact BK413.out) hg (Kd.R_ne HO439.out BK413.out (by decide))); have n3_ := Aside0.mk (Kd.V_afterv (ok := (fun k_ => some k_ ≠ (.slice Ao30 x7_1.length co30 : Value).ownBlock ∧ some k_ ≠ (.slice Ao44 t425.length co44 : Value).ownBlock ∧ some k_ ≠ (v434 : Value).ownBlock ∧ k_ ≠ gb413 ∧ k_ ≠ gb436)) (by (with_reducible repeat (first | apply Kd.V_alloc | apply Kd.V_drewN | apply Kd.V_drew)); exact Kd.V_mono HO424.out (fun _ hk => ⟨⟨hk.1.1.1.1, ⟨hk.1.1.1.2.1, ⟨hk.1.1.2, ⟨hk.1.1.1.2.2, hk.1.2⟩⟩⟩⟩, hk.2⟩)) hg hat); have n4_ := Aside0.mk (Kd.R_after (ok := (fun k_ => some k_ ≠ (.slice Ao30 x7_1.length co30 : Value).ownBlock ∧ some k_ ≠ (.slice Ao10 t409.length co10 : Value).ownBlock ∧ some k_ ≠ (v434 : Value).ownBlock)) (by (with_reducible repeat (first | apply Kd.R_alloc | apply Kd.R_drewN | apply Kd.R_drew)); exact Kd.R_mono HO427.out (fun _ hk => ⟨⟨hk.1.1.1, ⟨hk.1.1.2, hk.1.2⟩⟩, hk.2⟩)) hg hat); have n5_ := Aside0.mk (Kd.V_afterv (ok := (fun k_ => some k_ ≠ (.slice Ao30 x7_1.length co30 : Value).ownBlock ∧ some k_ ≠ (.slice Ao44 t425.length co44 : Value).ownBlock ∧ some k_ ≠ (v434 : Value).ownBlock ∧ k_ ≠ gb413 ∧ k_ ≠ gb436)) (by (with_reducible repeat (first | apply Kd.V_alloc | apply Kd.V_drewN | apply Kd.V_drew)); exact Kd.V_mono HO432.out (fun _ hk => ⟨⟨hk.1.1.2.1, ⟨hk.1.1.2.2.1, ⟨hk.1.1.1, ⟨hk.1.1.2.2.2, hk.1.2⟩⟩⟩⟩, hk.2⟩)) hg hat); have n6_ := Aside0.mk (Kd.R_after (ok := (fun k_ => some k_ ≠ (.slice Ao30 x7_1.length co30 : Value).ownBlock ∧ some k_ ≠ (.slice Ao10 t409.length co10 : Value).ownBlock ∧ some k_ ≠ (.slice Ao44 t425.length co44 : Value).ownBlock)) (by (with_reducible repeat (first | apply Kd.R_alloc | apply Kd.R_drewN | apply Kd.R_drew)); exact Kd.R_mono HO435.out (fun _ hk => ⟨⟨hk.1.1.1.2, ⟨hk.1.1.2, hk.1.2⟩⟩, hk.2⟩)) hg hat); have n7_ := Aside0.mk (blk_grown (g := gb436) (o := .cells #[.int .i64 t429, .slice Ao40 t430.length co40] 24 (0, 0)) (by (with_reducible repeat (first | refine blk_drewN ?_ _ | refine blk_drew ?_ | refine blk_alloc ?_ _)); exact BK436.out) hg (Kd.R_ne HO439.out BK436.out (by decide))); have n8_ := Aside0.mk (hb); have n9_ := Aside0.mk (ho); clear HO_7; clear HO_414001; clear BK413; clear HO424; clear HO427; clear HO432; clear HO435; clear BK436; clear HB; clear HO439; have HO_7 := n0_; have HO_414001 := n1_; have BK413 := n2_; have HO424 := n3_; have HO427 := n4_; have HO432 := n5_; have HO435 := n6_; have BK436 := n7_; have HB := n8_; have HO442 := n9_; clear n0_ n1_ n2_ n3_ n4_ n5_ n6_ n7_ n8_ n9_; clear ho hb hg hat; obtain ⟨Ao46, co46, eo46⟩ := Kd.R_slice HO435.out; subst eo46) | ((with_reducible refine gate_builtin (b := .append) (xs := #[.tmp 76, .tmp 77]) rfl ?_); (try (refine gate_guard (by rfl) ?_; dsimp only)); at_builtin; refine Kd.R_append_rows k27 (w0 := w) w.heap.size rfl (.tmp 76) (.tmp 77) 22 27 (.agg #[(.int .i64 0), (.string ⟨#[]⟩), (.bool false)]) 32 rfl Try.underlying22 info27 rfl (by decide) (by omega) v441 y440 t433 _ _ _ (fun k_ => some k_ ≠ (.slice Ao30 x7_1.length co30 : Value).ownBlock ∧ some k_ ≠ (.slice Ao10 t409.length co10 : Value).ownBlock ∧ some k_ ≠ (.slice Ao44 t425.length co44 : Value).ownBlock ∧ some k_ ≠ (.slice Ao46 t433.length co46 : Value).ownBlock) (fun _ => False) rfl rfl ?aO ?aR (fun _ _ h => h) (fun _ h => h.elim) ?aF ?aB ?aS ?aL ?_; (case aR => repeat (first | exact (Kd.R_reads' HO435.out).2.2 | (with_reducible refine Kd.C_alloc ?_ _) | (with_reducible refine Kd.C_drewN ?_ _) | (with_reducible refine Kd.C_drew ?_))); (case aB => exact (by repeat (first | (with_reducible first | exact HB.out | apply below_alloc | apply pw_below_drewN | apply below_drew1 | refine below_set ?_ GE413.out | refine below_set ?_ GE436.out) | exact HB.out))); (case aF => exact (fun k_ hk => ⟨Kd.fresh' (Kd.R_lt (by (with_reducible repeat (first | apply Kd.R_alloc | apply Kd.R_drewN | apply Kd.R_drew)); exact HO_7.out)) k_ hk, Kd.fresh' (Kd.R_lt (by (with_reducible repeat (first | apply Kd.R_alloc | apply Kd.R_drewN | apply Kd.R_drew)); exact HO_414001.out)) k_ hk, Kd.fresh' (Kd.R_lt (by (with_reducible repeat (first | apply Kd.R_alloc | apply Kd.R_drewN | apply Kd.R_drew)); exact HO427.out)) k_ hk, Kd.fresh' (Kd.R_lt (by (with_reducible repeat (first | apply Kd.R_alloc | apply Kd.R_drewN | apply Kd.R_drew)); exact HO435.out)) k_ hk⟩)); (case aO => exact (by (with_reducible repeat (first | apply Kd.R_alloc | apply Kd.R_drewN | apply Kd.R_drew)); exact HO442.out)); (case aS => exact (below_size (by repeat (first | (with_reducible first | exact HB.out | apply below_alloc | apply pw_below_drewN | apply below_drew1 | refine below_set ?_ GE413.out | refine below_set ?_ GE436.out) | exact HB.out)))); (case aL => have := LMc28.out; omega); intro v444 w45 ho hb hg hat; rw [← Ny443.out] at ho; have n0_ := Aside0.mk (Kd.R_after (ok := (fun k_ => some k_ ≠ (.slice Ao10 t409.length co10 : Value).ownBlock ∧ some k_ ≠ (.slice Ao44 t425.length co44 : Value).ownBlock ∧ some k_ ≠ (.slice Ao46 t433.length co46 : Value).ownBlock)) (by (with_reducible repeat (first | apply Kd.R_alloc | apply Kd.R_drewN | apply Kd.R_drew)); exact HO_7.out) hg hat); have n1_ := Aside0.mk (Kd.R_after (ok := (fun k_ => some k_ ≠ (.slice Ao30 x7_1.length co30 : Value).ownBlock ∧ some k_ ≠ (.slice Ao44 t425.length co44 : Value).ownBlock ∧ some k_ ≠ (.slice Ao46 t433.length co46 : Value).ownBlock)) (by (with_reducible repeat (first | apply Kd.R_alloc | apply Kd.R_drewN | apply Kd.R_drew)); exact HO_414001.out) hg hat); have n2_ := Aside0.mk (blk_grown (g := gb413) (o := .cells #[.int .i64 t421, .slice Ao33 t422.length co33] 24 (0, 0)) (by (with_reducible repeat (first | refine blk_drewN ?_ _ | refine blk_drew ?_ | refine blk_alloc ?_ _)); exact BK413.out) hg (Kd.R_ne HO442.out BK413.out (by decide))); have n3_ := Aside0.mk (Kd.V_afterv (ok := (fun k_ => some k_ ≠ (.slice Ao30 x7_1.length co30 : Value).ownBlock ∧ some k_ ≠ (.slice Ao44 t425.length co44 : Value).ownBlock ∧ some k_ ≠ (.slice Ao46 t433.length co46 : Value).ownBlock ∧ k_ ≠ gb413 ∧ k_ ≠ gb436)) (by (with_reducible repeat (first | apply Kd.V_alloc | apply Kd.V_drewN | apply Kd.V_drew)); exact HO424.out) hg hat); have n4_ := Aside0.mk (Kd.R_after (ok := (fun k_ => some k_ ≠ (.slice Ao30 x7_1.length co30 : Value).ownBlock ∧ some k_ ≠ (.slice Ao10 t409.length co10 : Value).ownBlock ∧ some k_ ≠ (.slice Ao46 t433.length co46 : Value).ownBlock)) (by (with_reducible repeat (first | apply Kd.R_alloc | apply Kd.R_drewN | apply Kd.R_drew)); exact HO427.out) hg hat); have n5_ := Aside0.mk (Kd.V_afterv (ok := (fun k_ => some k_ ≠ (.slice Ao30 x7_1.length co30 : Value).ownBlock ∧ some k_ ≠ (.slice Ao44 t425.length co44 : Value).ownBlock ∧ some k_ ≠ (.slice Ao46 t433.length co46 : Value).ownBlock ∧ k_ ≠ gb413 ∧ k_ ≠ gb436)) (by (with_reducible repeat (first | apply Kd.V_alloc | apply Kd.V_drewN | apply Kd.V_drew)); exact HO432.out) hg hat); have n6_ := Aside0.mk (Kd.R_after (ok := (fun k_ => some k_ ≠ (.slice Ao30 x7_1.length co30 : Value).ownBlock ∧ some k_ ≠ (.slice Ao10 t409.length co10 : Value).ownBlock ∧ some k_ ≠ (.slice Ao44 t425.length co44 : Value).ownBlock)) (by (with_reducible repeat (first | apply Kd.R_alloc | apply Kd.R_drewN | apply Kd.R_drew)); exact HO435.out) hg hat); have n7_ := Aside0.mk (blk_grown (g := gb436) (o := .cells #[.int .i64 t429, .slice Ao40 t430.length co40] 24 (0, 0)) (by (with_reducible repeat (first | refine blk_drewN ?_ _ | refine blk_drew ?_ | refine blk_alloc ?_ _)); exact BK436.out) hg (Kd.R_ne HO442.out BK436.out (by decide))); have n8_ := Aside0.mk (hb); have n9_ := Aside0.mk (ho); clear HO_7; clear HO_414001; clear BK413; clear HO424; clear HO427; clear HO432; clear HO435; clear BK436; clear HB; clear HO442; have HO_7 := n0_; have HO_414001 := n1_; have BK413 := n2_; have HO424 := n3_; have HO427 := n4_; have HO432 := n5_; have HO435 := n6_; have BK436 := n7_; have HB := n8_; have HO445 := n9_; clear n0_ n1_ n2_ n3_ n4_ n5_ n6_ n7_ n8_ n9_; clear ho hb hg hat))
              go_loopg [81] k1 (fun kq v81 w' => ∃ (x81_2 : Int), v81 = .int .i64 x81_2 ∧ Aside0 (weirkeeperlaw14_CacheKeeps.l2 kq t412 x7_1 t428 y443 x7_1 (x7_1.length : Int) x81_2 t421 t422 t429 t430 = some r) ∧ Aside0 (kq ≤ k1) ∧ Aside0 (Kd.R k27 27 w' w.heap.size (fun k_ => some k_ ≠ (v444 : Value).ownBlock) (.slice Ao30 x7_1.length co30) x7_1) ∧ Aside0 (Kd.R k27 27 w' w.heap.size (fun k_ => some k_ ≠ ((.slice Ao30 x7_1.length co30) : Value).ownBlock ∧ some k_ ≠ ((.slice Ao30 x7_1.length co30) : Value).ownBlock) v444 y443) ∧ Aside0 (Kd.R k27 27 w' w.heap.size (fun k_ => some k_ ≠ (v444 : Value).ownBlock) (.slice Ao30 x7_1.length co30) x7_1) ∧ Aside0 (Kd.V k27 27 w' w.heap.size (fun k_ => some k_ ≠ ((.slice Ao30 x7_1.length co30) : Value).ownBlock ∧ some k_ ≠ (v444 : Value).ownBlock ∧ some k_ ≠ ((.slice Ao30 x7_1.length co30) : Value).ownBlock ∧ k_ ≠ gb413 ∧ k_ ≠ gb436) (.slice Ao33 t422.length co33) t422) ∧ Aside0 (Kd.V k27 27 w' w.heap.size (fun k_ => some k_ ≠ ((.slice Ao30 x7_1.length co30) : Value).ownBlock ∧ some k_ ≠ (v444 : Value).ownBlock ∧ some k_ ≠ ((.slice Ao30 x7_1.length co30) : Value).ownBlock ∧ k_ ≠ gb413 ∧ k_ ≠ gb436) (.slice Ao40 t430.length co40) t430) ∧ Aside0 (w'.heap[gb413]? = some (.cells #[.int .i64 t421, (.slice Ao33 t422.length co33)] 24 (0, 0))) ∧ Aside0 (w'.heap[gb436]? = some (.cells #[.int .i64 t429, (.slice Ao40 t430.length co40)] 24 (0, 0))) ∧ Aside0 (Below w.heap.size w w'))
              case atStart => exact ⟨(0), (by first | rfl | (simp; done) | (simp [*]; done)), H', ⟨Nat.le_refl _⟩, ⟨by (with_reducible repeat (first | apply Kd.R_alloc | apply Kd.R_drewN | apply Kd.R_drew)); exact Kd.R_mono HO_7.out (fun _ hk => hk.2)⟩, ⟨by (with_reducible repeat (first | apply Kd.R_alloc | apply Kd.R_drewN | apply Kd.R_drew)); exact Kd.R_mono HO445.out (fun _ hk => ⟨hk.1, hk.1⟩)⟩, ⟨by (with_reducible repeat (first | apply Kd.R_alloc | apply Kd.R_drewN | apply Kd.R_drew)); exact Kd.R_mono HO_7.out (fun _ hk => hk.2)⟩, ⟨by (with_reducible repeat (first | apply Kd.V_alloc | apply Kd.V_drewN | apply Kd.V_drew)); exact Kd.V_mono HO424.out (fun _ hk => ⟨hk.1.1, ⟨hk.2, ⟨hk.1.1, ⟨hk.1.2.2.2.1, hk.1.2.2.2.2⟩⟩⟩⟩)⟩, ⟨by (with_reducible repeat (first | apply Kd.V_alloc | apply Kd.V_drewN | apply Kd.V_drew)); exact Kd.V_mono HO432.out (fun _ hk => ⟨hk.1.1, ⟨hk.2, ⟨hk.1.1, ⟨hk.1.2.2.2.1, hk.1.2.2.2.2⟩⟩⟩⟩)⟩, ⟨by (with_reducible repeat (first | refine blk_drewN ?_ _ | refine blk_drew ?_ | refine blk_alloc ?_ _)); exact BK413.out⟩, ⟨by (with_reducible repeat (first | refine blk_drewN ?_ _ | refine blk_drew ?_ | refine blk_alloc ?_ _)); exact BK436.out⟩, ⟨by repeat (first | (with_reducible first | exact HB.out | apply below_alloc | apply pw_below_drewN | apply below_drew1 | refine below_set ?_ GE413.out | refine below_set ?_ GE436.out) | exact HB.out)⟩⟩
              case round =>
                clear H'
                try clear c1
                try clear c2
                try clear p2
                try clear c3
                try clear c3b0
                try clear c3b1
                try clear p4
                try clear q4
                try clear hx4
                try clear c5
                try clear p6
                try clear c9
                try clear c11
                try clear c11b0
                try clear c12
                try clear c12b0
                try clear c13
                try clear c13b0
                try clear c14
                try clear c14b0
                try clear c15
                try clear c15b0
                try clear c15b1
                try clear c16
                try clear c17
                try clear c17b0
                try clear c18
                try clear c18b0
                try clear c19
                try clear c19b0
                try clear c20
                try clear c20b0
                try clear c20b1
                try clear c21
                try clear c23
                try clear c27
                try clear c28
                try clear c38
                try clear p41
                try clear q41
                try clear hx41
                try clear hcz29_0
                try clear hcz29_1
                try clear hcz32_0
                try clear hcz32_1
                try clear hcz35_0
                try clear hcz35_1
                try clear hcz39_0
                try clear hcz39_1
                try clear hcz9_0
                try clear hcz9_1
                try clear hfz29_0
                try clear hfz29_1
                try clear hfz32_0
                try clear hfz32_1
                try clear hfz35_0
                try clear hfz35_1
                try clear hfz39_0
                try clear hfz39_1
                try clear hfz9_0
                try clear hfz9_1
                try clear hx414_0
                try clear hx416_0
                try clear p2
                try clear p4
                try clear p414
                try clear p416
                try clear p6
                try clear q4
                try clear q414
                try clear q416
                obtain ⟨x81_2, rfl, HA, HK2, HO_7, HO_16, HO_79, HO_414001, HO_437001, BK413, BK436, HB⟩ := hrel
                cases gk with
                | zero => exact absurd HA.out (by simp [weirkeeperlaw14_CacheKeeps.l2])
                | succ k2 =>
                  have H := HA.out
                  clear HA
                  simp only [weirkeeperlaw14_CacheKeeps.l2] at H
                  by_cases c47 : x81_2 < (x7_1.length : Int)
                  · rw [if_pos c47] at H
                    have c47b0 : decide (x81_2 < (x7_1.length : Int)) = true := decide_eq_true c47
                    clear c47
                    by_cases c48 : 0 ≤ x81_2
                    · rw [if_pos c48] at H
                      have c48b0 : decide (0 ≤ x81_2) = true := decide_eq_true c48
                      clear c48
                      by_cases c49 : x81_2 < (x7_1.length : Int)
                      · rw [if_pos c49] at H
                        have c49b0 : decide (x81_2 < (x7_1.length : Int)) = true := decide_eq_true c49
                        clear c49
                        have H' := Aside0.mk H
                        clear H
                        have p455 : 0 ≤ (x81_2 : Int) := of_decide_eq_true (by first | (with_reducible assumption) | assumption)
                        have q455 : x81_2 < (x7_1.length : Int) := of_decide_eq_true (by first | (with_reducible assumption) | assumption)
                        obtain ⟨ad455, e455, hx455_0, hx455_1, hx455_2⟩ := at_T27 (Kd.R_reads' HO_79.out).2.2 x81_2 p455 q455
                        cases e455
                        replace p455 := eq_true p455
                        replace q455 := eq_true q455
                        go_wp2_with (first | ((with_reducible refine gate_dst (N := 18) rfl ?_); (try (refine gate_guard (by rfl) ?_; dsimp only)); refine box_event ?hg (N := 18) ?hd (cs := #[.int .i64 0, .string (⟨#[]⟩ : ByteArray), .bool false]) (t := 27) ?hr ?_; (case hd => rfl); (case hg => rfl); (case hr => first | (go_simp; done) | (go_simp; rfl)); intro gb456 hg w50 hbox hb; have n0_ := Aside0.mk (Kd.R_below (Kd.R_elderB (by (with_reducible repeat (first | apply Kd.R_alloc | apply Kd.R_drewN | apply Kd.R_drew)); exact HO_7.out) gb456 (Nat.le_of_eq hg.symm)) hb); have n1_ := Aside0.mk (Kd.R_below (Kd.R_elderB (by (with_reducible repeat (first | apply Kd.R_alloc | apply Kd.R_drewN | apply Kd.R_drew)); exact HO_16.out) gb456 (Nat.le_of_eq hg.symm)) hb); have n2_ := Aside0.mk (Kd.R_below (Kd.R_elderB (by (with_reducible repeat (first | apply Kd.R_alloc | apply Kd.R_drewN | apply Kd.R_drew)); exact HO_79.out) gb456 (Nat.le_of_eq hg.symm)) hb); have n3_ := Aside0.mk (Kd.V_below (Kd.V_elderB (by (with_reducible repeat (first | apply Kd.V_alloc | apply Kd.V_drewN | apply Kd.V_drew)); exact HO_414001.out) gb456 (Nat.le_of_eq hg.symm)) hb); have n4_ := Aside0.mk (Kd.V_below (Kd.V_elderB (by (with_reducible repeat (first | apply Kd.V_alloc | apply Kd.V_drewN | apply Kd.V_drew)); exact HO_437001.out) gb456 (Nat.le_of_eq hg.symm)) hb); have n5_ := Aside0.mk (blk_below (g := gb413) (o := .cells #[.int .i64 t421, .slice Ao33 t422.length co33] 24 (0, 0)) (by (with_reducible repeat (first | refine blk_drewN ?_ _ | refine blk_drew ?_ | refine blk_alloc ?_ _)); exact BK413.out) hb); have n6_ := Aside0.mk (blk_below (g := gb436) (o := .cells #[.int .i64 t429, .slice Ao40 t430.length co40] 24 (0, 0)) (by (with_reducible repeat (first | refine blk_drewN ?_ _ | refine blk_drew ?_ | refine blk_alloc ?_ _)); exact BK436.out) hb); have n7_ := Aside0.mk (below_step (by repeat (first | (with_reducible first | exact HB.out | apply below_alloc | apply pw_below_drewN | apply below_drew1 | refine below_set ?_ GE413.out | refine below_set ?_ GE436.out) | exact HB.out)) hb); have n8_ := Aside0.mk (hbox); have n9_ := Aside0.mk ((by rw [hg]; exact (below_size (by repeat (first | (with_reducible first | exact HB.out | apply below_alloc | apply pw_below_drewN | apply below_drew1 | refine below_set ?_ GE413.out | refine below_set ?_ GE436.out) | exact HB.out))) : w.heap.size ≤ gb456)); have n10_ := Aside0.mk ((by rw [hg]; exact (below_size (by repeat (first | (with_reducible first | exact HB.out | apply below_alloc | apply pw_below_drewN | apply below_drew1 | refine below_set ?_ GE413.out | refine below_set ?_ GE436.out) | exact HB.out))) : w.heap.size ≤ gb456)); have n11_ := Aside0.mk ((by rw [hg]; exact Nat.ne_of_lt (blk_lt (g := gb413) (o := .cells #[.int .i64 t421, .slice Ao33 t422.length co33] 24 (0, 0)) (by (with_reducible repeat (first | refine blk_drewN ?_ _ | refine blk_drew ?_ | refine blk_alloc ?_ _)); exact BK413.out)) : gb413 ≠ gb456)); have n12_ := Aside0.mk ((by rw [hg]; exact Nat.ne_of_gt (blk_lt (g := gb413) (o := .cells #[.int .i64 t421, .slice Ao33 t422.length co33] 24 (0, 0)) (by (with_reducible repeat (first | refine blk_drewN ?_ _ | refine blk_drew ?_ | refine blk_alloc ?_ _)); exact BK413.out)) : gb456 ≠ gb413)); have n13_ := Aside0.mk ((by rw [hg]; exact Nat.ne_of_lt (blk_lt (g := gb436) (o := .cells #[.int .i64 t429, .slice Ao40 t430.length co40] 24 (0, 0)) (by (with_reducible repeat (first | refine blk_drewN ?_ _ | refine blk_drew ?_ | refine blk_alloc ?_ _)); exact BK436.out)) : gb436 ≠ gb456)); have n14_ := Aside0.mk ((by rw [hg]; exact Nat.ne_of_gt (blk_lt (g := gb436) (o := .cells #[.int .i64 t429, .slice Ao40 t430.length co40] 24 (0, 0)) (by (with_reducible repeat (first | refine blk_drewN ?_ _ | refine blk_drew ?_ | refine blk_alloc ?_ _)); exact BK436.out)) : gb456 ≠ gb436)); clear HO_7; clear HO_16; clear HO_79; clear HO_414001; clear HO_437001; clear BK413; clear BK436; clear HB; have HO_7 := n0_; have HO_16 := n1_; have HO_79 := n2_; have HO_414001 := n3_; have HO_437001 := n4_; have BK413 := n5_; have BK436 := n6_; have HB := n7_; have BK456 := n8_; have GW456 := n9_; have GE456 := n10_; have NB413_456 := n11_; have NB456_413 := n12_; have NB436_456 := n13_; have NB456_436 := n14_; clear n0_ n1_ n2_ n3_ n4_ n5_ n6_ n7_ n8_ n9_ n10_ n11_ n12_ n13_ n14_; clear hb hbox hg; have hnb51 := NB456_413.out; have hnc51 := NB413_456.out; have hnb52 := NB456_436.out; have hnc52 := NB436_456.out; have hcz53_0 : w50.cell? ⟨gb456, 0, none⟩ = some (.int .i64 0) := (blk_cell BK456.out 0).trans rfl; have hcz53_1 : w50.cell? ⟨gb456, 1, none⟩ = some (.string (⟨#[]⟩ : ByteArray)) := (blk_cell BK456.out 1).trans rfl; have hcz53_2 : w50.cell? ⟨gb456, 2, none⟩ = some (.bool false) := (blk_cell BK456.out 2).trans rfl; have hfz53_0 := blk_frozen BK456.out 0; have hfz53_1 := blk_frozen BK456.out 1; have hfz53_2 := blk_frozen BK456.out 2; obtain ⟨Ao54, co54, eo54⟩ := Kd.R_slice HO_16.out; subst eo54))
                        go_loopg [19, 87] k2 (fun kq v19 v87 w' => ∃ (x19_3 : Int) (x87_3 : Int), v19 = .int .i64 x19_3 ∧ v87 = .int .i64 x87_3 ∧ Aside0 (weirkeeperlaw14_CacheKeeps.l3 kq t412 x7_1 t428 y443 x19_3 x7_1 (x7_1.length : Int) x81_2 y443 (y443.length : Int) x87_3 t421 t422 t429 t430 ((rd_T27 x7_1 x81_2).f0) ((rd_T27 x7_1 x81_2).f1) ((rd_T27 x7_1 x81_2).f2) = some r) ∧ Aside0 (kq ≤ k2) ∧ Aside0 (Kd.R k27 27 w' w.heap.size (fun k_ => some k_ ≠ ((.slice Ao54 y443.length co54) : Value).ownBlock ∧ some k_ ≠ ((.slice Ao54 y443.length co54) : Value).ownBlock ∧ k_ ≠ gb456) (.slice (some ad455) x7_1.length co30) x7_1) ∧ Aside0 (Kd.R k27 27 w' w.heap.size (fun k_ => some k_ ≠ ((.slice (some ad455) x7_1.length co30) : Value).ownBlock ∧ some k_ ≠ ((.slice (some ad455) x7_1.length co30) : Value).ownBlock ∧ k_ ≠ gb456) (.slice Ao54 y443.length co54) y443) ∧ Aside0 (Kd.R k27 27 w' w.heap.size (fun k_ => some k_ ≠ ((.slice Ao54 y443.length co54) : Value).ownBlock ∧ some k_ ≠ ((.slice Ao54 y443.length co54) : Value).ownBlock ∧ k_ ≠ gb456) (.slice (some ad455) x7_1.length co30) x7_1) ∧ Aside0 (Kd.R k27 27 w' w.heap.size (fun k_ => some k_ ≠ ((.slice (some ad455) x7_1.length co30) : Value).ownBlock ∧ some k_ ≠ ((.slice (some ad455) x7_1.length co30) : Value).ownBlock ∧ k_ ≠ gb456) (.slice Ao54 y443.length co54) y443) ∧ Aside0 (Kd.V k27 27 w' w.heap.size (fun k_ => some k_ ≠ ((.slice (some ad455) x7_1.length co30) : Value).ownBlock ∧ some k_ ≠ ((.slice Ao54 y443.length co54) : Value).ownBlock ∧ some k_ ≠ ((.slice (some ad455) x7_1.length co30) : Value).ownBlock ∧ some k_ ≠ ((.slice Ao54 y443.length co54) : Value).ownBlock ∧ k_ ≠ gb413 ∧ k_ ≠ gb436 ∧ k_ ≠ gb456) (.slice Ao33 t422.length co33) t422) ∧ Aside0 (Kd.V k27 27 w' w.heap.size (fun k_ => some k_ ≠ ((.slice (some ad455) x7_1.length co30) : Value).ownBlock ∧ some k_ ≠ ((.slice Ao54 y443.length co54) : Value).ownBlock ∧ some k_ ≠ ((.slice (some ad455) x7_1.length co30) : Value).ownBlock ∧ some k_ ≠ ((.slice Ao54 y443.length co54) : Value).ownBlock ∧ k_ ≠ gb413 ∧ k_ ≠ gb436 ∧ k_ ≠ gb456) (.slice Ao40 t430.length co40) t430) ∧ Aside0 (w'.heap[gb413]? = some (.cells #[.int .i64 t421, (.slice Ao33 t422.length co33)] 24 (0, 0))) ∧ Aside0 (w'.heap[gb436]? = some (.cells #[.int .i64 t429, (.slice Ao40 t430.length co40)] 24 (0, 0))) ∧ Aside0 (w'.heap[gb456]? = some (.cells #[.int .i64 ((rd_T27 x7_1 x81_2).f0), .string ((rd_T27 x7_1 x81_2).f1), .bool ((rd_T27 x7_1 x81_2).f2)] 27 (0, 0))) ∧ Aside0 (Below w.heap.size w w'))
                        case atStart => exact ⟨(0), (0), (by first | rfl | (simp; done) | (simp [*]; done)), (by first | rfl | (simp; done) | (simp [*]; done)), H', ⟨Nat.le_refl _⟩, ⟨by (with_reducible repeat (first | apply Kd.R_alloc | apply Kd.R_drewN | apply Kd.R_drew)); exact Kd.R_mono (Kd.R_far (p := ⟨gb456, 2, none⟩) (Kd.R_far (p := ⟨gb456, 1, none⟩) (Kd.R_far (p := ⟨gb456, 0, none⟩) (Kd.R_mono HO_7.out (fun k_ hk => (⟨hk, hk.2⟩ : _ ∧ k_ ≠ gb456))) (fun _ hk => hk.2) (.int .i64 ((rd_T27 x7_1 x81_2).f0))) (fun _ hk => hk.2) (.string ((rd_T27 x7_1 x81_2).f1))) (fun _ hk => hk.2) (.bool ((rd_T27 x7_1 x81_2).f2))) (fun _ hk => ⟨hk.1.1, ⟨hk.1.1, hk.1.2⟩⟩)⟩, ⟨by (with_reducible repeat (first | apply Kd.R_alloc | apply Kd.R_drewN | apply Kd.R_drew)); exact Kd.R_mono (Kd.R_far (p := ⟨gb456, 2, none⟩) (Kd.R_far (p := ⟨gb456, 1, none⟩) (Kd.R_far (p := ⟨gb456, 0, none⟩) (Kd.R_mono HO_16.out (fun k_ hk => (⟨hk, hk.2⟩ : _ ∧ k_ ≠ gb456))) (fun _ hk => hk.2) (.int .i64 ((rd_T27 x7_1 x81_2).f0))) (fun _ hk => hk.2) (.string ((rd_T27 x7_1 x81_2).f1))) (fun _ hk => hk.2) (.bool ((rd_T27 x7_1 x81_2).f2))) (fun _ hk => ⟨hk.1.1.1, ⟨hk.1.1.2, hk.1.2⟩⟩)⟩, ⟨by (with_reducible repeat (first | apply Kd.R_alloc | apply Kd.R_drewN | apply Kd.R_drew)); exact Kd.R_mono (Kd.R_far (p := ⟨gb456, 2, none⟩) (Kd.R_far (p := ⟨gb456, 1, none⟩) (Kd.R_far (p := ⟨gb456, 0, none⟩) (Kd.R_mono HO_79.out (fun k_ hk => (⟨hk, hk.2⟩ : _ ∧ k_ ≠ gb456))) (fun _ hk => hk.2) (.int .i64 ((rd_T27 x7_1 x81_2).f0))) (fun _ hk => hk.2) (.string ((rd_T27 x7_1 x81_2).f1))) (fun _ hk => hk.2) (.bool ((rd_T27 x7_1 x81_2).f2))) (fun _ hk => ⟨hk.1.1, ⟨hk.1.1, hk.1.2⟩⟩)⟩, ⟨by (with_reducible repeat (first | apply Kd.R_alloc | apply Kd.R_drewN | apply Kd.R_drew)); exact Kd.R_mono (Kd.R_far (p := ⟨gb456, 2, none⟩) (Kd.R_far (p := ⟨gb456, 1, none⟩) (Kd.R_far (p := ⟨gb456, 0, none⟩) (Kd.R_mono HO_16.out (fun k_ hk => (⟨hk, hk.2⟩ : _ ∧ k_ ≠ gb456))) (fun _ hk => hk.2) (.int .i64 ((rd_T27 x7_1 x81_2).f0))) (fun _ hk => hk.2) (.string ((rd_T27 x7_1 x81_2).f1))) (fun _ hk => hk.2) (.bool ((rd_T27 x7_1 x81_2).f2))) (fun _ hk => ⟨hk.1.1.1, ⟨hk.1.1.2, hk.1.2⟩⟩)⟩, ⟨by (with_reducible repeat (first | apply Kd.V_alloc | apply Kd.V_drewN | apply Kd.V_drew)); exact Kd.V_mono (Kd.V_far (p := ⟨gb456, 2, none⟩) (Kd.V_far (p := ⟨gb456, 1, none⟩) (Kd.V_far (p := ⟨gb456, 0, none⟩) (Kd.V_mono HO_414001.out (fun k_ hk => (⟨hk, hk.2⟩ : _ ∧ k_ ≠ gb456))) (fun _ hk => hk.2) (.int .i64 ((rd_T27 x7_1 x81_2).f0))) (fun _ hk => hk.2) (.string ((rd_T27 x7_1 x81_2).f1))) (fun _ hk => hk.2) (.bool ((rd_T27 x7_1 x81_2).f2))) (fun _ hk => ⟨hk.1.1.1, ⟨hk.1.1.2.1, ⟨hk.1.1.2.2.1, ⟨hk.1.1.2.1, ⟨hk.1.1.2.2.2.1, ⟨hk.1.1.2.2.2.2, hk.1.2⟩⟩⟩⟩⟩⟩)⟩, ⟨by (with_reducible repeat (first | apply Kd.V_alloc | apply Kd.V_drewN | apply Kd.V_drew)); exact Kd.V_mono (Kd.V_far (p := ⟨gb456, 2, none⟩) (Kd.V_far (p := ⟨gb456, 1, none⟩) (Kd.V_far (p := ⟨gb456, 0, none⟩) (Kd.V_mono HO_437001.out (fun k_ hk => (⟨hk, hk.2⟩ : _ ∧ k_ ≠ gb456))) (fun _ hk => hk.2) (.int .i64 ((rd_T27 x7_1 x81_2).f0))) (fun _ hk => hk.2) (.string ((rd_T27 x7_1 x81_2).f1))) (fun _ hk => hk.2) (.bool ((rd_T27 x7_1 x81_2).f2))) (fun _ hk => ⟨hk.1.1.1, ⟨hk.1.1.2.1, ⟨hk.1.1.2.2.1, ⟨hk.1.1.2.1, ⟨hk.1.1.2.2.2.1, ⟨hk.1.1.2.2.2.2, hk.1.2⟩⟩⟩⟩⟩⟩)⟩, ⟨by (with_reducible repeat (first | refine blk_drewN ?_ _ | refine blk_drew ?_ | refine blk_alloc ?_ _)); refine blk_far ?_ NB413_456.out _; (with_reducible repeat (first | refine blk_drewN ?_ _ | refine blk_drew ?_ | refine blk_alloc ?_ _)); refine blk_far ?_ NB413_456.out _; (with_reducible repeat (first | refine blk_drewN ?_ _ | refine blk_drew ?_ | refine blk_alloc ?_ _)); refine blk_far ?_ NB413_456.out _; (with_reducible repeat (first | refine blk_drewN ?_ _ | refine blk_drew ?_ | refine blk_alloc ?_ _)); exact BK413.out⟩, ⟨by (with_reducible repeat (first | refine blk_drewN ?_ _ | refine blk_drew ?_ | refine blk_alloc ?_ _)); refine blk_far ?_ NB436_456.out _; (with_reducible repeat (first | refine blk_drewN ?_ _ | refine blk_drew ?_ | refine blk_alloc ?_ _)); refine blk_far ?_ NB436_456.out _; (with_reducible repeat (first | refine blk_drewN ?_ _ | refine blk_drew ?_ | refine blk_alloc ?_ _)); refine blk_far ?_ NB436_456.out _; (with_reducible repeat (first | refine blk_drewN ?_ _ | refine blk_drew ?_ | refine blk_alloc ?_ _)); exact BK436.out⟩, ⟨by (with_reducible repeat (first | refine blk_drewN ?_ _ | refine blk_drew ?_ | refine blk_alloc ?_ _)); refine blk_put (cs := #[.int .i64 ((rd_T27 x7_1 x81_2).f0), .string ((rd_T27 x7_1 x81_2).f1), .bool false]) ?_ 2 _ rfl; (with_reducible repeat (first | refine blk_drewN ?_ _ | refine blk_drew ?_ | refine blk_alloc ?_ _)); refine blk_put (cs := #[.int .i64 ((rd_T27 x7_1 x81_2).f0), .string (⟨#[]⟩ : ByteArray), .bool false]) ?_ 1 _ rfl; (with_reducible repeat (first | refine blk_drewN ?_ _ | refine blk_drew ?_ | refine blk_alloc ?_ _)); refine blk_put (cs := #[.int .i64 0, .string (⟨#[]⟩ : ByteArray), .bool false]) ?_ 0 _ rfl; (with_reducible repeat (first | refine blk_drewN ?_ _ | refine blk_drew ?_ | refine blk_alloc ?_ _)); exact BK456.out⟩, ⟨by repeat (first | (with_reducible first | exact HB.out | apply below_alloc | apply pw_below_drewN | apply below_drew1 | refine below_set ?_ GE413.out | refine below_set ?_ GE436.out | refine below_set ?_ GE456.out) | exact HB.out)⟩⟩
                        case round =>
                          clear H'
                          try clear c1
                          try clear c2
                          try clear p2
                          try clear c3
                          try clear c3b0
                          try clear c3b1
                          try clear c4
                          try clear p4
                          try clear q4
                          try clear hx4
                          try clear c5
                          try clear p6
                          try clear c9
                          try clear c11
                          try clear c11b0
                          try clear c12
                          try clear c12b0
                          try clear c13
                          try clear c13b0
                          try clear c14
                          try clear c14b0
                          try clear c15
                          try clear c15b0
                          try clear c15b1
                          try clear c16
                          try clear c17
                          try clear c17b0
                          try clear c18
                          try clear c18b0
                          try clear c19
                          try clear c19b0
                          try clear c20
                          try clear c20b0
                          try clear c20b1
                          try clear c21
                          try clear c23
                          try clear c27
                          try clear c28
                          try clear c38
                          try clear p41
                          try clear q41
                          try clear hx41
                          try clear p45
                          try clear q45
                          try clear hx45
                          try clear c47
                          try clear c47b0
                          try clear c48
                          try clear c48b0
                          try clear c49
                          try clear c49b0
                          try clear c51
                          try clear c52
                          try clear hcz29_0
                          try clear hcz29_1
                          try clear hcz32_0
                          try clear hcz32_1
                          try clear hcz35_0
                          try clear hcz35_1
                          try clear hcz39_0
                          try clear hcz39_1
                          try clear hcz53_0
                          try clear hcz53_1
                          try clear hcz53_2
                          try clear hcz9_0
                          try clear hcz9_1
                          try clear hfz29_0
                          try clear hfz29_1
                          try clear hfz32_0
                          try clear hfz32_1
                          try clear hfz35_0
                          try clear hfz35_1
                          try clear hfz39_0
                          try clear hfz39_1
                          try clear hfz53_0
                          try clear hfz53_1
                          try clear hfz53_2
                          try clear hfz9_0
                          try clear hfz9_1
                          try clear hx414_0
                          try clear hx416_0
                          try clear hx455_0
                          try clear hx455_1
                          try clear hx455_2
                          try clear p2
                          try clear p4
                          try clear p41
                          try clear p414
                          try clear p416
                          try clear p455
                          try clear p6
                          try clear q4
                          try clear q41
                          try clear q414
                          try clear q416
                          try clear q455
                          obtain ⟨x19_3, x87_3, rfl, rfl, HA, HK3, HO_7, HO_16, HO_79, HO_85, HO_414001, HO_437001, BK413, BK436, BK456, HB⟩ := hrel
                          cases gk with
                          | zero => exact absurd HA.out (by simp [weirkeeperlaw14_CacheKeeps.l3])
                          | succ k3 =>
                            have H := HA.out
                            clear HA
                            simp only [weirkeeperlaw14_CacheKeeps.l3] at H
                            by_cases c55 : x87_3 < (y443.length : Int)
                            · rw [if_pos c55] at H
                              have c55b0 : decide (x87_3 < (y443.length : Int)) = true := decide_eq_true c55
                              clear c55
                              by_cases c56 : 0 ≤ x87_3
                              · rw [if_pos c56] at H
                                have c56b0 : decide (0 ≤ x87_3) = true := decide_eq_true c56
                                clear c56
                                by_cases c57 : x87_3 < (y443.length : Int)
                                · rw [if_pos c57] at H
                                  have c57b0 : decide (x87_3 < (y443.length : Int)) = true := decide_eq_true c57
                                  clear c57
                                  by_cases c58 : (((rd_T27 y443 x87_3).f0) == ((rd_T27 x7_1 x81_2).f0) && ((((rd_T27 y443 x87_3).f1).toList) == ((rd_T27 x7_1 x81_2).f1).toList && (((rd_T27 y443 x87_3).f2) == ((rd_T27 x7_1 x81_2).f2)))) = true
                                  · rw [if_pos c58] at H
                                    have c58b0 : (((rd_T27 y443 x87_3).f0) == ((rd_T27 x7_1 x81_2).f0) && ((((rd_T27 y443 x87_3).f1).toList) == ((rd_T27 x7_1 x81_2).f1).toList && (((rd_T27 y443 x87_3).f2) == ((rd_T27 x7_1 x81_2).f2)))) = true := c58
                                    (try (have c58b1 : decide (((rd_T27 y443 x87_3).f0) = ((rd_T27 x7_1 x81_2).f0) && ((((rd_T27 y443 x87_3).f1).toList) == ((rd_T27 x7_1 x81_2).f1).toList && (((rd_T27 y443 x87_3).f2) == ((rd_T27 x7_1 x81_2).f2)))) = true := by simpa using c58))
                                    (try (have c58b2 : (((rd_T27 y443 x87_3).f0) == ((rd_T27 x7_1 x81_2).f0) && ((((rd_T27 y443 x87_3).f1).toList) == ((rd_T27 x7_1 x81_2).f1).toList && (((rd_T27 y443 x87_3).f2) == ((rd_T27 x7_1 x81_2).f2)))) = true := by simpa using c58))
                                    clear c58
                                    have H' := Aside0.mk H
                                    clear H
                                    have p457 : 0 ≤ (x87_3 : Int) := of_decide_eq_true (by first | (with_reducible assumption) | assumption)
                                    have q457 : x87_3 < (y443.length : Int) := of_decide_eq_true (by first | (with_reducible assumption) | assumption)
                                    obtain ⟨ad457, e457, hx457_0, hx457_1, hx457_2⟩ := at_T27 (Kd.R_reads' HO_85.out).2.2 x87_3 p457 q457
                                    cases e457
                                    replace p457 := eq_true p457
                                    replace q457 := eq_true q457
                                    go_wp2_with (first | ((with_reducible refine gate_dst (N := 21) rfl ?_); (try (refine gate_guard (by rfl) ?_; dsimp only)); refine box_event ?hg (N := 21) ?hd (cs := #[.int .i64 0, .string (⟨#[]⟩ : ByteArray), .bool false]) (t := 27) ?hr ?_; (case hd => rfl); (case hg => rfl); (case hr => first | (go_simp; done) | (go_simp; rfl)); intro gb458 hg w59 hbox hb; have n0_ := Aside0.mk (Kd.R_below (Kd.R_elderB (by (with_reducible repeat (first | apply Kd.R_alloc | apply Kd.R_drewN | apply Kd.R_drew)); exact HO_7.out) gb458 (Nat.le_of_eq hg.symm)) hb); have n1_ := Aside0.mk (Kd.R_below (Kd.R_elderB (by (with_reducible repeat (first | apply Kd.R_alloc | apply Kd.R_drewN | apply Kd.R_drew)); exact HO_16.out) gb458 (Nat.le_of_eq hg.symm)) hb); have n2_ := Aside0.mk (Kd.R_below (Kd.R_elderB (by (with_reducible repeat (first | apply Kd.R_alloc | apply Kd.R_drewN | apply Kd.R_drew)); exact HO_79.out) gb458 (Nat.le_of_eq hg.symm)) hb); have n3_ := Aside0.mk (Kd.R_below (Kd.R_elderB (by (with_reducible repeat (first | apply Kd.R_alloc | apply Kd.R_drewN | apply Kd.R_drew)); exact HO_85.out) gb458 (Nat.le_of_eq hg.symm)) hb); have n4_ := Aside0.mk (Kd.V_below (Kd.V_elderB (by (with_reducible repeat (first | apply Kd.V_alloc | apply Kd.V_drewN | apply Kd.V_drew)); exact HO_414001.out) gb458 (Nat.le_of_eq hg.symm)) hb); have n5_ := Aside0.mk (Kd.V_below (Kd.V_elderB (by (with_reducible repeat (first | apply Kd.V_alloc | apply Kd.V_drewN | apply Kd.V_drew)); exact HO_437001.out) gb458 (Nat.le_of_eq hg.symm)) hb); have n6_ := Aside0.mk (blk_below (g := gb413) (o := .cells #[.int .i64 t421, .slice Ao33 t422.length co33] 24 (0, 0)) (by (with_reducible repeat (first | refine blk_drewN ?_ _ | refine blk_drew ?_ | refine blk_alloc ?_ _)); exact BK413.out) hb); have n7_ := Aside0.mk (blk_below (g := gb436) (o := .cells #[.int .i64 t429, .slice Ao40 t430.length co40] 24 (0, 0)) (by (with_reducible repeat (first | refine blk_drewN ?_ _ | refine blk_drew ?_ | refine blk_alloc ?_ _)); exact BK436.out) hb); have n8_ := Aside0.mk (blk_below (g := gb456) (o := .cells #[.int .i64 ((rd_T27 x7_1 x81_2).f0), .string ((rd_T27 x7_1 x81_2).f1), .bool ((rd_T27 x7_1 x81_2).f2)] 27 (0, 0)) (by (with_reducible repeat (first | refine blk_drewN ?_ _ | refine blk_drew ?_ | refine blk_alloc ?_ _)); exact BK456.out) hb); have n9_ := Aside0.mk (below_step (by repeat (first | (with_reducible first | exact HB.out | apply below_alloc | apply pw_below_drewN | apply below_drew1 | refine below_set ?_ GE413.out | refine below_set ?_ GE436.out | refine below_set ?_ GE456.out) | exact HB.out)) hb); have n10_ := Aside0.mk (hbox); have n11_ := Aside0.mk ((by rw [hg]; exact (below_size (by repeat (first | (with_reducible first | exact HB.out | apply below_alloc | apply pw_below_drewN | apply below_drew1 | refine below_set ?_ GE413.out | refine below_set ?_ GE436.out | refine below_set ?_ GE456.out) | exact HB.out))) : w.heap.size ≤ gb458)); have n12_ := Aside0.mk ((by rw [hg]; exact (below_size (by repeat (first | (with_reducible first | exact HB.out | apply below_alloc | apply pw_below_drewN | apply below_drew1 | refine below_set ?_ GE413.out | refine below_set ?_ GE436.out | refine below_set ?_ GE456.out) | exact HB.out))) : w.heap.size ≤ gb458)); have n13_ := Aside0.mk ((by rw [hg]; exact Nat.ne_of_lt (blk_lt (g := gb413) (o := .cells #[.int .i64 t421, .slice Ao33 t422.length co33] 24 (0, 0)) (by (with_reducible repeat (first | refine blk_drewN ?_ _ | refine blk_drew ?_ | refine blk_alloc ?_ _)); exact BK413.out)) : gb413 ≠ gb458)); have n14_ := Aside0.mk ((by rw [hg]; exact Nat.ne_of_gt (blk_lt (g := gb413) (o := .cells #[.int .i64 t421, .slice Ao33 t422.length co33] 24 (0, 0)) (by (with_reducible repeat (first | refine blk_drewN ?_ _ | refine blk_drew ?_ | refine blk_alloc ?_ _)); exact BK413.out)) : gb458 ≠ gb413)); have n15_ := Aside0.mk ((by rw [hg]; exact Nat.ne_of_lt (blk_lt (g := gb436) (o := .cells #[.int .i64 t429, .slice Ao40 t430.length co40] 24 (0, 0)) (by (with_reducible repeat (first | refine blk_drewN ?_ _ | refine blk_drew ?_ | refine blk_alloc ?_ _)); exact BK436.out)) : gb436 ≠ gb458)); have n16_ := Aside0.mk ((by rw [hg]; exact Nat.ne_of_gt (blk_lt (g := gb436) (o := .cells #[.int .i64 t429, .slice Ao40 t430.length co40] 24 (0, 0)) (by (with_reducible repeat (first | refine blk_drewN ?_ _ | refine blk_drew ?_ | refine blk_alloc ?_ _)); exact BK436.out)) : gb458 ≠ gb436)); have n17_ := Aside0.mk ((by rw [hg]; exact Nat.ne_of_lt (blk_lt (g := gb456) (o := .cells #[.int .i64 ((rd_T27 x7_1 x81_2).f0), .string ((rd_T27 x7_1 x81_2).f1), .bool ((rd_T27 x7_1 x81_2).f2)] 27 (0, 0)) (by (with_reducible repeat (first | refine blk_drewN ?_ _ | refine blk_drew ?_ | refine blk_alloc ?_ _)); exact BK456.out)) : gb456 ≠ gb458)); have n18_ := Aside0.mk ((by rw [hg]; exact Nat.ne_of_gt (blk_lt (g := gb456) (o := .cells #[.int .i64 ((rd_T27 x7_1 x81_2).f0), .string ((rd_T27 x7_1 x81_2).f1), .bool ((rd_T27 x7_1 x81_2).f2)] 27 (0, 0)) (by (with_reducible repeat (first | refine blk_drewN ?_ _ | refine blk_drew ?_ | refine blk_alloc ?_ _)); exact BK456.out)) : gb458 ≠ gb456)); clear HO_7; clear HO_16; clear HO_79; clear HO_85; clear HO_414001; clear HO_437001; clear BK413; clear BK436; clear BK456; clear HB; have HO_7 := n0_; have HO_16 := n1_; have HO_79 := n2_; have HO_85 := n3_; have HO_414001 := n4_; have HO_437001 := n5_; have BK413 := n6_; have BK436 := n7_; have BK456 := n8_; have HB := n9_; have BK458 := n10_; have GW458 := n11_; have GE458 := n12_; have NB413_458 := n13_; have NB458_413 := n14_; have NB436_458 := n15_; have NB458_436 := n16_; have NB456_458 := n17_; have NB458_456 := n18_; clear n0_ n1_ n2_ n3_ n4_ n5_ n6_ n7_ n8_ n9_ n10_ n11_ n12_ n13_ n14_ n15_ n16_ n17_ n18_; clear hb hbox hg; have hnb60 := NB458_413.out; have hnc60 := NB413_458.out; have hnb61 := NB458_436.out; have hnc61 := NB436_458.out; have hnb62 := NB458_456.out; have hnc62 := NB456_458.out; have hcz63_0 : w59.cell? ⟨gb458, 0, none⟩ = some (.int .i64 0) := (blk_cell BK458.out 0).trans rfl; have hcz63_1 : w59.cell? ⟨gb458, 1, none⟩ = some (.string (⟨#[]⟩ : ByteArray)) := (blk_cell BK458.out 1).trans rfl; have hcz63_2 : w59.cell? ⟨gb458, 2, none⟩ = some (.bool false) := (blk_cell BK458.out 2).trans rfl; have hfz63_0 := blk_frozen BK458.out 0; have hfz63_1 := blk_frozen BK458.out 1; have hfz63_2 := blk_frozen BK458.out 2; have hnb64 := NB456_413.out; have hnc64 := NB413_456.out; have hnb65 := NB456_436.out; have hnc65 := NB436_456.out; have hcz66_0 : w59.cell? ⟨gb456, 0, none⟩ = some (.int .i64 ((rd_T27 x7_1 x81_2).f0)) := (blk_cell BK456.out 0).trans rfl; have hcz66_1 : w59.cell? ⟨gb456, 1, none⟩ = some (.string ((rd_T27 x7_1 x81_2).f1)) := (blk_cell BK456.out 1).trans rfl; have hcz66_2 : w59.cell? ⟨gb456, 2, none⟩ = some (.bool ((rd_T27 x7_1 x81_2).f2)) := (blk_cell BK456.out 2).trans rfl; have hfz66_0 := blk_frozen BK456.out 0; have hfz66_1 := blk_frozen BK456.out 1; have hfz66_2 := blk_frozen BK456.out 2))
                                    go_roundg k3
                                    case measure => have := HK1.out; have := HK2.out; have := HK3.out; omega
                                    case rel => exact ⟨(wrap64 (x19_3 + 1)), (wrap64 (x87_3 + 1)), (by first | rfl | (simp; done) | (simp [*]; done)), (by first | rfl | (simp; done) | (simp [*]; done)), H', ⟨by have := HK1.out; have := HK2.out; have := HK3.out; omega⟩, ⟨by (with_reducible repeat (first | apply Kd.R_alloc | apply Kd.R_drewN | apply Kd.R_drew)); exact Kd.R_mono (Kd.R_far (p := ⟨gb458, 2, none⟩) (Kd.R_far (p := ⟨gb458, 1, none⟩) (Kd.R_far (p := ⟨gb458, 0, none⟩) (Kd.R_mono HO_7.out (fun k_ hk => (⟨hk, hk.2⟩ : _ ∧ k_ ≠ gb458))) (fun _ hk => hk.2) (.int .i64 ((rd_T27 y443 x87_3).f0))) (fun _ hk => hk.2) (.string ((rd_T27 y443 x87_3).f1))) (fun _ hk => hk.2) (.bool ((rd_T27 y443 x87_3).f2))) (fun _ hk => ⟨hk.1.1.1, ⟨hk.1.1.2.1, hk.1.1.2.2⟩⟩)⟩, ⟨by (with_reducible repeat (first | apply Kd.R_alloc | apply Kd.R_drewN | apply Kd.R_drew)); exact Kd.R_mono (Kd.R_far (p := ⟨gb458, 2, none⟩) (Kd.R_far (p := ⟨gb458, 1, none⟩) (Kd.R_far (p := ⟨gb458, 0, none⟩) (Kd.R_mono HO_16.out (fun k_ hk => (⟨hk, hk.2⟩ : _ ∧ k_ ≠ gb458))) (fun _ hk => hk.2) (.int .i64 ((rd_T27 y443 x87_3).f0))) (fun _ hk => hk.2) (.string ((rd_T27 y443 x87_3).f1))) (fun _ hk => hk.2) (.bool ((rd_T27 y443 x87_3).f2))) (fun _ hk => ⟨hk.1.1.1, ⟨hk.1.1.2.1, hk.1.1.2.2⟩⟩)⟩, ⟨by (with_reducible repeat (first | apply Kd.R_alloc | apply Kd.R_drewN | apply Kd.R_drew)); exact Kd.R_mono (Kd.R_far (p := ⟨gb458, 2, none⟩) (Kd.R_far (p := ⟨gb458, 1, none⟩) (Kd.R_far (p := ⟨gb458, 0, none⟩) (Kd.R_mono HO_79.out (fun k_ hk => (⟨hk, hk.2⟩ : _ ∧ k_ ≠ gb458))) (fun _ hk => hk.2) (.int .i64 ((rd_T27 y443 x87_3).f0))) (fun _ hk => hk.2) (.string ((rd_T27 y443 x87_3).f1))) (fun _ hk => hk.2) (.bool ((rd_T27 y443 x87_3).f2))) (fun _ hk => ⟨hk.1.1.1, ⟨hk.1.1.2.1, hk.1.1.2.2⟩⟩)⟩, ⟨by (with_reducible repeat (first | apply Kd.R_alloc | apply Kd.R_drewN | apply Kd.R_drew)); exact Kd.R_mono (Kd.R_far (p := ⟨gb458, 2, none⟩) (Kd.R_far (p := ⟨gb458, 1, none⟩) (Kd.R_far (p := ⟨gb458, 0, none⟩) (Kd.R_mono HO_85.out (fun k_ hk => (⟨hk, hk.2⟩ : _ ∧ k_ ≠ gb458))) (fun _ hk => hk.2) (.int .i64 ((rd_T27 y443 x87_3).f0))) (fun _ hk => hk.2) (.string ((rd_T27 y443 x87_3).f1))) (fun _ hk => hk.2) (.bool ((rd_T27 y443 x87_3).f2))) (fun _ hk => ⟨hk.1.1.1, ⟨hk.1.1.2.1, hk.1.1.2.2⟩⟩)⟩, ⟨by (with_reducible repeat (first | apply Kd.V_alloc | apply Kd.V_drewN | apply Kd.V_drew)); exact Kd.V_mono (Kd.V_far (p := ⟨gb458, 2, none⟩) (Kd.V_far (p := ⟨gb458, 1, none⟩) (Kd.V_far (p := ⟨gb458, 0, none⟩) (Kd.V_mono HO_414001.out (fun k_ hk => (⟨hk, hk.2⟩ : _ ∧ k_ ≠ gb458))) (fun _ hk => hk.2) (.int .i64 ((rd_T27 y443 x87_3).f0))) (fun _ hk => hk.2) (.string ((rd_T27 y443 x87_3).f1))) (fun _ hk => hk.2) (.bool ((rd_T27 y443 x87_3).f2))) (fun _ hk => ⟨hk.1.1.1, ⟨hk.1.1.2.1, ⟨hk.1.1.2.2.1, ⟨hk.1.1.2.2.2.1, ⟨hk.1.1.2.2.2.2.1, ⟨hk.1.1.2.2.2.2.2.1, hk.1.1.2.2.2.2.2.2⟩⟩⟩⟩⟩⟩)⟩, ⟨by (with_reducible repeat (first | apply Kd.V_alloc | apply Kd.V_drewN | apply Kd.V_drew)); exact Kd.V_mono (Kd.V_far (p := ⟨gb458, 2, none⟩) (Kd.V_far (p := ⟨gb458, 1, none⟩) (Kd.V_far (p := ⟨gb458, 0, none⟩) (Kd.V_mono HO_437001.out (fun k_ hk => (⟨hk, hk.2⟩ : _ ∧ k_ ≠ gb458))) (fun _ hk => hk.2) (.int .i64 ((rd_T27 y443 x87_3).f0))) (fun _ hk => hk.2) (.string ((rd_T27 y443 x87_3).f1))) (fun _ hk => hk.2) (.bool ((rd_T27 y443 x87_3).f2))) (fun _ hk => ⟨hk.1.1.1, ⟨hk.1.1.2.1, ⟨hk.1.1.2.2.1, ⟨hk.1.1.2.2.2.1, ⟨hk.1.1.2.2.2.2.1, ⟨hk.1.1.2.2.2.2.2.1, hk.1.1.2.2.2.2.2.2⟩⟩⟩⟩⟩⟩)⟩, ⟨by (with_reducible repeat (first | refine blk_drewN ?_ _ | refine blk_drew ?_ | refine blk_alloc ?_ _)); refine blk_far ?_ NB413_458.out _; (with_reducible repeat (first | refine blk_drewN ?_ _ | refine blk_drew ?_ | refine blk_alloc ?_ _)); refine blk_far ?_ NB413_458.out _; (with_reducible repeat (first | refine blk_drewN ?_ _ | refine blk_drew ?_ | refine blk_alloc ?_ _)); refine blk_far ?_ NB413_458.out _; (with_reducible repeat (first | refine blk_drewN ?_ _ | refine blk_drew ?_ | refine blk_alloc ?_ _)); exact BK413.out⟩, ⟨by (with_reducible repeat (first | refine blk_drewN ?_ _ | refine blk_drew ?_ | refine blk_alloc ?_ _)); refine blk_far ?_ NB436_458.out _; (with_reducible repeat (first | refine blk_drewN ?_ _ | refine blk_drew ?_ | refine blk_alloc ?_ _)); refine blk_far ?_ NB436_458.out _; (with_reducible repeat (first | refine blk_drewN ?_ _ | refine blk_drew ?_ | refine blk_alloc ?_ _)); refine blk_far ?_ NB436_458.out _; (with_reducible repeat (first | refine blk_drewN ?_ _ | refine blk_drew ?_ | refine blk_alloc ?_ _)); exact BK436.out⟩, ⟨by (with_reducible repeat (first | refine blk_drewN ?_ _ | refine blk_drew ?_ | refine blk_alloc ?_ _)); refine blk_far ?_ NB456_458.out _; (with_reducible repeat (first | refine blk_drewN ?_ _ | refine blk_drew ?_ | refine blk_alloc ?_ _)); refine blk_far ?_ NB456_458.out _; (with_reducible repeat (first | refine blk_drewN ?_ _ | refine blk_drew ?_ | refine blk_alloc ?_ _)); refine blk_far ?_ NB456_458.out _; (with_reducible repeat (first | refine blk_drewN ?_ _ | refine blk_drew ?_ | refine blk_alloc ?_ _)); exact BK456.out⟩, ⟨by repeat (first | (with_reducible first | exact HB.out | apply below_alloc | apply pw_below_drewN | apply below_drew1 | refine below_set ?_ GE413.out | refine below_set ?_ GE436.out | refine below_set ?_ GE456.out | refine below_set ?_ GE458.out) | exact HB.out)⟩⟩
                                  · rw [if_neg c58] at H
                                    have c58b0 : (((rd_T27 y443 x87_3).f0) == ((rd_T27 x7_1 x81_2).f0) && ((((rd_T27 y443 x87_3).f1).toList) == ((rd_T27 x7_1 x81_2).f1).toList && (((rd_T27 y443 x87_3).f2) == ((rd_T27 x7_1 x81_2).f2)))) = false := by simpa using c58
                                    (try (have c58b1 : decide (((rd_T27 y443 x87_3).f0) = ((rd_T27 x7_1 x81_2).f0) && ((((rd_T27 y443 x87_3).f1).toList) == ((rd_T27 x7_1 x81_2).f1).toList && (((rd_T27 y443 x87_3).f2) == ((rd_T27 x7_1 x81_2).f2)))) = false := by simpa using c58))
                                    (try (have c58b2 : (((rd_T27 y443 x87_3).f0) == ((rd_T27 x7_1 x81_2).f0) && ((((rd_T27 y443 x87_3).f1).toList) == ((rd_T27 x7_1 x81_2).f1).toList && (((rd_T27 y443 x87_3).f2) == ((rd_T27 x7_1 x81_2).f2)))) = false := by simpa using c58))
                                    (try (have c58b3 : ¬ (((rd_T27 y443 x87_3).f0) = ((rd_T27 x7_1 x81_2).f0) && ((((rd_T27 y443 x87_3).f1).toList) == ((rd_T27 x7_1 x81_2).f1).toList && (((rd_T27 y443 x87_3).f2) == ((rd_T27 x7_1 x81_2).f2)))) := by simpa using c58))
                                    clear c58
                                    have H' := Aside0.mk H
                                    clear H
                                    have p457 : 0 ≤ (x87_3 : Int) := of_decide_eq_true (by first | (with_reducible assumption) | assumption)
                                    have q457 : x87_3 < (y443.length : Int) := of_decide_eq_true (by first | (with_reducible assumption) | assumption)
                                    obtain ⟨ad457, e457, hx457_0, hx457_1, hx457_2⟩ := at_T27 (Kd.R_reads' HO_85.out).2.2 x87_3 p457 q457
                                    cases e457
                                    replace p457 := eq_true p457
                                    replace q457 := eq_true q457
                                    go_wp2_with (first | ((with_reducible refine gate_dst (N := 21) rfl ?_); (try (refine gate_guard (by rfl) ?_; dsimp only)); refine box_event ?hg (N := 21) ?hd (cs := #[.int .i64 0, .string (⟨#[]⟩ : ByteArray), .bool false]) (t := 27) ?hr ?_; (case hd => rfl); (case hg => rfl); (case hr => first | (go_simp; done) | (go_simp; rfl)); intro gb458 hg w67 hbox hb; have n0_ := Aside0.mk (Kd.R_below (Kd.R_elderB (by (with_reducible repeat (first | apply Kd.R_alloc | apply Kd.R_drewN | apply Kd.R_drew)); exact HO_7.out) gb458 (Nat.le_of_eq hg.symm)) hb); have n1_ := Aside0.mk (Kd.R_below (Kd.R_elderB (by (with_reducible repeat (first | apply Kd.R_alloc | apply Kd.R_drewN | apply Kd.R_drew)); exact HO_16.out) gb458 (Nat.le_of_eq hg.symm)) hb); have n2_ := Aside0.mk (Kd.R_below (Kd.R_elderB (by (with_reducible repeat (first | apply Kd.R_alloc | apply Kd.R_drewN | apply Kd.R_drew)); exact HO_79.out) gb458 (Nat.le_of_eq hg.symm)) hb); have n3_ := Aside0.mk (Kd.R_below (Kd.R_elderB (by (with_reducible repeat (first | apply Kd.R_alloc | apply Kd.R_drewN | apply Kd.R_drew)); exact HO_85.out) gb458 (Nat.le_of_eq hg.symm)) hb); have n4_ := Aside0.mk (Kd.V_below (Kd.V_elderB (by (with_reducible repeat (first | apply Kd.V_alloc | apply Kd.V_drewN | apply Kd.V_drew)); exact HO_414001.out) gb458 (Nat.le_of_eq hg.symm)) hb); have n5_ := Aside0.mk (Kd.V_below (Kd.V_elderB (by (with_reducible repeat (first | apply Kd.V_alloc | apply Kd.V_drewN | apply Kd.V_drew)); exact HO_437001.out) gb458 (Nat.le_of_eq hg.symm)) hb); have n6_ := Aside0.mk (blk_below (g := gb413) (o := .cells #[.int .i64 t421, .slice Ao33 t422.length co33] 24 (0, 0)) (by (with_reducible repeat (first | refine blk_drewN ?_ _ | refine blk_drew ?_ | refine blk_alloc ?_ _)); exact BK413.out) hb); have n7_ := Aside0.mk (blk_below (g := gb436) (o := .cells #[.int .i64 t429, .slice Ao40 t430.length co40] 24 (0, 0)) (by (with_reducible repeat (first | refine blk_drewN ?_ _ | refine blk_drew ?_ | refine blk_alloc ?_ _)); exact BK436.out) hb); have n8_ := Aside0.mk (blk_below (g := gb456) (o := .cells #[.int .i64 ((rd_T27 x7_1 x81_2).f0), .string ((rd_T27 x7_1 x81_2).f1), .bool ((rd_T27 x7_1 x81_2).f2)] 27 (0, 0)) (by (with_reducible repeat (first | refine blk_drewN ?_ _ | refine blk_drew ?_ | refine blk_alloc ?_ _)); exact BK456.out) hb); have n9_ := Aside0.mk (below_step (by repeat (first | (with_reducible first | exact HB.out | apply below_alloc | apply pw_below_drewN | apply below_drew1 | refine below_set ?_ GE413.out | refine below_set ?_ GE436.out | refine below_set ?_ GE456.out) | exact HB.out)) hb); have n10_ := Aside0.mk (hbox); have n11_ := Aside0.mk ((by rw [hg]; exact (below_size (by repeat (first | (with_reducible first | exact HB.out | apply below_alloc | apply pw_below_drewN | apply below_drew1 | refine below_set ?_ GE413.out | refine below_set ?_ GE436.out | refine below_set ?_ GE456.out) | exact HB.out))) : w.heap.size ≤ gb458)); have n12_ := Aside0.mk ((by rw [hg]; exact (below_size (by repeat (first | (with_reducible first | exact HB.out | apply below_alloc | apply pw_below_drewN | apply below_drew1 | refine below_set ?_ GE413.out | refine below_set ?_ GE436.out | refine below_set ?_ GE456.out) | exact HB.out))) : w.heap.size ≤ gb458)); have n13_ := Aside0.mk ((by rw [hg]; exact Nat.ne_of_lt (blk_lt (g := gb413) (o := .cells #[.int .i64 t421, .slice Ao33 t422.length co33] 24 (0, 0)) (by (with_reducible repeat (first | refine blk_drewN ?_ _ | refine blk_drew ?_ | refine blk_alloc ?_ _)); exact BK413.out)) : gb413 ≠ gb458)); have n14_ := Aside0.mk ((by rw [hg]; exact Nat.ne_of_gt (blk_lt (g := gb413) (o := .cells #[.int .i64 t421, .slice Ao33 t422.length co33] 24 (0, 0)) (by (with_reducible repeat (first | refine blk_drewN ?_ _ | refine blk_drew ?_ | refine blk_alloc ?_ _)); exact BK413.out)) : gb458 ≠ gb413)); have n15_ := Aside0.mk ((by rw [hg]; exact Nat.ne_of_lt (blk_lt (g := gb436) (o := .cells #[.int .i64 t429, .slice Ao40 t430.length co40] 24 (0, 0)) (by (with_reducible repeat (first | refine blk_drewN ?_ _ | refine blk_drew ?_ | refine blk_alloc ?_ _)); exact BK436.out)) : gb436 ≠ gb458)); have n16_ := Aside0.mk ((by rw [hg]; exact Nat.ne_of_gt (blk_lt (g := gb436) (o := .cells #[.int .i64 t429, .slice Ao40 t430.length co40] 24 (0, 0)) (by (with_reducible repeat (first | refine blk_drewN ?_ _ | refine blk_drew ?_ | refine blk_alloc ?_ _)); exact BK436.out)) : gb458 ≠ gb436)); have n17_ := Aside0.mk ((by rw [hg]; exact Nat.ne_of_lt (blk_lt (g := gb456) (o := .cells #[.int .i64 ((rd_T27 x7_1 x81_2).f0), .string ((rd_T27 x7_1 x81_2).f1), .bool ((rd_T27 x7_1 x81_2).f2)] 27 (0, 0)) (by (with_reducible repeat (first | refine blk_drewN ?_ _ | refine blk_drew ?_ | refine blk_alloc ?_ _)); exact BK456.out)) : gb456 ≠ gb458)); have n18_ := Aside0.mk ((by rw [hg]; exact Nat.ne_of_gt (blk_lt (g := gb456) (o := .cells #[.int .i64 ((rd_T27 x7_1 x81_2).f0), .string ((rd_T27 x7_1 x81_2).f1), .bool ((rd_T27 x7_1 x81_2).f2)] 27 (0, 0)) (by (with_reducible repeat (first | refine blk_drewN ?_ _ | refine blk_drew ?_ | refine blk_alloc ?_ _)); exact BK456.out)) : gb458 ≠ gb456)); clear HO_7; clear HO_16; clear HO_79; clear HO_85; clear HO_414001; clear HO_437001; clear BK413; clear BK436; clear BK456; clear HB; have HO_7 := n0_; have HO_16 := n1_; have HO_79 := n2_; have HO_85 := n3_; have HO_414001 := n4_; have HO_437001 := n5_; have BK413 := n6_; have BK436 := n7_; have BK456 := n8_; have HB := n9_; have BK458 := n10_; have GW458 := n11_; have GE458 := n12_; have NB413_458 := n13_; have NB458_413 := n14_; have NB436_458 := n15_; have NB458_436 := n16_; have NB456_458 := n17_; have NB458_456 := n18_; clear n0_ n1_ n2_ n3_ n4_ n5_ n6_ n7_ n8_ n9_ n10_ n11_ n12_ n13_ n14_ n15_ n16_ n17_ n18_; clear hb hbox hg; have hnb68 := NB458_413.out; have hnc68 := NB413_458.out; have hnb69 := NB458_436.out; have hnc69 := NB436_458.out; have hnb70 := NB458_456.out; have hnc70 := NB456_458.out; have hcz71_0 : w67.cell? ⟨gb458, 0, none⟩ = some (.int .i64 0) := (blk_cell BK458.out 0).trans rfl; have hcz71_1 : w67.cell? ⟨gb458, 1, none⟩ = some (.string (⟨#[]⟩ : ByteArray)) := (blk_cell BK458.out 1).trans rfl; have hcz71_2 : w67.cell? ⟨gb458, 2, none⟩ = some (.bool false) := (blk_cell BK458.out 2).trans rfl; have hfz71_0 := blk_frozen BK458.out 0; have hfz71_1 := blk_frozen BK458.out 1; have hfz71_2 := blk_frozen BK458.out 2; have hnb72 := NB456_413.out; have hnc72 := NB413_456.out; have hnb73 := NB456_436.out; have hnc73 := NB436_456.out; have hcz74_0 : w67.cell? ⟨gb456, 0, none⟩ = some (.int .i64 ((rd_T27 x7_1 x81_2).f0)) := (blk_cell BK456.out 0).trans rfl; have hcz74_1 : w67.cell? ⟨gb456, 1, none⟩ = some (.string ((rd_T27 x7_1 x81_2).f1)) := (blk_cell BK456.out 1).trans rfl; have hcz74_2 : w67.cell? ⟨gb456, 2, none⟩ = some (.bool ((rd_T27 x7_1 x81_2).f2)) := (blk_cell BK456.out 2).trans rfl; have hfz74_0 := blk_frozen BK456.out 0; have hfz74_1 := blk_frozen BK456.out 1; have hfz74_2 := blk_frozen BK456.out 2))
                                    go_roundg k3
                                    case measure => have := HK1.out; have := HK2.out; have := HK3.out; omega
                                    case rel => exact ⟨(x19_3), (wrap64 (x87_3 + 1)), (by first | rfl | (simp; done) | (simp [*]; done)), (by first | rfl | (simp; done) | (simp [*]; done)), H', ⟨by have := HK1.out; have := HK2.out; have := HK3.out; omega⟩, ⟨by (with_reducible repeat (first | apply Kd.R_alloc | apply Kd.R_drewN | apply Kd.R_drew)); exact Kd.R_mono (Kd.R_far (p := ⟨gb458, 2, none⟩) (Kd.R_far (p := ⟨gb458, 1, none⟩) (Kd.R_far (p := ⟨gb458, 0, none⟩) (Kd.R_mono HO_7.out (fun k_ hk => (⟨hk, hk.2⟩ : _ ∧ k_ ≠ gb458))) (fun _ hk => hk.2) (.int .i64 ((rd_T27 y443 x87_3).f0))) (fun _ hk => hk.2) (.string ((rd_T27 y443 x87_3).f1))) (fun _ hk => hk.2) (.bool ((rd_T27 y443 x87_3).f2))) (fun _ hk => ⟨hk.1.1.1, ⟨hk.1.1.2.1, hk.1.1.2.2⟩⟩)⟩, ⟨by (with_reducible repeat (first | apply Kd.R_alloc | apply Kd.R_drewN | apply Kd.R_drew)); exact Kd.R_mono (Kd.R_far (p := ⟨gb458, 2, none⟩) (Kd.R_far (p := ⟨gb458, 1, none⟩) (Kd.R_far (p := ⟨gb458, 0, none⟩) (Kd.R_mono HO_16.out (fun k_ hk => (⟨hk, hk.2⟩ : _ ∧ k_ ≠ gb458))) (fun _ hk => hk.2) (.int .i64 ((rd_T27 y443 x87_3).f0))) (fun _ hk => hk.2) (.string ((rd_T27 y443 x87_3).f1))) (fun _ hk => hk.2) (.bool ((rd_T27 y443 x87_3).f2))) (fun _ hk => ⟨hk.1.1.1, ⟨hk.1.1.2.1, hk.1.1.2.2⟩⟩)⟩, ⟨by (with_reducible repeat (first | apply Kd.R_alloc | apply Kd.R_drewN | apply Kd.R_drew)); exact Kd.R_mono (Kd.R_far (p := ⟨gb458, 2, none⟩) (Kd.R_far (p := ⟨gb458, 1, none⟩) (Kd.R_far (p := ⟨gb458, 0, none⟩) (Kd.R_mono HO_79.out (fun k_ hk => (⟨hk, hk.2⟩ : _ ∧ k_ ≠ gb458))) (fun _ hk => hk.2) (.int .i64 ((rd_T27 y443 x87_3).f0))) (fun _ hk => hk.2) (.string ((rd_T27 y443 x87_3).f1))) (fun _ hk => hk.2) (.bool ((rd_T27 y443 x87_3).f2))) (fun _ hk => ⟨hk.1.1.1, ⟨hk.1.1.2.1, hk.1.1.2.2⟩⟩)⟩, ⟨by (with_reducible repeat (first | apply Kd.R_alloc | apply Kd.R_drewN | apply Kd.R_drew)); exact Kd.R_mono (Kd.R_far (p := ⟨gb458, 2, none⟩) (Kd.R_far (p := ⟨gb458, 1, none⟩) (Kd.R_far (p := ⟨gb458, 0, none⟩) (Kd.R_mono HO_85.out (fun k_ hk => (⟨hk, hk.2⟩ : _ ∧ k_ ≠ gb458))) (fun _ hk => hk.2) (.int .i64 ((rd_T27 y443 x87_3).f0))) (fun _ hk => hk.2) (.string ((rd_T27 y443 x87_3).f1))) (fun _ hk => hk.2) (.bool ((rd_T27 y443 x87_3).f2))) (fun _ hk => ⟨hk.1.1.1, ⟨hk.1.1.2.1, hk.1.1.2.2⟩⟩)⟩, ⟨by (with_reducible repeat (first | apply Kd.V_alloc | apply Kd.V_drewN | apply Kd.V_drew)); exact Kd.V_mono (Kd.V_far (p := ⟨gb458, 2, none⟩) (Kd.V_far (p := ⟨gb458, 1, none⟩) (Kd.V_far (p := ⟨gb458, 0, none⟩) (Kd.V_mono HO_414001.out (fun k_ hk => (⟨hk, hk.2⟩ : _ ∧ k_ ≠ gb458))) (fun _ hk => hk.2) (.int .i64 ((rd_T27 y443 x87_3).f0))) (fun _ hk => hk.2) (.string ((rd_T27 y443 x87_3).f1))) (fun _ hk => hk.2) (.bool ((rd_T27 y443 x87_3).f2))) (fun _ hk => ⟨hk.1.1.1, ⟨hk.1.1.2.1, ⟨hk.1.1.2.2.1, ⟨hk.1.1.2.2.2.1, ⟨hk.1.1.2.2.2.2.1, ⟨hk.1.1.2.2.2.2.2.1, hk.1.1.2.2.2.2.2.2⟩⟩⟩⟩⟩⟩)⟩, ⟨by (with_reducible repeat (first | apply Kd.V_alloc | apply Kd.V_drewN | apply Kd.V_drew)); exact Kd.V_mono (Kd.V_far (p := ⟨gb458, 2, none⟩) (Kd.V_far (p := ⟨gb458, 1, none⟩) (Kd.V_far (p := ⟨gb458, 0, none⟩) (Kd.V_mono HO_437001.out (fun k_ hk => (⟨hk, hk.2⟩ : _ ∧ k_ ≠ gb458))) (fun _ hk => hk.2) (.int .i64 ((rd_T27 y443 x87_3).f0))) (fun _ hk => hk.2) (.string ((rd_T27 y443 x87_3).f1))) (fun _ hk => hk.2) (.bool ((rd_T27 y443 x87_3).f2))) (fun _ hk => ⟨hk.1.1.1, ⟨hk.1.1.2.1, ⟨hk.1.1.2.2.1, ⟨hk.1.1.2.2.2.1, ⟨hk.1.1.2.2.2.2.1, ⟨hk.1.1.2.2.2.2.2.1, hk.1.1.2.2.2.2.2.2⟩⟩⟩⟩⟩⟩)⟩, ⟨by (with_reducible repeat (first | refine blk_drewN ?_ _ | refine blk_drew ?_ | refine blk_alloc ?_ _)); refine blk_far ?_ NB413_458.out _; (with_reducible repeat (first | refine blk_drewN ?_ _ | refine blk_drew ?_ | refine blk_alloc ?_ _)); refine blk_far ?_ NB413_458.out _; (with_reducible repeat (first | refine blk_drewN ?_ _ | refine blk_drew ?_ | refine blk_alloc ?_ _)); refine blk_far ?_ NB413_458.out _; (with_reducible repeat (first | refine blk_drewN ?_ _ | refine blk_drew ?_ | refine blk_alloc ?_ _)); exact BK413.out⟩, ⟨by (with_reducible repeat (first | refine blk_drewN ?_ _ | refine blk_drew ?_ | refine blk_alloc ?_ _)); refine blk_far ?_ NB436_458.out _; (with_reducible repeat (first | refine blk_drewN ?_ _ | refine blk_drew ?_ | refine blk_alloc ?_ _)); refine blk_far ?_ NB436_458.out _; (with_reducible repeat (first | refine blk_drewN ?_ _ | refine blk_drew ?_ | refine blk_alloc ?_ _)); refine blk_far ?_ NB436_458.out _; (with_reducible repeat (first | refine blk_drewN ?_ _ | refine blk_drew ?_ | refine blk_alloc ?_ _)); exact BK436.out⟩, ⟨by (with_reducible repeat (first | refine blk_drewN ?_ _ | refine blk_drew ?_ | refine blk_alloc ?_ _)); refine blk_far ?_ NB456_458.out _; (with_reducible repeat (first | refine blk_drewN ?_ _ | refine blk_drew ?_ | refine blk_alloc ?_ _)); refine blk_far ?_ NB456_458.out _; (with_reducible repeat (first | refine blk_drewN ?_ _ | refine blk_drew ?_ | refine blk_alloc ?_ _)); refine blk_far ?_ NB456_458.out _; (with_reducible repeat (first | refine blk_drewN ?_ _ | refine blk_drew ?_ | refine blk_alloc ?_ _)); exact BK456.out⟩, ⟨by repeat (first | (with_reducible first | exact HB.out | apply below_alloc | apply pw_below_drewN | apply below_drew1 | refine below_set ?_ GE413.out | refine below_set ?_ GE436.out | refine below_set ?_ GE456.out | refine below_set ?_ GE458.out) | exact HB.out)⟩⟩
                                · rw [if_neg c57] at H
                                  exact absurd H (by simp)
                              · rw [if_neg c56] at H
                                exact absurd H (by simp)
                            · rw [if_neg c55] at H
                              have c55b0 : decide (x87_3 < (y443.length : Int)) = false := decide_eq_false c55
                              clear c55
                              by_cases c75 : x19_3 = 1
                              · rw [if_pos c75] at H
                                have c75b0 : (x19_3 == 1) = true := beq_iff_eq.mpr c75
                                have c75b1 : (x19_3 != 1) = false := bne_eq_false_iff_eq.mpr c75
                                clear c75
                                have H' := Aside0.mk H
                                clear H
                                go_wp2
                                go_roundg k3
                                case measure => have := HK1.out; have := HK2.out; have := HK3.out; omega
                                case rel => exact ⟨(wrap64 (x81_2 + 1)), (by first | rfl | (simp; done) | (simp [*]; done)), H', ⟨by have := HK1.out; have := HK2.out; have := HK3.out; omega⟩, ⟨by (with_reducible repeat (first | apply Kd.R_alloc | apply Kd.R_drewN | apply Kd.R_drew)); exact Kd.R_mono HO_7.out (fun _ hk => hk.1)⟩, ⟨by (with_reducible repeat (first | apply Kd.R_alloc | apply Kd.R_drewN | apply Kd.R_drew)); exact Kd.R_mono HO_16.out (fun _ hk => ⟨hk.1, hk.2.1⟩)⟩, ⟨by (with_reducible repeat (first | apply Kd.R_alloc | apply Kd.R_drewN | apply Kd.R_drew)); exact Kd.R_mono HO_79.out (fun _ hk => hk.1)⟩, ⟨by (with_reducible repeat (first | apply Kd.V_alloc | apply Kd.V_drewN | apply Kd.V_drew)); exact Kd.V_mono HO_414001.out (fun _ hk => ⟨hk.1, ⟨hk.2.1, ⟨hk.2.2.1, ⟨hk.2.2.2.2.1, hk.2.2.2.2.2.1⟩⟩⟩⟩)⟩, ⟨by (with_reducible repeat (first | apply Kd.V_alloc | apply Kd.V_drewN | apply Kd.V_drew)); exact Kd.V_mono HO_437001.out (fun _ hk => ⟨hk.1, ⟨hk.2.1, ⟨hk.2.2.1, ⟨hk.2.2.2.2.1, hk.2.2.2.2.2.1⟩⟩⟩⟩)⟩, ⟨by (with_reducible repeat (first | refine blk_drewN ?_ _ | refine blk_drew ?_ | refine blk_alloc ?_ _)); exact BK413.out⟩, ⟨by (with_reducible repeat (first | refine blk_drewN ?_ _ | refine blk_drew ?_ | refine blk_alloc ?_ _)); exact BK436.out⟩, ⟨by repeat (first | (with_reducible first | exact HB.out | apply below_alloc | apply pw_below_drewN | apply below_drew1 | refine below_set ?_ GE413.out | refine below_set ?_ GE436.out | refine below_set ?_ GE456.out) | exact HB.out)⟩⟩
                              · rw [if_neg c75] at H
                                exact absurd H (by simp)
                      · rw [if_neg c49] at H
                        exact absurd H (by simp)
                    · rw [if_neg c48] at H
                      exact absurd H (by simp)
                  · rw [if_neg c47] at H
                    have c47b0 : decide (x81_2 < (x7_1.length : Int)) = false := decide_eq_false c47
                    clear c47
                    replace H := Option.bind_eq_some_iff.mp H
                    obtain ⟨⟨t446, t447, t450⟩, A760, H⟩ := H
                    replace H : (if t412 = 0 then (if t428 = 0 then (if (y443.length : Int) = (x7_1.length : Int) then (if (t450.length : Int) = 0 then (if (t430.length : Int) = (t422.length : Int) then ((weirkeeperlaw14_awake.f k2).bind fun t454 => (some t454)) else (none)) else (none)) else (none)) else (none)) else (none)) = some r := H
                    have A76 := Aside0.mk A760
                    clear A760
                    by_cases c77 : t412 = 0
                    · rw [if_pos c77] at H
                      have c77b0 : (t412 == 0) = true := beq_iff_eq.mpr c77
                      have c77b1 : (t412 != 0) = false := bne_eq_false_iff_eq.mpr c77
                      clear c77
                      by_cases c78 : t428 = 0
                      · rw [if_pos c78] at H
                        have c78b0 : (t428 == 0) = true := beq_iff_eq.mpr c78
                        have c78b1 : (t428 != 0) = false := bne_eq_false_iff_eq.mpr c78
                        clear c78
                        by_cases c79 : (y443.length : Int) = (x7_1.length : Int)
                        · rw [if_pos c79] at H
                          have c79b0 : ((y443.length : Int) == (x7_1.length : Int)) = true := beq_iff_eq.mpr c79
                          have c79b1 : ((y443.length : Int) != (x7_1.length : Int)) = false := bne_eq_false_iff_eq.mpr c79
                          have c79b2 : (y443.length == x7_1.length) = true := by first | simpa using c79 | (simp at c79 ⊢; omega)
                          clear c79
                          by_cases c80 : (t450.length : Int) = 0
                          · rw [if_pos c80] at H
                            have c80b0 : ((t450.length : Int) == 0) = true := beq_iff_eq.mpr c80
                            have c80b1 : ((t450.length : Int) != 0) = false := bne_eq_false_iff_eq.mpr c80
                            clear c80
                            by_cases c81 : (t430.length : Int) = (t422.length : Int)
                            · rw [if_pos c81] at H
                              have c81b0 : ((t430.length : Int) == (t422.length : Int)) = true := beq_iff_eq.mpr c81
                              have c81b1 : ((t430.length : Int) != (t422.length : Int)) = false := bne_eq_false_iff_eq.mpr c81
                              have c81b2 : (t430.length == t422.length) = true := by first | simpa using c81 | (simp at c81 ⊢; omega)
                              clear c81
                              replace H := Option.bind_eq_some_iff.mp H
                              obtain ⟨t454, A820, H⟩ := H
                              replace H : (some t454) = some r := H
                              have A82 := Aside0.mk A820
                              clear A820
                              obtain rfl := Option.some.inj H
                              have hnb83 := NB436_413.out
                              have hnc83 := NB413_436.out
                              have hcz84_0 : wr.cell? ⟨gb436, 0, none⟩ = some (.int .i64 t429) := (blk_cell BK436.out 0).trans rfl
                              have hcz84_1 : wr.cell? ⟨gb436, 1, none⟩ = some (.slice Ao40 t430.length co40) := (blk_cell BK436.out 1).trans rfl
                              have hfz84_0 := blk_frozen BK436.out 0
                              have hfz84_1 := blk_frozen BK436.out 1
                              go_wp2_with (first | ((with_reducible refine gate_callee (f := 16) rfl ?_); refine goesL_ (some 102) rfl rfl Try.func16 (by kernel_rfl) rfl #[.agg #[.int .i64 t429, .slice Ao40 t430.length co40]] rfl (by (try simp only [List.map_toArray, List.map_cons, List.map_nil]); first | done | rfl | (simp only [List.length_drop, List.length_take]; rfl)) ?_; (with_reducible refine (cache_Clean.calls k2 t429 (fun k_ => (some k_ ≠ (.slice Ao30 x7_1.length co30 : Value).ownBlock ∧ (some k_ ≠ (v444 : Value).ownBlock ∧ (some k_ ≠ (.slice Ao30 x7_1.length co30 : Value).ownBlock ∧ (k_ ≠ gb413 ∧ k_ ≠ gb436))))) _ _ t430 t446 t447 t450 _ ?side1 A76.out).mono ?_); (case side1 => exact HO_437001.out); rintro e w85 ⟨v448, v451, rfl, ho0, ho1, hb⟩; refine ⟨_, rfl, ?_⟩; have n0_ := Aside0.mk (Kd.R_elder' (by (with_reducible repeat (first | apply Kd.R_alloc | apply Kd.R_drewN | apply Kd.R_drew)); exact HO_7.out) (Kd.R_base ho1) hb); have n1_ := Aside0.mk (Kd.R_elder' (by (with_reducible repeat (first | apply Kd.R_alloc | apply Kd.R_drewN | apply Kd.R_drew)); exact HO_16.out) (Kd.R_base ho1) hb); have n2_ := Aside0.mk (Kd.R_elder' (by (with_reducible repeat (first | apply Kd.R_alloc | apply Kd.R_drewN | apply Kd.R_drew)); exact HO_79.out) (Kd.R_base ho1) hb); have n3_ := Aside0.mk (Kd.V_elder' (by (with_reducible repeat (first | apply Kd.V_alloc | apply Kd.V_drewN | apply Kd.V_drew)); exact HO_414001.out) (Kd.R_base ho1) hb); have n4_ := Aside0.mk (Kd.V_elder' (by (with_reducible repeat (first | apply Kd.V_alloc | apply Kd.V_drewN | apply Kd.V_drew)); exact HO_437001.out) (Kd.R_base ho1) hb); have n5_ := Aside0.mk (Kd.V_lower (Kd.V_mono (ok' := fun k_ => some k_ ≠ (v451 : Value).ownBlock ∧ some k_ ≠ (.slice Ao30 x7_1.length co30 : Value).ownBlock ∧ some k_ ≠ (v444 : Value).ownBlock ∧ some k_ ≠ (.slice Ao30 x7_1.length co30 : Value).ownBlock ∧ k_ ≠ gb413 ∧ k_ ≠ gb436) ho0 (fun k_ hk_ => ⟨hk_.2, Or.elim hk_.1 (fun hs_ => hs_.1) (fun hn_ => (Kd.fresh' (Kd.R_lt (by (with_reducible repeat (first | apply Kd.R_alloc | apply Kd.R_drewN | apply Kd.R_drew)); exact HO_7.out)) k_ hn_)), Or.elim hk_.1 (fun hs_ => hs_.2.1) (fun hn_ => (Kd.fresh' (Kd.R_lt (by (with_reducible repeat (first | apply Kd.R_alloc | apply Kd.R_drewN | apply Kd.R_drew)); exact HO_16.out)) k_ hn_)), Or.elim hk_.1 (fun hs_ => hs_.2.2.1) (fun hn_ => (Kd.fresh' (Kd.R_lt (by (with_reducible repeat (first | apply Kd.R_alloc | apply Kd.R_drewN | apply Kd.R_drew)); exact HO_79.out)) k_ hn_)), Or.elim hk_.1 (fun hs_ => hs_.2.2.2.1) (fun hn_ => (Kd.freshB (g := gb413) (o := .cells #[.int .i64 t421, .slice Ao33 t422.length co33] 24 (0, 0)) (by (with_reducible repeat (first | refine blk_drewN ?_ _ | refine blk_drew ?_ | refine blk_alloc ?_ _)); exact BK413.out) k_ hn_)), Or.elim hk_.1 (fun hs_ => hs_.2.2.2.2) (fun hn_ => (Kd.freshB (g := gb436) (o := .cells #[.int .i64 t429, .slice Ao40 t430.length co40] 24 (0, 0)) (by (with_reducible repeat (first | refine blk_drewN ?_ _ | refine blk_drew ?_ | refine blk_alloc ?_ _)); exact BK436.out) k_ hn_))⟩)) (below_size (by repeat (first | (with_reducible first | exact HB.out | apply below_alloc | apply pw_below_drewN | apply below_drew1 | refine below_set ?_ GE413.out | refine below_set ?_ GE436.out) | exact HB.out)))); have n6_ := Aside0.mk (Kd.R_lower (Kd.R_new' (Kd.R_new' (Kd.R_new' (Kd.R_mono (ok' := fun k_ => True) ho1 (fun _ hk_ => trivial)) (Kd.R_lt (by (with_reducible repeat (first | apply Kd.R_alloc | apply Kd.R_drewN | apply Kd.R_drew)); exact HO_7.out))) (Kd.R_lt (by (with_reducible repeat (first | apply Kd.R_alloc | apply Kd.R_drewN | apply Kd.R_drew)); exact HO_16.out))) (Kd.R_lt (by (with_reducible repeat (first | apply Kd.R_alloc | apply Kd.R_drewN | apply Kd.R_drew)); exact HO_79.out))) (below_size (by repeat (first | (with_reducible first | exact HB.out | apply below_alloc | apply pw_below_drewN | apply below_drew1 | refine below_set ?_ GE413.out | refine below_set ?_ GE436.out) | exact HB.out)))); have n7_ := Aside0.mk (blk_below (g := gb413) (o := .cells #[.int .i64 t421, .slice Ao33 t422.length co33] 24 (0, 0)) (by (with_reducible repeat (first | refine blk_drewN ?_ _ | refine blk_drew ?_ | refine blk_alloc ?_ _)); exact BK413.out) hb); have n8_ := Aside0.mk (blk_below (g := gb436) (o := .cells #[.int .i64 t429, .slice Ao40 t430.length co40] 24 (0, 0)) (by (with_reducible repeat (first | refine blk_drewN ?_ _ | refine blk_drew ?_ | refine blk_alloc ?_ _)); exact BK436.out) hb); have n9_ := Aside0.mk (below_step (by repeat (first | (with_reducible first | exact HB.out | apply below_alloc | apply pw_below_drewN | apply below_drew1 | refine below_set ?_ GE413.out | refine below_set ?_ GE436.out) | exact HB.out)) hb); clear HO_7; clear HO_16; clear HO_79; clear HO_414001; clear HO_437001; clear BK413; clear BK436; clear HB; have HO_7 := n0_; have HO_16 := n1_; have HO_79 := n2_; have HO_414001 := n3_; have HO_437001 := n4_; have HO449 := n5_; have HO452 := n6_; have BK413 := n7_; have BK436 := n8_; have HB := n9_; clear n0_ n1_ n2_ n3_ n4_ n5_ n6_ n7_ n8_ n9_; (try clear hb); (try clear hb2); (try clear hk); (try clear hi); (try clear ho0); (try clear ho1)) | ((with_reducible refine gate_dst (N := 22) rfl ?_); (try (refine gate_guard (by rfl) ?_; dsimp only)); refine box_event ?hg (N := 22) ?hd (cs := #[.int .i64 0, .slice none 0 0]) (t := 24) ?hr ?_; (case hd => rfl); (case hg => rfl); (case hr => first | (go_simp; done) | (go_simp; rfl)); intro gb453 hg w86 hbox hb; have n0_ := Aside0.mk (Kd.R_below (by (with_reducible repeat (first | apply Kd.R_alloc | apply Kd.R_drewN | apply Kd.R_drew)); exact HO_7.out) hb); have n1_ := Aside0.mk (Kd.R_below (by (with_reducible repeat (first | apply Kd.R_alloc | apply Kd.R_drewN | apply Kd.R_drew)); exact HO_16.out) hb); have n2_ := Aside0.mk (Kd.R_below (by (with_reducible repeat (first | apply Kd.R_alloc | apply Kd.R_drewN | apply Kd.R_drew)); exact HO_79.out) hb); have n3_ := Aside0.mk (Kd.V_below (Kd.V_elderB (by (with_reducible repeat (first | apply Kd.V_alloc | apply Kd.V_drewN | apply Kd.V_drew)); exact HO_414001.out) gb453 (Nat.le_of_eq hg.symm)) hb); have n4_ := Aside0.mk (Kd.V_below (Kd.V_elderB (by (with_reducible repeat (first | apply Kd.V_alloc | apply Kd.V_drewN | apply Kd.V_drew)); exact HO_437001.out) gb453 (Nat.le_of_eq hg.symm)) hb); have n5_ := Aside0.mk (Kd.V_below (Kd.V_elderB (by (with_reducible repeat (first | apply Kd.V_alloc | apply Kd.V_drewN | apply Kd.V_drew)); exact HO449.out) gb453 (Nat.le_of_eq hg.symm)) hb); have n6_ := Aside0.mk (Kd.R_below (by (with_reducible repeat (first | apply Kd.R_alloc | apply Kd.R_drewN | apply Kd.R_drew)); exact HO452.out) hb); have n7_ := Aside0.mk (blk_below (g := gb413) (o := .cells #[.int .i64 t421, .slice Ao33 t422.length co33] 24 (0, 0)) (by (with_reducible repeat (first | refine blk_drewN ?_ _ | refine blk_drew ?_ | refine blk_alloc ?_ _)); exact BK413.out) hb); have n8_ := Aside0.mk (blk_below (g := gb436) (o := .cells #[.int .i64 t429, .slice Ao40 t430.length co40] 24 (0, 0)) (by (with_reducible repeat (first | refine blk_drewN ?_ _ | refine blk_drew ?_ | refine blk_alloc ?_ _)); exact BK436.out) hb); have n9_ := Aside0.mk (below_step (by repeat (first | (with_reducible first | exact HB.out | apply below_alloc | apply pw_below_drewN | apply below_drew1 | refine below_set ?_ GE413.out | refine below_set ?_ GE436.out) | exact HB.out)) hb); have n10_ := Aside0.mk (hbox); have n11_ := Aside0.mk ((by rw [hg]; exact (below_size (by repeat (first | (with_reducible first | exact HB.out | apply below_alloc | apply pw_below_drewN | apply below_drew1 | refine below_set ?_ GE413.out | refine below_set ?_ GE436.out) | exact HB.out))) : w.heap.size ≤ gb453)); have n12_ := Aside0.mk ((by rw [hg]; exact (below_size (by repeat (first | (with_reducible first | exact HB.out | apply below_alloc | apply pw_below_drewN | apply below_drew1 | refine below_set ?_ GE413.out | refine below_set ?_ GE436.out) | exact HB.out))) : w.heap.size ≤ gb453)); have n13_ := Aside0.mk ((by rw [hg]; exact Nat.ne_of_lt (blk_lt (g := gb413) (o := .cells #[.int .i64 t421, .slice Ao33 t422.length co33] 24 (0, 0)) (by (with_reducible repeat (first | refine blk_drewN ?_ _ | refine blk_drew ?_ | refine blk_alloc ?_ _)); exact BK413.out)) : gb413 ≠ gb453)); have n14_ := Aside0.mk ((by rw [hg]; exact Nat.ne_of_gt (blk_lt (g := gb413) (o := .cells #[.int .i64 t421, .slice Ao33 t422.length co33] 24 (0, 0)) (by (with_reducible repeat (first | refine blk_drewN ?_ _ | refine blk_drew ?_ | refine blk_alloc ?_ _)); exact BK413.out)) : gb453 ≠ gb413)); have n15_ := Aside0.mk ((by rw [hg]; exact Nat.ne_of_lt (blk_lt (g := gb436) (o := .cells #[.int .i64 t429, .slice Ao40 t430.length co40] 24 (0, 0)) (by (with_reducible repeat (first | refine blk_drewN ?_ _ | refine blk_drew ?_ | refine blk_alloc ?_ _)); exact BK436.out)) : gb436 ≠ gb453)); have n16_ := Aside0.mk ((by rw [hg]; exact Nat.ne_of_gt (blk_lt (g := gb436) (o := .cells #[.int .i64 t429, .slice Ao40 t430.length co40] 24 (0, 0)) (by (with_reducible repeat (first | refine blk_drewN ?_ _ | refine blk_drew ?_ | refine blk_alloc ?_ _)); exact BK436.out)) : gb453 ≠ gb436)); clear HO_7; clear HO_16; clear HO_79; clear HO_414001; clear HO_437001; clear HO449; clear HO452; clear BK413; clear BK436; clear HB; have HO_7 := n0_; have HO_16 := n1_; have HO_79 := n2_; have HO_414001 := n3_; have HO_437001 := n4_; have HO449 := n5_; have HO452 := n6_; have BK413 := n7_; have BK436 := n8_; have HB := n9_; have BK453 := n10_; have GW453 := n11_; have GE453 := n12_; have NB413_453 := n13_; have NB453_413 := n14_; have NB436_453 := n15_; have NB453_436 := n16_; clear n0_ n1_ n2_ n3_ n4_ n5_ n6_ n7_ n8_ n9_ n10_ n11_ n12_ n13_ n14_ n15_ n16_; clear hb hbox hg; have hnb87 := NB453_413.out; have hnc87 := NB413_453.out; have hnb88 := NB453_436.out; have hnc88 := NB436_453.out; have hcz89_0 : w86.cell? ⟨gb453, 0, none⟩ = some (.int .i64 0) := (blk_cell BK453.out 0).trans rfl; have hcz89_1 : w86.cell? ⟨gb453, 1, none⟩ = some (.slice none 0 0) := (blk_cell BK453.out 1).trans rfl; have hfz89_0 := blk_frozen BK453.out 0; have hfz89_1 := blk_frozen BK453.out 1; obtain ⟨Ao90, co90, eo90⟩ := Kd.V_slice HO449.out; subst eo90; obtain ⟨Ao91, co91, eo91⟩ := Kd.R_slice HO_16.out; subst eo91; obtain ⟨Ao92, co92, eo92⟩ := Kd.R_slice HO452.out; subst eo92; have hcz93_0 : w86.cell? ⟨gb436, 0, none⟩ = some (.int .i64 t429) := (blk_cell BK436.out 0).trans rfl; have hcz93_1 : w86.cell? ⟨gb436, 1, none⟩ = some (.slice Ao40 t430.length co40) := (blk_cell BK436.out 1).trans rfl; have hfz93_0 := blk_frozen BK436.out 0; have hfz93_1 := blk_frozen BK436.out 1; have hcz94_0 : w86.cell? ⟨gb413, 0, none⟩ = some (.int .i64 t421) := (blk_cell BK413.out 0).trans rfl; have hcz94_1 : w86.cell? ⟨gb413, 1, none⟩ = some (.slice Ao33 t422.length co33) := (blk_cell BK413.out 1).trans rfl; have hfz94_0 := blk_frozen BK413.out 0; have hfz94_1 := blk_frozen BK413.out 1) | (go_at_call 9; (with_reducible refine (weirkeeperlaw14_awake.calls k2  t454 _ A82.out).mono ?_); rintro e w95 ⟨rfl, hb⟩; have n0_ := Aside0.mk (Kd.R_below (by (with_reducible repeat (first | apply Kd.R_alloc | apply Kd.R_drewN | apply Kd.R_drew)); exact (Kd.R_mono (Kd.R_far (p := ⟨gb453, 1, none⟩) (Kd.R_far (p := ⟨gb453, 0, none⟩) (Kd.R_types HO_7.out BK453.out (by decide)) (fun _ hk => hk.2) (.int .i64 t446)) (fun _ hk => hk.2) (.slice Ao90 t447.length co90)) (fun _ h_ => h_.1))) hb); have n1_ := Aside0.mk (Kd.R_below (by (with_reducible repeat (first | apply Kd.R_alloc | apply Kd.R_drewN | apply Kd.R_drew)); exact (Kd.R_mono (Kd.R_far (p := ⟨gb453, 1, none⟩) (Kd.R_far (p := ⟨gb453, 0, none⟩) (Kd.R_types HO_16.out BK453.out (by decide)) (fun _ hk => hk.2) (.int .i64 t446)) (fun _ hk => hk.2) (.slice Ao90 t447.length co90)) (fun _ h_ => h_.1))) hb); have n2_ := Aside0.mk (Kd.R_below (by (with_reducible repeat (first | apply Kd.R_alloc | apply Kd.R_drewN | apply Kd.R_drew)); exact (Kd.R_mono (Kd.R_far (p := ⟨gb453, 1, none⟩) (Kd.R_far (p := ⟨gb453, 0, none⟩) (Kd.R_types HO_79.out BK453.out (by decide)) (fun _ hk => hk.2) (.int .i64 t446)) (fun _ hk => hk.2) (.slice Ao90 t447.length co90)) (fun _ h_ => h_.1))) hb); have n3_ := Aside0.mk (Kd.V_below (by (with_reducible repeat (first | apply Kd.V_alloc | apply Kd.V_drewN | apply Kd.V_drew)); exact (Kd.V_mono (Kd.V_far (p := ⟨gb453, 1, none⟩) (Kd.V_far (p := ⟨gb453, 0, none⟩) (Kd.V_mono HO_414001.out (fun k_ hk => (⟨hk, hk.2⟩ : _ ∧ k_ ≠ gb453))) (fun _ hk => hk.2) (.int .i64 t446)) (fun _ hk => hk.2) (.slice Ao90 t447.length co90)) (fun _ h_ => h_.1))) hb); have n4_ := Aside0.mk (Kd.V_below (by (with_reducible repeat (first | apply Kd.V_alloc | apply Kd.V_drewN | apply Kd.V_drew)); exact (Kd.V_mono (Kd.V_far (p := ⟨gb453, 1, none⟩) (Kd.V_far (p := ⟨gb453, 0, none⟩) (Kd.V_mono HO_437001.out (fun k_ hk => (⟨hk, hk.2⟩ : _ ∧ k_ ≠ gb453))) (fun _ hk => hk.2) (.int .i64 t446)) (fun _ hk => hk.2) (.slice Ao90 t447.length co90)) (fun _ h_ => h_.1))) hb); have n5_ := Aside0.mk (Kd.V_below (by (with_reducible repeat (first | apply Kd.V_alloc | apply Kd.V_drewN | apply Kd.V_drew)); exact (Kd.V_mono (Kd.V_far (p := ⟨gb453, 1, none⟩) (Kd.V_far (p := ⟨gb453, 0, none⟩) (Kd.V_mono HO449.out (fun k_ hk => (⟨hk, hk.2⟩ : _ ∧ k_ ≠ gb453))) (fun _ hk => hk.2) (.int .i64 t446)) (fun _ hk => hk.2) (.slice Ao90 t447.length co90)) (fun _ h_ => h_.1))) hb); have n6_ := Aside0.mk (Kd.R_below (by (with_reducible repeat (first | apply Kd.R_alloc | apply Kd.R_drewN | apply Kd.R_drew)); exact (Kd.R_mono (Kd.R_far (p := ⟨gb453, 1, none⟩) (Kd.R_far (p := ⟨gb453, 0, none⟩) (Kd.R_types HO452.out BK453.out (by decide)) (fun _ hk => hk.2) (.int .i64 t446)) (fun _ hk => hk.2) (.slice Ao90 t447.length co90)) (fun _ h_ => h_.1))) hb); have n7_ := Aside0.mk (blk_below (g := gb413) (o := .cells #[.int .i64 t421, .slice Ao33 t422.length co33] 24 (0, 0)) (by (with_reducible repeat (first | refine blk_drewN ?_ _ | refine blk_drew ?_ | refine blk_alloc ?_ _)); refine blk_far ?_ NB413_453.out _; (with_reducible repeat (first | refine blk_drewN ?_ _ | refine blk_drew ?_ | refine blk_alloc ?_ _)); refine blk_far ?_ NB413_453.out _; (with_reducible repeat (first | refine blk_drewN ?_ _ | refine blk_drew ?_ | refine blk_alloc ?_ _)); exact BK413.out) hb); have n8_ := Aside0.mk (blk_below (g := gb436) (o := .cells #[.int .i64 t429, .slice Ao40 t430.length co40] 24 (0, 0)) (by (with_reducible repeat (first | refine blk_drewN ?_ _ | refine blk_drew ?_ | refine blk_alloc ?_ _)); refine blk_far ?_ NB436_453.out _; (with_reducible repeat (first | refine blk_drewN ?_ _ | refine blk_drew ?_ | refine blk_alloc ?_ _)); refine blk_far ?_ NB436_453.out _; (with_reducible repeat (first | refine blk_drewN ?_ _ | refine blk_drew ?_ | refine blk_alloc ?_ _)); exact BK436.out) hb); have n9_ := Aside0.mk (blk_below (g := gb453) (o := .cells #[.int .i64 t446, .slice Ao90 t447.length co90] 24 (0, 0)) (by (with_reducible repeat (first | refine blk_drewN ?_ _ | refine blk_drew ?_ | refine blk_alloc ?_ _)); refine blk_put (cs := #[.int .i64 t446, .slice none 0 0]) ?_ 1 _ rfl; (with_reducible repeat (first | refine blk_drewN ?_ _ | refine blk_drew ?_ | refine blk_alloc ?_ _)); refine blk_put (cs := #[.int .i64 0, .slice none 0 0]) ?_ 0 _ rfl; (with_reducible repeat (first | refine blk_drewN ?_ _ | refine blk_drew ?_ | refine blk_alloc ?_ _)); exact BK453.out) hb); have n10_ := Aside0.mk (below_step (by repeat (first | (with_reducible first | exact HB.out | apply below_alloc | apply pw_below_drewN | apply below_drew1 | refine below_set ?_ GE413.out | refine below_set ?_ GE436.out | refine below_set ?_ GE453.out) | exact HB.out)) hb); clear HO_7; clear HO_16; clear HO_79; clear HO_414001; clear HO_437001; clear HO449; clear HO452; clear BK413; clear BK436; clear BK453; clear HB; have HO_7 := n0_; have HO_16 := n1_; have HO_79 := n2_; have HO_414001 := n3_; have HO_437001 := n4_; have HO449 := n5_; have HO452 := n6_; have BK413 := n7_; have BK436 := n8_; have BK453 := n9_; have HB := n10_; clear n0_ n1_ n2_ n3_ n4_ n5_ n6_ n7_ n8_ n9_ n10_; (try clear hb); (try clear hb2); (try clear hk); (try clear hi)))
                              go_ret
                              exact ⟨by first | rfl | (simp [errW_none, errW_some] <;> rfl) | (simp [*, errW_none, errW_some] <;> rfl), by repeat (first | (with_reducible first | exact HB.out | apply below_alloc | apply pw_below_drewN | apply below_drew1 | refine below_set ?_ GE413.out | refine below_set ?_ GE436.out | refine below_set ?_ GE453.out) | exact HB.out)⟩
                            · rw [if_neg c81] at H
                              exact absurd H (by simp)
                          · rw [if_neg c80] at H
                            exact absurd H (by simp)
                        · rw [if_neg c79] at H
                          exact absurd H (by simp)
                      · rw [if_neg c78] at H
                        exact absurd H (by simp)
                    · rw [if_neg c77] at H
                      exact absurd H (by simp)
            · rw [if_neg c28] at H
              exact absurd H (by simp)
          · rw [if_neg c27] at H
            exact absurd H (by simp)

end Go.Proofs.Ytgjngaeoojcioaa.X
