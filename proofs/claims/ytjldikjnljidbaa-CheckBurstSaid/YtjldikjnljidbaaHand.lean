/- check.Table and check.More, walked: an array of 256 numbers, filled and read. -/
import Derived.Test.YtjldikjnljidbaaXx1
import Derived.Test.YtjldikjnljidbaaCrcInt
import Derived.Laws.Tables
import Derived.Laws.Rows
import Derived.Laws.CopyOwn
import Derived.Outline
namespace Go.Proofs.Ytjldikjnljidbaa.Hand
open Go Go.RowKit Go.Proofs.Ytjldikjnljidbaa.X Go.Proofs.YtjldikjnljidbaaW Go.Proofs.YtjldikjnljidbaaW.PrintWords Go.Proofs.YtjldikjnljidbaaW.PrintLast Go.Proofs.YtjldikjnljidbaaW.PrintMore
attribute [local go_sem] max2_int min2_int max_two min_two
set_option linter.unusedVariables false
set_option linter.unusedSimpArgs false

def zeros : Array Value := Array.replicate 256 (.int .u32 0)
def tabI (i : Nat) : Int := ((Crc.tb (BitVec.ofNat 8 i)).toNat : Int)
def tabV (k : Nat) : Array Value := ((List.range 256).map fun i => if i < k then Value.int .u32 (tabI i) else .int .u32 0).toArray
theorem tabV_size (k : Nat) : (tabV k).size = 256 := by simp [tabV]
theorem tabV_zero : tabV 0 = zeros := by
  unfold tabV zeros
  apply Array.ext
  · simp
  · intro i h1 h2; simp
theorem tabV_get (k i : Nat) (h : i < 256) : (tabV k)[i]? = some (if i < k then Value.int .u32 (tabI i) else .int .u32 0) := by
  simp [tabV, h]
theorem tabV_set (k : Nat) (h : k < 256) : (tabV k).setIfInBounds k (.int .u32 (tabI k)) = tabV (k + 1) := by
  apply Array.ext
  · simp [tabV]
  · intro i h1 h2
    have hi : i < 256 := by simpa [tabV] using h2
    rw [Array.getElem_setIfInBounds (by simpa [tabV] using hi)]
    simp only [tabV, List.getElem_toArray, List.getElem_map, List.getElem_range]
    by_cases e : k = i
    · subst e; simp
    · simp only [e, if_false]
      by_cases h3 : i < k
      · simp [h3, show i < k + 1 by omega]
      · simp [h3, show ¬ i < k + 1 by omega]
theorem tab_info (k : Nat) : (Try.prog.info? 34).map (·.size) = some (tabV k).size := by rw [tabV_size]; kernel_rfl
theorem tab_hold (k : Nat) : zeros.size = (tabV k).size := by rw [tabV_size]; simp only [zeros, Array.size_replicate]
theorem tab_one (k : Nat) : (tabV k).all (·.oneCell') = true := by
  rw [Array.all_eq_true_iff_forall_mem]
  intro v hv
  simp only [tabV, List.mem_toArray, List.mem_map] at hv
  obtain ⟨i, _, rfl⟩ := hv
  split <;> rfl
theorem zero34 : (zeroValue 34).run Try.prog = fun w => .ok (.agg zeros) w := by kernel_rfl
theorem alloc34 (h : Bool) (old : Value) (W : World) (hh : h = true) : (Instr.alloc 34 h old).run Try.prog W = .ok (.pointer (some ⟨W.heap.size, 0, none⟩)) (W.alloc (.cells zeros 34 (0, 0))) := by
  subst hh
  kernel_rfl
set_option maxRecDepth 100000 in
set_option maxHeartbeats 1000000 in
theorem table_calls (w : World) : Calls Try.prog 16 #[] w fun e w' => e = .returned (.agg (tabV 256)) ∧ Below w.heap.size w w' := by
  go_enter Try.func16, Try.ntmps16
  have HB := Aside0.mk (Below.refl w.heap.size w)
  go_wp2_with (first | ((with_reducible refine gate_dst (N := 0) rfl ?_); refine box_event ?hg (N := 0) ?hd (cs := zeros) (t := 34) ?hr ?_; (case hd => rfl); (case hg => rfl); (case hr => kernel_rfl); intro g0 hg0 w1 hbox0 hb0; have hBK0 := Aside0.mk hbox0; have hB0 := Aside0.mk hb0; have hG0 := Aside0.mk hg0; clear hbox0 hb0 hg0) | ((with_reducible refine gate_dst (N := 1) rfl ?_); refine box_event ?hg (N := 1) ?hd (cs := zeros) (t := 34) ?hr ?_; (case hd => rfl); (case hg => rfl); (case hr => kernel_rfl); intro g1 hg1 w2 hbox1 hb1; have hBK1 := Aside0.mk hbox1; have hB1 := Aside0.mk hb1; have hG1 := Aside0.mk hg1; clear hbox1 hb1 hg1))
  have hlt0 : g0 < w1.heap.size := blk_lt hBK0.out
  have hne : g0 ≠ g1 := by rw [hG1.out]; exact Nat.ne_of_lt hlt0
  have hBK2 := Aside0.mk (blk_below hBK0.out hB1.out)
  have hge0 : w.heap.size ≤ g0 := Nat.le_of_eq hG0.out.symm
  have hge1 : w.heap.size ≤ g1 := by rw [hG1.out]; exact below_size hB0.out
  have HB2 := Aside0.mk (below_step hB0.out hB1.out)
  clear HB hBK0 hB0 hG0 hB1 hG1
  have hne' := Aside0.mk hne
  clear hne
  go_loopw [3] (fun i wr => ∃ k : Nat, k ≤ 256 ∧ i = .int .i64 k ∧ Aside0 (wr.heap[g1]? = some (.cells (tabV k) 34 (0, 0))) ∧ Aside0 (wr.heap[g0]? = some (.cells zeros 34 (0, 0))) ∧ Aside0 (Below w.heap.size w wr)) (fun i _ => 256 - (intOf i).toNat)
  case atStart => exact ⟨0, by omega, rfl, by rw [tabV_zero]; exact hBK1, hBK2, HB2⟩
  case round =>
    obtain ⟨k, hk, rfl, HK1, HK0, HB⟩ := hrel
    clear hBK1 hBK2 HB2
    by_cases hlt : k < 256
    · have hT := Aside0.mk (show check_turn.f 9 ((k : Int) * 65536) = some (tabI k) from by
        rw [show (k : Int) * 65536 = ((k * 65536 : Nat) : Int) from by omega]
        exact CrcInt.turn_tb k hlt)
      have hc1 : wr.cell? ⟨g1, k, none⟩ = some (.int .u32 0) := (blk_cell HK1.out k).trans (by rw [tabV_get k k hlt]; simp)
      have hf1 : wr.frozen? ⟨g1, k, none⟩ = false := blk_frozen HK1.out k
      go_wp2_with (go_at_call 18; refine (check_turn.calls 9 _ _ _ hT.out).mono ?_; rintro e w' ⟨rfl, hd⟩; obtain ⟨m, rfl⟩ := hd)
      go_roundw
      case rel =>
        refine ⟨k + 1, by omega, by go_num, ?_, ?_, ?_⟩
        · rw [← tabV_set k hlt]
          exact ⟨blk_set HK1.out k _⟩
        · exact ⟨blk_far HK0.out (p := ⟨g1, k, none⟩) hne'.out _⟩
        · exact ⟨below_set (pw_below_drewN HB.out m) hge1⟩
      case measure => simp [intOf]; omega
    · obtain rfl : k = 256 := by omega
      go_wp2_with (first | (with_reducible refine wpList_load_row rfl 34 _ rfl g1 rfl 34 (tabV 256) (0, 0) _ HK1.out Try.underlying34 rfl (tab_info 256) ?_) | (with_reducible refine wpList_store_row rfl 34 _ _ rfl g0 (tabV 256) rfl rfl 34 zeros HK0.out (tab_info 256) (tab_hold 256) (tab_one 256) ?_))
      refine bodyPost_ret (v := .agg (tabV 256)) (results_cell_row rfl _ _ g0 34 (tabV 256) (0, 0) _ rfl (setRow_heap wr g0 zeros _ 34 (0, 0) HK0.out) Try.underlying34 rfl (tab_info 256)) rfl ⟨rfl, ?_⟩
      exact below_setRow HB.out hge0 _
set_option maxRecDepth 100000 in
set_option maxHeartbeats 1000000 in
theorem more_calls (n : BitVec 32) (s : ByteArray) (w : World) (hs : s.size ≤ 140737488351232) :
    Calls Try.prog 14 #[.int .u32 (n.toNat : Int), .string s] w fun e w' => e = .returned (.int .u32 ((Crc.bytes (n.setWidth 24) s.toList).toNat : Int)) ∧ Below w.heap.size w w' := by
  have hn0 : (0 : Int) ≤ (n.toNat : Int) := by omega
  have hn1 : (n.toNat : Int) < 4294967296 := by have := n.isLt; omega
  go_enter Try.func14, Try.ntmps14
  go_wp2_with (first | (go_at_call 16; refine (table_calls _).mono ?_; rintro e w1 ⟨rfl, hb⟩; have hB1 := Aside0.mk hb; clear hb) | ((with_reducible refine gate_dst (N := 5) rfl ?_); refine box_event ?hg (N := 5) ?hd (cs := zeros) (t := 34) ?hr ?_; (case hd => rfl); (case hg => rfl); (case hr => kernel_rfl); intro g0 hg0 w2 hbox0 hb0; have hBK0 := Aside0.mk hbox0; have hB0 := Aside0.mk hb0; have hG0 := Aside0.mk hg0; clear hbox0 hb0 hg0) | (with_reducible refine wpList_store_row rfl 34 _ _ rfl _ (tabV 256) rfl rfl 34 zeros hBK0.out (tab_info 256) (tab_hold 256) (tab_one 256) ?_))
  have HK := Aside0.mk (setRow_heap w2 g0 zeros (tabV 256) 34 (0, 0) hBK0.out)
  have hge : w.heap.size ≤ g0 := by rw [hG0.out]; exact below_size hB1.out
  have HB := Aside0.mk (below_setRow (below_step hB1.out hB0.out) hge (tabV 256))
  clear hBK0 hB0 hG0 hB1
  rw [show Go.bits .and .u32 (n.toNat : Int) 16777215 = ((n.setWidth 24).toNat : Int) from CrcInt.and_width n]
  generalize w2.setRow g0 (tabV 256) = W at HK HB ⊢
  go_loop [0, 12] (fun v i => ∃ k : Nat, k ≤ s.size ∧ i = .int .i64 k ∧ v = .int .u32 ((Crc.bytes (n.setWidth 24) (s.toList.take k)).toNat : Int)) (fun _ i => s.size - (intOf i).toNat)
  case atStart => exact ⟨0, by omega, rfl, rfl⟩
  case round =>
    obtain ⟨k, hk, rfl, rfl⟩ := hrel
    by_cases hlt : k < s.size
    · have hx := Aside0.mk (show Crc.bytes (n.setWidth 24) (s.toList.take (k + 1)) = Crc.byte (Crc.bytes (n.setWidth 24) (s.toList.take k)) s[k].toBitVec from by
        rw [CrcInt.take_succ s k hlt, Crc.bytes_append]
        rfl)
      generalize Crc.bytes (n.setWidth 24) (s.toList.take k) = b at hx ⊢
      have hb0 : (0 : Int) ≤ (b.toNat : Int) := by omega
      have hb1 : (b.toNat : Int) < 16777216 := by have := b.isLt; omega
      obtain ⟨x, he⟩ : ∃ x : Int, x = (b.toNat : Int) := ⟨_, rfl⟩
      rw [← he] at hb0 hb1 ⊢
      have hX := Aside0.mk he
      clear he hn0 hn1
      have hp : (Go.bits .xor .u8 (x / 65536) (s[k].toNat : Int)).toNat < 256 := by
        rw [hX.out, CrcInt.place_eq, Int.toNat_natCast]
        exact (((b >>> 16).setWidth 8 ^^^ s[k].toBitVec).isLt)
      obtain ⟨y, hy, hc⟩ : ∃ y : Int, Aside0 (y = tabI (Go.bits .xor .u8 (x / 65536) (s[k].toNat : Int)).toNat) ∧ W.cell? ⟨g0, (Go.bits .xor .u8 (x / 65536) (s[k].toNat : Int)).toNat, none⟩ = some (.int .u32 y) :=
        ⟨_, ⟨rfl⟩, (blk_cell HK.out _).trans (by rw [tabV_get 256 _ hp, if_pos hp])⟩
      have hp0 : 0 ≤ Go.bits .xor .u8 (x / 65536) (s[k].toNat : Int) := by
        rw [hX.out, CrcInt.place_eq]
        omega
      have hp1 : Go.bits .xor .u8 (x / 65536) (s[k].toNat : Int) < 256 := by omega
      clear hp
      go_wp2
      go_round
      case rel =>
        refine ⟨k + 1, by omega, by go_num, ?_⟩
        rw [hx.out, ← CrcInt.more_step, ← hX.out, hy.out]
        rfl
      case measure => simp [intOf]; omega
    · obtain rfl : k = s.size := by omega
      go_wp2
      go_ret
      rw [List.take_of_length_le (by rw [CrcInt.toList_length]; exact Nat.le_refl _)]
      exact ⟨rfl, HB.out⟩
end Go.Proofs.Ytjldikjnljidbaa.Hand
