/- stretch.Pick, walked: of the pairs those in a range, in a row of its own. -/
import Derived.Test.YtbfhojfeolejlaaFun
import Derived.Test.YtbfhojfeolejlaaXx3
namespace Go.Proofs.Ytbfhojfeolejlaa.Pick
open Go Go.RowKit Go.Proofs.Ytbfhojfeolejlaa.X Go.Proofs.YtbfhojfeolejlaaW Go.Proofs.YtbfhojfeolejlaaW.PrintWords Go.Proofs.YtbfhojfeolejlaaW.PrintLast Go.Proofs.YtbfhojfeolejlaaW.PrintMore Go.Proofs.Ytbfhojfeolejlaa.Fun
set_option linter.unusedVariables false
set_option linter.unusedSimpArgs false
set_option maxRecDepth 100000
set_option maxHeartbeats 1000000
/-- Is a key in a range? -/
def inR (a b : ByteArray) (o : Bool) (k : ByteArray) : Bool := !Op.bytesLess k.toList a.toList && (o || Op.bytesLess k.toList b.toList)
theorem in_f (a b : ByteArray) (o : Bool) (k : ByteArray) : stretch_In.f a b o k = some (inR a b o k) := by
  unfold stretch_In.f inR
  cases h1 : Op.bytesLess k.toList a.toList <;> cases o <;> simp [h1]
/-- Pick's function value: is the pair out of the range? -/
theorem pick_pred (g : Nat) (a b : ByteArray) (o : Bool) : Pred 22 #[.pointer (some ⟨g, 0, none⟩)] [(g, .cells #[.string a, .string b, .bool o] 25 (0, 0))] (fun x => !inR a b o x.f0) := by
  refine ⟨fun args w => rfl, fun w x hL => ?_⟩
  have hg := hL _ (List.mem_singleton.2 rfl)
  have HG := Aside0.mk hg
  clear hL hg
  have hu42 := Try.underlying42
  have hu25 := Try.underlying25
  have HI := Aside0.mk (in_f a b o x.f0)
  generalize inR a b o x.f0 = i at HI ⊢
  show Calls Try.prog 22 #[.agg #[.string x.f0, .string x.f1], .pointer (some ⟨g, 0, none⟩)] w _
  go_enter Try.func22, Try.ntmps22
  go_wp2_with (first | ((with_reducible refine gate_dst (N := 2) rfl ?_); refine box_event ?hg (N := 2) ?hd (cs := #[.string x.f0, .string x.f1]) (t := 42) ?hr ?_; (case hd => rfl); (case hg => rfl); (case hr => first | (go_simp; done) | (go_simp; rfl)); intro g0 hg0 w2 hbox hb; have h0_ := (blk_cell hbox 0).trans rfl; have h1_ := (blk_cell (blk_below HG.out hb) 0).trans rfl; have h2_ := (blk_cell (blk_below HG.out hb) 1).trans rfl; have h3_ := (blk_cell (blk_below HG.out hb) 2).trans rfl; have HB := Aside0.mk hb; clear hbox hb hg0) | (go_at_call 13; refine (stretch_In.calls a b o x.f0 i _ HI.out).mono ?_; rintro e w3 ⟨rfl, hb⟩; have HB2 := Aside0.mk hb; clear hb))
  go_ret
  exact ⟨rfl, below_step HB.out HB2.out⟩
theorem pick_calls (A : Option Addr) (c : Nat) (l : List S42) (a b : ByteArray) (o : Bool) (w : World) (hC : Kd.C k42 w A l.length l) (hl : l.length ≤ 1000000) :
    Calls Try.prog 17 #[.agg #[.string a, .string b, .bool o], .slice A l.length c] w fun e w' => ∃ v, e = .returned v ∧ Kd.R k42 42 w' w.heap.size (fun _ => True) v (keep (fun x => !inR a b o x.f0) l) ∧ Below w.heap.size w w' := by
  have HC := Aside0.mk hC
  clear hC
  have hu25 := Try.underlying25
  go_enter Try.func17, Try.ntmps17
  go_wp2_with (first | ((with_reducible refine gate_dst (N := 2) rfl ?_); refine box_event ?hg (N := 2) ?hd (cs := #[.string a, .string b, .bool o]) (t := 25) ?hr ?_; (case hd => rfl); (case hg => rfl); (case hr => first | (go_simp; done) | (go_simp; rfl)); intro g hg0 w2 hbox hb; have HB := Aside0.mk hb; have BK := Aside0.mk hbox; clear hbox hb hg0) | (go_at_call 21; refine (clone_calls A c l w2 (Kd.C_below HC.out HB.out) hl).mono ?_; rintro e w3 ⟨v3, rfl, h3, hb3⟩; have HR := Aside0.mk h3; have HB3 := Aside0.mk hb3; have BK3 := Aside0.mk (blk_below BK.out hb3); have NE := Aside0.mk (fun he => by have h_ := Kd.R_base h3 g he; have h2_ := blk_lt BK.out; omega : (v3 : Value).ownBlock ≠ some g); clear h3 hb3) | (go_at_call 20; refine (delete_any (pick_pred g a b o) v3 l w3 w2.heap.size (fun _ => True) HR.out hl (fun q hq => by rw [List.mem_singleton.1 hq]; exact BK3.out) (fun q hq => by rw [List.mem_singleton.1 hq]; exact fun he => NE.out he.symm)).mono ?_; rintro e w4 ⟨v4, rfl, h4, hg4, ho4⟩; have HR4 := Aside0.mk h4; have HG4 := Aside0.mk hg4; clear h4 hg4 ho4))
  go_ret
  exact ⟨_, rfl, Kd.R_lower HR4.out HB.out.size, (below_step HB.out HB3.out).grown HG4.out (below_step HB.out HB3.out).size (fun k hk => Nat.le_trans HB.out.size (Kd.R_base HR.out k hk))⟩
end Go.Proofs.Ytbfhojfeolejlaa.Pick
