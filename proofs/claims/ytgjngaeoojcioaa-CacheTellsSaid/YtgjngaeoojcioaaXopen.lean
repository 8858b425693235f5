-- Written by a program of this session (wip/tools/xprint.py) out of the translation. Not trusted: Lean checks it.
import Derived.Test.YtgjngaeoojcioaaMyOpen
import Derived.Test.YtgjngaeoojcioaaXx0
namespace Go.Proofs.Ytgjngaeoojcioaa.X
open Go.RowKit Go.ChangeShapes Go.WideShapes Go.Deep Go.Proofs.YtgjngaeoojcioaaW Go.Proofs.YtgjngaeoojcioaaW.PrintWords
set_option linter.unusedVariables false

def ok27 (x : S27) : Prop := (Open.okInt .i64) x.f0 ∧ Open.okStr x.f1 ∧ Open.okBool x.f2
theorem opens27 : Open.Opens Try.prog 27 k27 ok27 := by
  intro H enc w base spare held fuel cs x h
  obtain ⟨xs, n, _, _, hlen, hxl, hf⟩ := DataW.trod_struct Try.underlying27 h
  have hlen : cs.length = 3 := hlen.trans (by kernel_rfl)
  match cs, hlen with
  | [c0, c1, c2], _ =>
    match xs, hxl with
    | [y0, y1, y2], _ =>
      have g0 : DataW.trod enc Try.prog w base spare held n 3 (([c0, c1, c2].drop 0).take (Try.prog.cellsOf 3)) = some y0 := hf 0 _ rfl
      rw [show Try.prog.cellsOf 3 = 1 from by kernel_rfl] at g0
      obtain ⟨v0, h0, w0⟩ := (Open.opens_int Try.underlying3) (show DataW.trod enc Try.prog w base spare held n 3 [c0] = some y0 from g0)
      have g1 : DataW.trod enc Try.prog w base spare held n 9 (([c0, c1, c2].drop 1).take (Try.prog.cellsOf 9)) = some y1 := hf 1 _ rfl
      rw [show Try.prog.cellsOf 9 = 1 from by kernel_rfl] at g1
      obtain ⟨v1, h1, w1⟩ := (Open.opens_str Try.underlying9) (show DataW.trod enc Try.prog w base spare held n 9 [c1] = some y1 from g1)
      have g2 : DataW.trod enc Try.prog w base spare held n 4 (([c0, c1, c2].drop 2).take (Try.prog.cellsOf 4)) = some y2 := hf 2 _ rfl
      rw [show Try.prog.cellsOf 4 = 1 from by kernel_rfl] at g2
      obtain ⟨v2, h2, w2⟩ := (Open.opens_bool Try.underlying4) (show DataW.trod enc Try.prog w base spare held n 4 [c2] = some y2 from g2)
      exact ⟨⟨v0, v1, v2⟩, ⟨_, _, rfl, h0, ⟨_, _, rfl, h1, h2⟩⟩, ⟨w0, w1, w2⟩⟩
def ok24 (x : S24) : Prop := (Open.okInt .i64) x.f0 ∧ (Open.okList ok27) x.f1
theorem opens24 : Open.Opens Try.prog 24 k24 ok24 := by
  intro H enc w base spare held fuel cs x h
  obtain ⟨xs, n, _, _, hlen, hxl, hf⟩ := DataW.trod_struct Try.underlying24 h
  have hlen : cs.length = 2 := hlen.trans (by kernel_rfl)
  match cs, hlen with
  | [c0, c1], _ =>
    match xs, hxl with
    | [y0, y1], _ =>
      have g0 : DataW.trod enc Try.prog w base spare held n 3 (([c0, c1].drop 0).take (Try.prog.cellsOf 3)) = some y0 := hf 0 _ rfl
      rw [show Try.prog.cellsOf 3 = 1 from by kernel_rfl] at g0
      obtain ⟨v0, h0, w0⟩ := (Open.opens_int Try.underlying3) (show DataW.trod enc Try.prog w base spare held n 3 [c0] = some y0 from g0)
      have g1 : DataW.trod enc Try.prog w base spare held n 22 (([c0, c1].drop 1).take (Try.prog.cellsOf 22)) = some y1 := hf 1 _ rfl
      rw [show Try.prog.cellsOf 22 = 1 from by kernel_rfl] at g1
      obtain ⟨v1, h1, w1⟩ := (Open.opens_slice Try.underlying22 (by kernel_rfl) opens27) (show DataW.trod enc Try.prog w base spare held n 22 [c1] = some y1 from g1)
      exact ⟨⟨v0, v1⟩, ⟨_, _, rfl, h0, h1⟩, ⟨w0, w1⟩⟩
end Go.Proofs.Ytgjngaeoojcioaa.X
