-- Written by a program of this session (wip/tools/xprint.py) out of the translation. Not trusted: Lean checks it.
import Derived.Test.YtbfhojfeolejlaaMyOpen
import Derived.Test.YtbfhojfeolejlaaXx0
namespace Go.Proofs.Ytbfhojfeolejlaa.X
open Go.RowKit Go.ChangeShapes Go.WideShapes Go.Deep Go.Proofs.YtbfhojfeolejlaaW Go.Proofs.YtbfhojfeolejlaaW.PrintWords
set_option linter.unusedVariables false

def ok25 (x : S25) : Prop := Open.okStr x.f0 ∧ Open.okStr x.f1 ∧ Open.okBool x.f2
theorem opens25 : Open.Opens Try.prog 25 k25 ok25 := by
  intro H enc w base spare held fuel cs x h
  obtain ⟨xs, n, _, _, hlen, hxl, hf⟩ := DataW.trod_struct Try.underlying25 h
  have hlen : cs.length = 3 := hlen.trans (by kernel_rfl)
  match cs, hlen with
  | [c0, c1, c2], _ =>
    match xs, hxl with
    | [y0, y1, y2], _ =>
      have g0 : DataW.trod enc Try.prog w base spare held n 9 (([c0, c1, c2].drop 0).take (Try.prog.cellsOf 9)) = some y0 := hf 0 _ rfl
      rw [show Try.prog.cellsOf 9 = 1 from by kernel_rfl] at g0
      obtain ⟨v0, h0, w0⟩ := (Open.opens_str Try.underlying9) (show DataW.trod enc Try.prog w base spare held n 9 [c0] = some y0 from g0)
      have g1 : DataW.trod enc Try.prog w base spare held n 9 (([c0, c1, c2].drop 1).take (Try.prog.cellsOf 9)) = some y1 := hf 1 _ rfl
      rw [show Try.prog.cellsOf 9 = 1 from by kernel_rfl] at g1
      obtain ⟨v1, h1, w1⟩ := (Open.opens_str Try.underlying9) (show DataW.trod enc Try.prog w base spare held n 9 [c1] = some y1 from g1)
      have g2 : DataW.trod enc Try.prog w base spare held n 4 (([c0, c1, c2].drop 2).take (Try.prog.cellsOf 4)) = some y2 := hf 2 _ rfl
      rw [show Try.prog.cellsOf 4 = 1 from by kernel_rfl] at g2
      obtain ⟨v2, h2, w2⟩ := (Open.opens_bool Try.underlying4) (show DataW.trod enc Try.prog w base spare held n 4 [c2] = some y2 from g2)
      exact ⟨⟨v0, v1, v2⟩, ⟨_, _, rfl, h0, ⟨_, _, rfl, h1, h2⟩⟩, ⟨w0, w1, w2⟩⟩
def ok42 (x : S42) : Prop := Open.okStr x.f0 ∧ Open.okStr x.f1
theorem opens42 : Open.Opens Try.prog 42 k42 ok42 := by
  intro H enc w base spare held fuel cs x h
  obtain ⟨xs, n, _, _, hlen, hxl, hf⟩ := DataW.trod_struct Try.underlying42 h
  have hlen : cs.length = 2 := hlen.trans (by kernel_rfl)
  match cs, hlen with
  | [c0, c1], _ =>
    match xs, hxl with
    | [y0, y1], _ =>
      have g0 : DataW.trod enc Try.prog w base spare held n 9 (([c0, c1].drop 0).take (Try.prog.cellsOf 9)) = some y0 := hf 0 _ rfl
      rw [show Try.prog.cellsOf 9 = 1 from by kernel_rfl] at g0
      obtain ⟨v0, h0, w0⟩ := (Open.opens_str Try.underlying9) (show DataW.trod enc Try.prog w base spare held n 9 [c0] = some y0 from g0)
      have g1 : DataW.trod enc Try.prog w base spare held n 9 (([c0, c1].drop 1).take (Try.prog.cellsOf 9)) = some y1 := hf 1 _ rfl
      rw [show Try.prog.cellsOf 9 = 1 from by kernel_rfl] at g1
      obtain ⟨v1, h1, w1⟩ := (Open.opens_str Try.underlying9) (show DataW.trod enc Try.prog w base spare held n 9 [c1] = some y1 from g1)
      exact ⟨⟨v0, v1⟩, ⟨_, _, rfl, h0, h1⟩, ⟨w0, w1⟩⟩
end Go.Proofs.Ytbfhojfeolejlaa.X
