-- Written by a program of this session (wip/tools/xprint.py) out of the translation. Not trusted: Lean checks it.
import Derived.Test.YtldccimehioakaaMyOpen
import Derived.Test.YtldccimehioakaaXx0
namespace Go.Proofs.Ytldccimehioakaa.X
open Go.RowKit Go.ChangeShapes Go.WideShapes Go.Deep Go.Proofs.YtldccimehioakaaW Go.Proofs.YtldccimehioakaaW.PrintWords
set_option linter.unusedVariables false

def ok30 (x : S30) : Prop := (Open.okInt .i64) x.f0 ∧ Open.okStr x.f1 ∧ Open.okBool x.f2 ∧ Open.okStr x.f3 ∧ Open.okBool x.f4 ∧ Open.okStr x.f5
theorem opens30 : Open.Opens Try.prog 30 k30 ok30 := by
  intro H enc w base spare held fuel cs x h
  obtain ⟨xs, n, _, _, hlen, hxl, hf⟩ := DataW.trod_struct Try.underlying30 h
  have hlen : cs.length = 6 := hlen.trans (by kernel_rfl)
  match cs, hlen with
  | [c0, c1, c2, c3, c4, c5], _ =>
    match xs, hxl with
    | [y0, y1, y2, y3, y4, y5], _ =>
      have g0 : DataW.trod enc Try.prog w base spare held n 3 (([c0, c1, c2, c3, c4, c5].drop 0).take (Try.prog.cellsOf 3)) = some y0 := hf 0 _ rfl
      rw [show Try.prog.cellsOf 3 = 1 from by kernel_rfl] at g0
      obtain ⟨v0, h0, w0⟩ := (Open.opens_int Try.underlying3) (show DataW.trod enc Try.prog w base spare held n 3 [c0] = some y0 from g0)
      have g1 : DataW.trod enc Try.prog w base spare held n 9 (([c0, c1, c2, c3, c4, c5].drop 1).take (Try.prog.cellsOf 9)) = some y1 := hf 1 _ rfl
      rw [show Try.prog.cellsOf 9 = 1 from by kernel_rfl] at g1
      obtain ⟨v1, h1, w1⟩ := (Open.opens_str Try.underlying9) (show DataW.trod enc Try.prog w base spare held n 9 [c1] = some y1 from g1)
      have g2 : DataW.trod enc Try.prog w base spare held n 4 (([c0, c1, c2, c3, c4, c5].drop 2).take (Try.prog.cellsOf 4)) = some y2 := hf 2 _ rfl
      rw [show Try.prog.cellsOf 4 = 1 from by kernel_rfl] at g2
      obtain ⟨v2, h2, w2⟩ := (Open.opens_bool Try.underlying4) (show DataW.trod enc Try.prog w base spare held n 4 [c2] = some y2 from g2)
      have g3 : DataW.trod enc Try.prog w base spare held n 9 (([c0, c1, c2, c3, c4, c5].drop 3).take (Try.prog.cellsOf 9)) = some y3 := hf 3 _ rfl
      rw [show Try.prog.cellsOf 9 = 1 from by kernel_rfl] at g3
      obtain ⟨v3, h3, w3⟩ := (Open.opens_str Try.underlying9) (show DataW.trod enc Try.prog w base spare held n 9 [c3] = some y3 from g3)
      have g4 : DataW.trod enc Try.prog w base spare held n 4 (([c0, c1, c2, c3, c4, c5].drop 4).take (Try.prog.cellsOf 4)) = some y4 := hf 4 _ rfl
      rw [show Try.prog.cellsOf 4 = 1 from by kernel_rfl] at g4
      obtain ⟨v4, h4, w4⟩ := (Open.opens_bool Try.underlying4) (show DataW.trod enc Try.prog w base spare held n 4 [c4] = some y4 from g4)
      have g5 : DataW.trod enc Try.prog w base spare held n 9 (([c0, c1, c2, c3, c4, c5].drop 5).take (Try.prog.cellsOf 9)) = some y5 := hf 5 _ rfl
      rw [show Try.prog.cellsOf 9 = 1 from by kernel_rfl] at g5
      obtain ⟨v5, h5, w5⟩ := (Open.opens_str Try.underlying9) (show DataW.trod enc Try.prog w base spare held n 9 [c5] = some y5 from g5)
      exact ⟨⟨v0, v1, v2, v3, v4, v5⟩, ⟨_, _, rfl, h0, ⟨_, _, rfl, h1, ⟨_, _, rfl, h2, ⟨_, _, rfl, h3, ⟨_, _, rfl, h4, h5⟩⟩⟩⟩⟩, ⟨w0, w1, w2, w3, w4, w5⟩⟩
def ok35 (x : S35) : Prop := Open.okStr x.f0 ∧ Open.okStr x.f1 ∧ Open.okBool x.f2
theorem opens35 : Open.Opens Try.prog 35 k35 ok35 := by
  intro H enc w base spare held fuel cs x h
  obtain ⟨xs, n, _, _, hlen, hxl, hf⟩ := DataW.trod_struct Try.underlying35 h
  have hlen : cs.length = 3 := hlen.trans (by kernel_rfl)
  match cs, hlen with
  | [c0, c1, c2], _ =>
    match xs, hxl with
    | [y0, y1, y2], _ =>
      have g0 : DataW.trod enc Try.prog w base spare held n 9 (([c0, c1, c2].drop 0).take (Try.prog.cellsOf 9)) = some y0 := hf 0 _ rfl
      rw [show Try.prog.cellsOf 9 = 1 from by kernel_rfl] at g0
      obtain ⟨v0, h0, w0⟩ := (Open.opens_str Try.underlying9) (show DataW.trod enc Try.prog w base spare held n 9 [c0] = some y0 from g0)
      have g1 : DataW.trod enc Try.prog w base spare held n 9 (([c0, c1, c2].drop 1).take (Try.prog.cellsOf 9)) = some y1 := hf 1 _ rfl
      rw [show Try.prog.cellsOf 9 = 1 from by kernel_rfl] at g1
      obtain ⟨v1, h1, w1⟩ := (Open.opens_str Try.underlying9) (show DataW.trod enc Try.prog w base spare held n 9 [c1] = some y1 from g1)
      have g2 : DataW.trod enc Try.prog w base spare held n 4 (([c0, c1, c2].drop 2).take (Try.prog.cellsOf 4)) = some y2 := hf 2 _ rfl
      rw [show Try.prog.cellsOf 4 = 1 from by kernel_rfl] at g2
      obtain ⟨v2, h2, w2⟩ := (Open.opens_bool Try.underlying4) (show DataW.trod enc Try.prog w base spare held n 4 [c2] = some y2 from g2)
      exact ⟨⟨v0, v1, v2⟩, ⟨_, _, rfl, h0, ⟨_, _, rfl, h1, h2⟩⟩, ⟨w0, w1, w2⟩⟩
end Go.Proofs.Ytldccimehioakaa.X
