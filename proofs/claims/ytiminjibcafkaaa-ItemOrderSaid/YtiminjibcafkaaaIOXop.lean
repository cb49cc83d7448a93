/- Arguments opened: what a reading of a struct, or of a slice of structs, tells of the cells and of the numbers' ranges. -/
import Derived.Test.YtiminjibcafkaaaIOX0
import Derived.ChangeArms
import Derived.Deep.Slices
import Derived.Deep.Fields
import Derived.WalkArith
import Derived.WideShapes
namespace Go.Proofs.Ytiminjibcafkaaa.X
open Go.RowKit Go.ChangeShapes Go.WideShapes Go.Deep Go.Proofs.YtiminjibcafkaaaW.PrintWords Go.Proofs.YtiminjibcafkaaaW.PrintLast Go.Proofs.YtiminjibcafkaaaW.PrintMore
set_option linter.unusedVariables false
def In8 (n : Int) : Prop := 0 ≤ n ∧ n ≤ 255
def In32 (n : Int) : Prop := 0 ≤ n ∧ n ≤ 4294967295
theorem wf8 {n : Int} (h : (Lit.int .u8 n).wf = true) : In8 n := by simpa [In8, Lit.wf, IntKind.min, IntKind.max, IntKind.signed, IntKind.bits] using h
theorem wf32 {n : Int} (h : (Lit.int .u32 n).wf = true) : In32 n := by simpa [In32, Lit.wf, IntKind.min, IntKind.max, IntKind.signed, IntKind.bits] using h
section
variable {H : Type} {enc : TypeId × Value → H} {w : World} {base : Nat} {spare : Nat → Bool} {held : Bool} {fuel : Nat} {cs : List Value} {y : DataW H × List MemPlace}
theorem op_u8 (h : DataW.trod enc Try.prog w base spare held fuel 5 cs = some y) : ∃ n, cs = [.int .u8 n] ∧ In8 n := by
  obtain ⟨n, h1, _, h3⟩ := DataW.trod_int Try.underlying5 h
  exact ⟨n, h1, wf8 h3⟩
theorem op_u32 (h : DataW.trod enc Try.prog w base spare held fuel 23 cs = some y) : ∃ n, cs = [.int .u32 n] ∧ In32 n := by
  obtain ⟨n, h1, _, h3⟩ := DataW.trod_int Try.underlying23 h
  exact ⟨n, h1, wf32 h3⟩
theorem len_3 {l : List Value} (h : l.length = 3) : ∃ c0 c1 c2, l = [c0, c1, c2] := match l, h with
  | [c0, c1, c2], _ => ⟨c0, c1, c2, rfl⟩
def Ok_Ver (x : S25) : Prop := In8 x.f0 ∧ In32 x.f1 ∧ In32 x.f2
theorem op_Ver (h : DataW.trod enc Try.prog w base spare held fuel 25 cs = some y) : ∃ x : S25, k25.K w x cs ∧ Ok_Ver x := by
  obtain ⟨ys, n, _, _, hlen, hyl, hf⟩ := DataW.trod_struct Try.underlying25 h
  replace hlen : cs.length = 3 := hlen.trans (by kernel_rfl)
  obtain ⟨c0, c1, c2, rfl⟩ := len_3 hlen
  have h0 : DataW.trod enc Try.prog w base spare held n 5 (List.take (Try.prog.cellsOf 5) (List.drop 0 [c0, c1, c2])) = some (ys[0]'(by rw [hyl]; decide)) := (hf 0 _ rfl).trans (List.getElem?_eq_getElem (by rw [hyl]; decide))
  rw [show Try.prog.cellsOf 5 = 1 from by kernel_rfl] at h0
  change DataW.trod enc _ w base spare held n 5 [c0] = _ at h0
  have h1 : DataW.trod enc Try.prog w base spare held n 23 (List.take (Try.prog.cellsOf 23) (List.drop 1 [c0, c1, c2])) = some (ys[1]'(by rw [hyl]; decide)) := (hf 1 _ rfl).trans (List.getElem?_eq_getElem (by rw [hyl]; decide))
  rw [show Try.prog.cellsOf 23 = 1 from by kernel_rfl] at h1
  change DataW.trod enc _ w base spare held n 23 [c1] = _ at h1
  have h2 : DataW.trod enc Try.prog w base spare held n 23 (List.take (Try.prog.cellsOf 23) (List.drop 2 [c0, c1, c2])) = some (ys[2]'(by rw [hyl]; decide)) := (hf 2 _ rfl).trans (List.getElem?_eq_getElem (by rw [hyl]; decide))
  rw [show Try.prog.cellsOf 23 = 1 from by kernel_rfl] at h2
  change DataW.trod enc _ w base spare held n 23 [c2] = _ at h2
  obtain ⟨x0, e0, o0⟩ := op_u8 h0
  injection e0 with e0; subst e0
  obtain ⟨x1, e1, o1⟩ := op_u32 h1
  injection e1 with e1; subst e1
  obtain ⟨x2, e2, o2⟩ := op_u32 h2
  injection e2 with e2; subst e2
  exact ⟨⟨x0, x1, x2⟩, k25_mk w ⟨x0, x1, x2⟩ , ⟨o0, o1, o2⟩⟩
end
end Go.Proofs.Ytiminjibcafkaaa.X
