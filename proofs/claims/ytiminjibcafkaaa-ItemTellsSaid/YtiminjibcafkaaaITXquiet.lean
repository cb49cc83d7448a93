/- Regions that draw their order, walked once in the text's order, in the class of worlds that leave what was: words for such walks. -/
import Derived.Test.YtiminjibcafkaaaITX0
import Derived.Deep.QuietTactic
import Derived.BigQuiet
namespace Go.Proofs.Ytiminjibcafkaaa.X
open Go.RowKit Go.Proofs.YtiminjibcafkaaaW.PrintWords Go.Proofs.YtiminjibcafkaaaW.PrintLast Go.Proofs.YtiminjibcafkaaaW.PrintMore
set_option linter.unusedVariables false
/-- The worlds that leave what was below block B. -/
def Qc (B : Nat) (w0 : World) (w : World) : Prop := Below B w0 w
theorem region_qc {P : Program} {id : Nat} {Q : Exit → Act → World → Prop} {a : Act} {w : World} {l : List Oper} (hm : P.follows .mixedOrders = true) (hB : Region.lexB .any l.toArray = true)
    (h : wpQuiet P l.toArray (Qc w.heap.size w) (fun a' => ∀ w', Below w.heap.size w w' → Q .normal a' w') l a) : (Code.region id l.toArray true).wp P Q a w :=
  wp_region_quiet (C := Qc w.heap.size w) hm hB (by
    have h1 : ({ w with drawn := w.drawn + 1 } : World) = w.drewN 1 := rfl
    show Below w.heap.size w _
    rw [h1]
    exact pw_below_drewN (Below.refl _ _) 1) (by simpa [Qc] using h)
theorem Qc.out {B : Nat} {w0 w : World} (h : Qc B w0 w) : Below B w0 w := h
theorem cells7 {w : World} {g : Nat} {v0 v1 v2 v3 v4 v5 v6 : Value} {t : TypeId} (h : w.heap[g]? = some (.cells #[v0, v1, v2, v3, v4, v5, v6] t (0, 0))) : w.cell? ⟨g, 0, none⟩ = some v0 ∧ w.cell? ⟨g, 1, none⟩ = some v1 ∧ w.cell? ⟨g, 2, none⟩ = some v2 ∧ w.cell? ⟨g, 3, none⟩ = some v3 ∧ w.cell? ⟨g, 4, none⟩ = some v4 ∧ w.cell? ⟨g, 5, none⟩ = some v5 ∧ w.cell? ⟨g, 6, none⟩ = some v6 :=
  ⟨(blk_cell h 0).trans rfl, (blk_cell h 1).trans rfl, (blk_cell h 2).trans rfl, (blk_cell h 3).trans rfl, (blk_cell h 4).trans rfl, (blk_cell h 5).trans rfl, (blk_cell h 6).trans rfl⟩
end Go.Proofs.Ytiminjibcafkaaa.X
