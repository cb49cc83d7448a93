-- MADE BY wip/prx.py (the kit's printer, with contracts proved by hand). Not trusted: Lean checks it.
import Derived.Test.YtiminjibcafkaaaSFX0
import Derived.Test.YtiminjibcafkaaaSFX4
import Derived.Shelf.Abstract
namespace Go.Proofs.Ytiminjibcafkaaa.X
open Go.RowKit Go.Proofs.YtiminjibcafkaaaW.PrintWords Go.Proofs.YtiminjibcafkaaaW.PrintLast Go.Proofs.YtiminjibcafkaaaW.PrintMore
attribute [local go_sem] max2_int min2_int max_two min_two max_three min_three max_four min_four   -- for this text's walks alone
set_option linter.unusedVariables false
set_option linter.unusedSimpArgs false
--EXT Derived.Shelf.Abstract
/-! ### slices_BinarySearchFunc_Entry_uint8: function 39, by hand -/
/-- cmp.Compare of two numbers. -/
def cmpI (a b : Int) : Int := if a < b then -1 else if a > b then 1 else 0
/-- Do the entries rise by ID? -/
def incB : List S27 → Bool
  | [] => true
  | x :: l => l.all (fun y => decide (x.f0 < y.f0)) && incB l
/-- How many stand ahead of an ID. -/
def lowB (t : Int) (l : List S27) : Nat := l.countP fun x => decide (x.f0 < t)
/-- slices.BinarySearchFunc by ID: of entries that rise. -/
def slices_BinarySearchFunc_Entry_uint8.f (l0 : List (S27)) (a1 : Int) : Option (Int × Bool) :=
  if incB l0 = true then (if l0.length < 4611686018427387904 then some ((lowB a1 l0 : Int), decide (lowB a1 l0 < l0.length) && decide ((l0.getD (lowB a1 l0) z27).f0 = a1)) else none) else none
end Go.Proofs.Ytiminjibcafkaaa.X
