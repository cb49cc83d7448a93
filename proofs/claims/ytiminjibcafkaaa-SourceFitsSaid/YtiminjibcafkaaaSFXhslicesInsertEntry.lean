-- MADE BY wip/prx.py (the kit's printer, with contracts proved by hand). Not trusted: Lean checks it.
import Derived.Test.YtiminjibcafkaaaSFX0
import Derived.Test.YtiminjibcafkaaaSFJ8
import Derived.Lib.Overlaps
import Derived.Lib.AppendZerosOnto
import Derived.Laws.CopyRow
import Derived.Deep.RegionLaw
import Derived.Laws.CopyOwn
import Derived.Laws.Externs
import Derived.Lib.Walk
namespace Go.Proofs.Ytiminjibcafkaaa.X
open Go.RowKit Go.Proofs.YtiminjibcafkaaaW.PrintWords Go.Proofs.YtiminjibcafkaaaW.PrintLast Go.Proofs.YtiminjibcafkaaaW.PrintMore
attribute [local go_sem] max2_int min2_int max_two min_two max_three min_three max_four min_four   -- for this text's walks alone
set_option linter.unusedVariables false
set_option linter.unusedSimpArgs false
--EXT Derived.Lib.Overlaps Derived.Lib.AppendZerosOnto Derived.Laws.CopyRow Derived.Deep.RegionLaw Derived.Laws.CopyOwn Derived.Laws.Externs Derived.Lib.Walk
/-! ### slices_Insert_Entry: function 42, by hand -/
/-- slices.Insert of one entry. -/
def slices_Insert_Entry.f (l0 : List (S27)) (a1 : Int) (l2 : List (S27)) : Option (List (S27)) :=
  match l2 with
  | [x] => if 0 ≤ a1 then (if a1 ≤ (l0.length : Int) then (if l0.length < 4398046511103 then some (l0.take a1.toNat ++ x :: l0.drop a1.toNat) else none) else none) else none
  | _ => none
end Go.Proofs.Ytiminjibcafkaaa.X
