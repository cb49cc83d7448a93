-- MADE BY wip/prx.py (the kit's printer, with contracts proved by hand). Not trusted: Lean checks it.
import Derived.Test.YtiminjibcafkaaaSFX0
import Derived.Lib.SliceRun
namespace Go.Proofs.Ytiminjibcafkaaa.X
open Go.RowKit Go.Proofs.YtiminjibcafkaaaW.PrintWords Go.Proofs.YtiminjibcafkaaaW.PrintLast Go.Proofs.YtiminjibcafkaaaW.PrintMore
attribute [local go_sem] max2_int min2_int max_two min_two max_three min_three max_four min_four   -- for this text's walks alone
set_option linter.unusedVariables false
set_option linter.unusedSimpArgs false
--EXT Derived.Lib.SliceRun
/-! ### slices_Clone_Entry: function 43, by hand -/
/-- slices.Clone at api.Entry: the same elements, if they fit. -/
def slices_Clone_Entry.f (l0 : List (S27)) : Option (List (S27)) := if l0.length < 4398046511104 then some l0 else none
end Go.Proofs.Ytiminjibcafkaaa.X
