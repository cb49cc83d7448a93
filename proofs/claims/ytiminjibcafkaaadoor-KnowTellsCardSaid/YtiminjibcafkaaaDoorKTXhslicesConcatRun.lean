-- MADE BY wip/prx.py (the kit's printer, with contracts proved by hand). Not trusted: Lean checks it.
import Derived.Test.YtiminjibcafkaaaDoorKTJ7
import Derived.Test.YtiminjibcafkaaaDoorKTXhcommon
import Derived.Lib.AppendZeros
import Derived.Laws.OwnMore
namespace Go.Proofs.YtiminjibcafkaaaDoor.X
open Go.RowKit Go.Proofs.YtiminjibcafkaaaDoorW.PrintWords Go.Proofs.YtiminjibcafkaaaDoorW.PrintLast Go.Proofs.YtiminjibcafkaaaDoorW.PrintMore
attribute [local go_sem] max2_int min2_int max_two min_two max_three min_three max_four min_four   -- for this text's walks alone
set_option linter.unusedVariables false
set_option linter.unusedSimpArgs false
--EXT Derived.Lib.AppendZeros Derived.Laws.OwnMore
/-! ### slices_Concat_Run: function 46, by hand -/
end Go.Proofs.YtiminjibcafkaaaDoor.X
