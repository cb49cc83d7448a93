-- MADE BY wip/prx.py (the kit's printer, with contracts proved by hand). Not trusted: Lean checks it.
import Derived.Test.YtiminjibcafkaaaKPX0
import Derived.Test.YtiminjibcafkaaaKPX2
namespace Go.Proofs.Ytiminjibcafkaaa.X
open Go.RowKit Go.Proofs.YtiminjibcafkaaaW.PrintWords Go.Proofs.YtiminjibcafkaaaW.PrintLast Go.Proofs.YtiminjibcafkaaaW.PrintMore
attribute [local go_sem] max2_int min2_int max_two min_two max_three min_three max_four min_four   -- for this text's walks alone
set_option linter.unusedVariables false
set_option linter.unusedSimpArgs false
attribute [local go_sem high] eqA27
/-! ### tidingsref01_Right: function 54 -/
/-! ### tidingsref01_Has: function 30 -/
/-! ### tidingsref02_Same: function 31 -/
-- NOT PRINTED: function 6 (tidingslaw06_SourceFits)
end Go.Proofs.Ytiminjibcafkaaa.X
