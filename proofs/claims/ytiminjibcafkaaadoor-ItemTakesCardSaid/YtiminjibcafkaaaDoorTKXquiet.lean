/- Regions that draw their order, walked once in the text's order, in the class of worlds that leave what was: words for such walks. -/
import Derived.Test.YtiminjibcafkaaaDoorTKX0
import Derived.Test.YtiminjibcafkaaaDoorTKXhcommon
import Derived.Deep.QuietTactic
import Derived.BigQuiet
namespace Go.Proofs.YtiminjibcafkaaaDoor.X
open Go.RowKit Go.Proofs.YtiminjibcafkaaaDoorW.PrintWords Go.Proofs.YtiminjibcafkaaaDoorW.PrintLast Go.Proofs.YtiminjibcafkaaaDoorW.PrintMore
set_option linter.unusedVariables false
end Go.Proofs.YtiminjibcafkaaaDoor.X
