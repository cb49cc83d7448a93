-- Cut by wip/slim.py out of what the kit's print.sh had laid for this seat (YtiminjibcafkaaaDoorWInvWords): what this claim comes to, and no more. The text is no longer as it was printed.
import Derived.Test.YtiminjibcafkaaaDoorTKWInv
import Derived.Test.YtiminjibcafkaaaDoorTKWFootNe
namespace Go.Proofs.YtiminjibcafkaaaDoorW.PrintWords
open Go.RowKit
end Go.Proofs.YtiminjibcafkaaaDoorW.PrintWords
namespace Go.Proofs.YtiminjibcafkaaaDoorW.PrintLast
section
variable {ops : Array Oper} {a : Act} {o og : Oper} {g : Nat} {t : Tmp} {u : Bool}
end
end Go.Proofs.YtiminjibcafkaaaDoorW.PrintLast
