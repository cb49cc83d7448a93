-- Cut by wip/slim.py out of what the kit's print.sh had laid for this seat (YtiminjibcafkaaaWInvWords): what this claim comes to, and no more. The text is no longer as it was printed.
import Derived.Test.YtiminjibcafkaaaKPWInv
import Derived.Test.YtiminjibcafkaaaKPWFootNe
namespace Go.Proofs.YtiminjibcafkaaaW.PrintWords
open Go.RowKit
end Go.Proofs.YtiminjibcafkaaaW.PrintWords
namespace Go.Proofs.YtiminjibcafkaaaW.PrintLast
section
variable {ops : Array Oper} {a : Act} {o og : Oper} {g : Nat} {t : Tmp} {u : Bool}
end
end Go.Proofs.YtiminjibcafkaaaW.PrintLast
