-- Cut by wip/slim.py out of what the kit's print.sh had laid for this seat (YtiminjibcafkaaaWFour): what this claim comes to, and no more. The text is no longer as it was printed.
import Derived.Test.YtiminjibcafkaaaKPWTab
/-! ### 56. Four, five, six operations that may come up next, in any order -/
namespace Go.Proofs.YtiminjibcafkaaaW.PrintLast
section
variable {P : Program} {ops : Array Oper} {Q : Exit → Act → World → Prop} {md : Region.Mode} {S : World → Prop} {ds : List Nat} {T : Bool × List (List Nat × List Nat)}
end
end Go.Proofs.YtiminjibcafkaaaW.PrintLast
