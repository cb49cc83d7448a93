-- Cut by wip/slim.py out of what the kit's print.sh had laid for this seat (YtiminjibcafkaaaWFootNe): what this claim comes to, and no more. The text is no longer as it was printed.
import Derived.Test.YtiminjibcafkaaaKPWN
/-! ### 52. A row that stays read whatever happens to a block (a set of blocks) doesn't lie there -/
namespace Go.Proofs.YtiminjibcafkaaaW.PrintWords
open Go.RowKit
namespace Kd
section
variable {α : Type} {d : Kd α} {W : World} {g n : Nat} {S ok : Nat → Prop} {A : Option Addr} {ad : Addr} {xs : List α}
end
end Kd
end Go.Proofs.YtiminjibcafkaaaW.PrintWords
