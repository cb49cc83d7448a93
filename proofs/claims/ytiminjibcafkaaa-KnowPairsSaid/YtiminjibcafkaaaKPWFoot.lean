-- Cut by wip/slim.py out of what the kit's print.sh had laid for this seat (YtiminjibcafkaaaWFoot): what this claim comes to, and no more. The text is no longer as it was printed.
import Derived.Test.YtiminjibcafkaaaKPWApart
import Derived.Test.YtiminjibcafkaaaKPWArr
/-! ### 43. What is read beside a state: it stays read whatever the state's calls turn ('∀ W', KeepBut w W' g none → d.C W' A n xs') -/
namespace Go.Proofs.YtiminjibcafkaaaW.PrintWords
open Go.RowKit
namespace Kd
section
variable {α : Type} {d : Kd α} {e base g n c : Nat} {ok : Nat → Prop} {w w0 W : World} {A : Option Addr} {xs : List α}
end
end Kd
end Go.Proofs.YtiminjibcafkaaaW.PrintWords
