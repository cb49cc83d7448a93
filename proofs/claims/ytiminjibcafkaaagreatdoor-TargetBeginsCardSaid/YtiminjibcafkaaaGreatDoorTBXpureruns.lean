/- Sets of versions told by runs, in plain Lean: what makes runs right, that a set has one way to be told, and how runs are merged. -/
import Derived.Test.YtiminjibcafkaaaGreatDoorTBX5
import Derived.Test.YtiminjibcafkaaaGreatDoorTBX15
import Derived.Test.YtiminjibcafkaaaGreatDoorTBJ23
import Derived.Test.YtiminjibcafkaaaGreatDoorTBXop
import Derived.Sort.AssemblyPlain
namespace Go.Proofs.YtiminjibcafkaaaGreatDoor.X
open Go.RowKit Go.Proofs.YtiminjibcafkaaaGreatDoorW.PrintWords Go.Proofs.YtiminjibcafkaaaGreatDoorW.PrintLast Go.Proofs.YtiminjibcafkaaaGreatDoorW.PrintMore
set_option linter.unusedVariables false
set_option linter.unusedSimpArgs false
def runB (x : S67) : Bool:=decide (x.f0 < 8) && (decide (1 ≤ x.f1) && decide (x.f1 ≤ x.f2))
def apartB (a b : S67) : Bool:=decide (a.f0 < b.f0) || (decide (a.f0 = b.f0) && decide (a.f2 + 1 < b.f1))
end Go.Proofs.YtiminjibcafkaaaGreatDoor.X
