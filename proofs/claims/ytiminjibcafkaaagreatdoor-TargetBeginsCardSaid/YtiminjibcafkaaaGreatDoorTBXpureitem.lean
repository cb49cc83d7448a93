/- What the functions of layer 2 compute, in plain Lean. -/
import Derived.Test.YtiminjibcafkaaaGreatDoorTBXop
import Derived.Test.YtiminjibcafkaaaGreatDoorTBJ7
import Derived.Test.YtiminjibcafkaaaGreatDoorTBJ20
import Derived.KernelRfl
namespace Go.Proofs.YtiminjibcafkaaaGreatDoor.X
open Go.RowKit Go.Proofs.YtiminjibcafkaaaGreatDoorW.PrintWords Go.Proofs.YtiminjibcafkaaaGreatDoorW.PrintLast Go.Proofs.YtiminjibcafkaaaGreatDoorW.PrintMore
set_option linter.unusedVariables false
def c3 (x y z : Int) : Int:=if x < y then -1 else if y < x then 1 else z
/-- Versions in their order: by stamp, by replica, by number. -/
def cmpV (a b : S60) : Int:=c3 a.f2 b.f2 (c3 a.f0 b.f0 (c3 a.f1 b.f1 0))
theorem c3_zero (x y z : Int) : c3 x y z = 0 ↔ x = y ∧ z = 0:=by unfold c3;repeat' split<;>omega
theorem cmpV_zero (a b : S60) : cmpV a b = 0 ↔ a.f2 = b.f2 ∧ a.f0 = b.f0 ∧ a.f1 = b.f1:=by unfold cmpV;simp [c3_zero]
/-- Is the first version less than the second? -/
def lessV (a b : S60) : Bool:=decide (cmpV a b < 0)
theorem Less_is (a b : S60) : tidingsref02_Less.f a.f0 a.f1 a.f2 b.f0 b.f1 b.f2 = some (lessV a b):=by
 unfold tidingsref02_Less.f lessV cmpV c3
 repeat' split
 all_goals first | rfl | (simp;omega) | omega
end Go.Proofs.YtiminjibcafkaaaGreatDoor.X
