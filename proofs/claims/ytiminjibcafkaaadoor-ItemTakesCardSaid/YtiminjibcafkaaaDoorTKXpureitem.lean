/- What the functions of layer 2 compute, in plain Lean. -/
import Derived.Test.YtiminjibcafkaaaDoorTKXop
import Derived.Test.YtiminjibcafkaaaDoorTKX7
import Derived.Test.YtiminjibcafkaaaDoorTKX10
import Derived.Test.YtiminjibcafkaaaDoorTKX9
import Derived.KernelRfl
namespace Go.Proofs.YtiminjibcafkaaaDoor.X
open Go.RowKit Go.Proofs.YtiminjibcafkaaaDoorW.PrintWords Go.Proofs.YtiminjibcafkaaaDoorW.PrintLast Go.Proofs.YtiminjibcafkaaaDoorW.PrintMore
set_option linter.unusedVariables false
def c3 (x y z : Int) : Int := if x < y then -1 else if y < x then 1 else z
theorem Compare8_is (x y : Int) : cmp_Compare_uint8.f x y = some (c3 x y 0) := by
  unfold cmp_Compare_uint8.f cmp_isNaN_uint8.f c3
  simp
  split <;> simp_all
  split <;> simp_all
theorem Compare32_is (x y : Int) : cmp_Compare_uint32.f x y = some (c3 x y 0) := by
  unfold cmp_Compare_uint32.f cmp_isNaN_uint32.f c3
  simp
  split <;> simp_all
  split <;> simp_all
/-- Versions in their order: by stamp, by replica, by number. -/
def cmpV (a b : S25) : Int := c3 a.f2 b.f2 (c3 a.f0 b.f0 (c3 a.f1 b.f1 0))
theorem c3_zero (x y z : Int) : c3 x y z = 0 ↔ x = y ∧ z = 0 := by unfold c3; repeat' split <;> omega
theorem cmpV_zero (a b : S25) : cmpV a b = 0 ↔ a.f2 = b.f2 ∧ a.f0 = b.f0 ∧ a.f1 = b.f1 := by unfold cmpV; simp [c3_zero]
/-- Is the first version less than the second? -/
def lessV (a b : S25) : Bool := decide (cmpV a b < 0)
theorem Less_is (a b : S25) : tidingsref02_Less.f a.f0 a.f1 a.f2 b.f0 b.f1 b.f2 = some (lessV a b) := by
  unfold tidingsref02_Less.f lessV cmpV c3
  repeat' split
  all_goals first | rfl | (simp; omega) | omega
theorem awake02 : tidingslaw02_awake.f 60 = some true := by kernel_rfl
end Go.Proofs.YtiminjibcafkaaaDoor.X
