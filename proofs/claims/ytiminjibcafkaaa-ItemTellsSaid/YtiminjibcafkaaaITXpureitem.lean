/- What the functions of layer 2 compute, in plain Lean. -/
import Derived.Test.YtiminjibcafkaaaITXop
import Derived.Test.YtiminjibcafkaaaITX7
import Derived.KernelRfl
namespace Go.Proofs.Ytiminjibcafkaaa.X
open Go.RowKit Go.Proofs.YtiminjibcafkaaaW.PrintWords Go.Proofs.YtiminjibcafkaaaW.PrintLast Go.Proofs.YtiminjibcafkaaaW.PrintMore
set_option linter.unusedVariables false
def c3 (x y z : Int) : Int := if x < y then -1 else if y < x then 1 else z
theorem Compare8_is (x y : Int) : cmp_Compare_uint8.f x y = some (c3 x y 0) := by
  unfold cmp_Compare_uint8.f cmp_isNaN_uint8.f c3
  simp
  split <;> simp_all
  split <;> simp_all
theorem Compare32_is (x y : Int) : cmp_Compare_uint32.f x y = some (c3 x y 0) := by
  unfold cmp_Compare_uint32.f cmp_isNaN_uint32.f c3
  simp
  split <;> simp_all
  split <;> simp_all
/-- Versions in their order: by stamp, by replica, by number. -/
def cmpV (a b : S25) : Int := c3 a.f2 b.f2 (c3 a.f0 b.f0 (c3 a.f1 b.f1 0))
theorem c3_neg (x y z : Int) : c3 x y z < 0 ↔ x < y ∨ (x = y ∧ z < 0) := by unfold c3; repeat' split <;> omega
theorem c3_pos (x y z : Int) : 0 < c3 x y z ↔ y < x ∨ (x = y ∧ 0 < z) := by unfold c3; repeat' split <;> omega
theorem cmpV_neg (a b : S25) : cmpV a b < 0 ↔ a.f2 < b.f2 ∨ (a.f2 = b.f2 ∧ (a.f0 < b.f0 ∨ (a.f0 = b.f0 ∧ a.f1 < b.f1))) := by unfold cmpV; simp only [c3_neg]; omega
theorem cmpV_pos (a b : S25) : 0 < cmpV a b ↔ b.f2 < a.f2 ∨ (a.f2 = b.f2 ∧ (b.f0 < a.f0 ∨ (a.f0 = b.f0 ∧ b.f1 < a.f1))) := by unfold cmpV; simp only [c3_pos]; omega
theorem c3_in (x y z : Int) (h : -1 ≤ z ∧ z ≤ 1) : -1 ≤ c3 x y z ∧ c3 x y z ≤ 1 := by unfold c3; repeat' split <;> omega
theorem cmpV_in (a b : S25) : -1 ≤ cmpV a b ∧ cmpV a b ≤ 1 := c3_in _ _ _ (c3_in _ _ _ (c3_in _ _ _ (by omega)))
theorem cmpV_anti (a b : S25) : cmpV a b = -cmpV b a := by
  have h1 := cmpV_in a b
  have h2 := cmpV_in b a
  have h3 : cmpV a b < 0 ↔ 0 < cmpV b a := by rw [cmpV_neg, cmpV_pos]; omega
  have h4 : 0 < cmpV a b ↔ cmpV b a < 0 := by rw [cmpV_neg, cmpV_pos]; omega
  omega
/-- Is the first version less than the second? -/
def lessV (a b : S25) : Bool := decide (cmpV a b < 0)
theorem Less_is (a b : S25) : tidingsref02_Less.f a.f0 a.f1 a.f2 b.f0 b.f1 b.f2 = some (lessV a b) := by
  unfold tidingsref02_Less.f lessV cmpV c3
  repeat' split
  all_goals first | rfl | (simp; omega) | omega
theorem awake02 : tidingslaw02_awake.f 60 = some true := by kernel_rfl
end Go.Proofs.Ytiminjibcafkaaa.X
