-- MADE BY wip/prx.py (the kit's printer, with contracts proved by hand). Not trusted: Lean checks it.
import Derived.Test.YtiminjibcafkaaaSFX0
import Derived.Test.YtiminjibcafkaaaSFJ8
import Derived.Test.YtiminjibcafkaaaSFX4
import Derived.Test.YtiminjibcafkaaaSFXhslicesBinarySearchFuncEntryuint8
import Derived.Shelf.SlSortCmp.NoneTotal
import Derived.StillTailTactics
namespace Go.Proofs.Ytiminjibcafkaaa.X
open Go.RowKit Go.Proofs.YtiminjibcafkaaaW.PrintWords Go.Proofs.YtiminjibcafkaaaW.PrintLast Go.Proofs.YtiminjibcafkaaaW.PrintMore
attribute [local go_sem] max2_int min2_int max_two min_two max_three min_three max_four min_four   -- for this text's walks alone
set_option linter.unusedVariables false
set_option linter.unusedSimpArgs false
--EXT Derived.Shelf.SlSortCmp.NoneTotal Derived.StillTailTactics
/-! ### slices_SortFunc_Run: function 69, by hand -/
def orI (a b : Int) : Int := if a = 0 then b else a
def runCmp (x y : S78) : Int := orI (cmpI x.f0 y.f0) (cmpI x.f1 y.f1)
theorem runCmp_lt (x y : S78) : ltOf runCmp x y = (decide (x.f0 < y.f0) || (decide (x.f0 = y.f0) && decide (x.f1 < y.f1))) := by
  unfold ltOf runCmp orI cmpI
  by_cases h1 : x.f0 < y.f0
  · simp [h1]
  · by_cases h2 : x.f0 > y.f0
    · have h3 : ¬ x.f0 = y.f0 := by omega
      simp [h1, h2, h3]
    · have h3 : x.f0 = y.f0 := by omega
      by_cases h4 : x.f1 < y.f1
      · simp [h3, h4]
      · by_cases h5 : x.f1 > y.f1 <;> simp [h3, h4, h5]
theorem runCmp_swo : Sort.SWO (ltOf runCmp) where
  irrefl x := by rw [runCmp_lt]; simp
  trans x y z h1 h2 := by rw [runCmp_lt] at *; simp at *; omega
  ntrans x y z h1 h2 := by rw [runCmp_lt] at *; simp at *; omega
instance : Inhabited S78 := ⟨z78⟩
/-- slices.SortFunc by Rep, then by From: to the element, as Go's own text goes. -/
def slices_SortFunc_Run.f (l0 : List (S78)) : Option (List (S78)) := if l0.length < 11728124029610 then some (Sort.pdq (ltOf runCmp) l0.toArray 0 l0.toArray.size (Lib.bitLen l0.toArray.size) true true).toList else none
end Go.Proofs.Ytiminjibcafkaaa.X
