/- Texts that this claim's law comes to, joined by wip/slim.py: XlawKnowTells, XlawKnowUnites. -/
import Derived.Test.YtiminjibcafkaaaDoorKLX15
import Derived.Test.YtiminjibcafkaaaDoorKLJ10
import Derived.Test.YtiminjibcafkaaaDoorKLJ18
import Derived.Test.YtiminjibcafkaaaDoorKLX18
import Derived.Test.YtiminjibcafkaaaDoorKLXhknowUnion
import Derived.Test.YtiminjibcafkaaaDoorKLX19
import Derived.Test.YtiminjibcafkaaaDoorKLX21
import Derived.Test.YtiminjibcafkaaaDoorKLJ27
import Derived.Test.YtiminjibcafkaaaDoorKLJ28
section
/- The law KnowTells at every input. -/
namespace Go.Proofs.YtiminjibcafkaaaDoor.X
open Go.RowKit Go.Proofs.YtiminjibcafkaaaDoorW.PrintWords Go.Proofs.YtiminjibcafkaaaDoorW.PrintLast Go.Proofs.YtiminjibcafkaaaDoorW.PrintMore
set_option linter.unusedVariables false
set_option linter.unusedSimpArgs false
theorem code_num (p : List S65 × Option Int) (h : ∀ c, p.2 = some c → c > 0) : codeOf p.2 = (num p).2 := by
  unfold num codeOf
  cases hp : p.2 with
  | none => rfl
  | some c =>
    show (if c > 0 then c else -1) = c
    rw [if_pos (h c hp)]
theorem fin_pos (l : List S65) (c : Int) (h : (fin l).2 = some c) : c > 0 := by
  unfold fin at h
  split at h
  · cases h; decide
  · cases h
theorem unionF_pos (a b : List S65) (c : Int) (h : (unionF a b).2 = some c) : c > 0 := by
  unfold unionF at h
  split at h
  · exact fin_pos _ c h
  · cases h; decide
theorem addF_len (r n : Int) (l : List S65) : (addF r n l).1.length ≤ 64 := by
  unfold addF
  split
  · exact fin_length _
  · simp
theorem unionF_len (a b : List S65) : (unionF a b).1.length ≤ 64 := by
  unfold unionF
  split
  · exact fin_length _
  · simp
end Go.Proofs.YtiminjibcafkaaaDoor.X
end
section
/- The law KnowUnites at every input. -/
namespace Go.Proofs.YtiminjibcafkaaaDoor.X
open Go.RowKit Go.Proofs.YtiminjibcafkaaaDoorW.PrintWords Go.Proofs.YtiminjibcafkaaaDoorW.PrintLast Go.Proofs.YtiminjibcafkaaaDoorW.PrintMore
set_option linter.unusedVariables false
set_option linter.unusedSimpArgs false
end Go.Proofs.YtiminjibcafkaaaDoor.X
end
