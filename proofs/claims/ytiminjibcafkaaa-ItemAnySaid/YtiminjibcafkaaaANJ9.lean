/- Texts that this claim's law comes to, joined by wip/slim.py: XhslicesIndexFuncEntry, XhitemFind. -/
import Derived.Test.YtiminjibcafkaaaANX0
import Derived.Test.YtiminjibcafkaaaANXhcommon
import Derived.Shelf.Abstract
section
-- MADE BY wip/prx.py (the kit's printer, with contracts proved by hand). Not trusted: Lean checks it.
namespace Go.Proofs.Ytiminjibcafkaaa.X
open Go.RowKit Go.Proofs.YtiminjibcafkaaaW.PrintWords Go.Proofs.YtiminjibcafkaaaW.PrintLast Go.Proofs.YtiminjibcafkaaaW.PrintMore
attribute [local go_sem] max2_int min2_int max_two min_two max_three min_three max_four min_four   -- for this text's walks alone
set_option linter.unusedVariables false
set_option linter.unusedSimpArgs false
--EXT Derived.Shelf.Abstract
/-! ### slices_IndexFunc_Entry: function 46, by hand -/
end Go.Proofs.Ytiminjibcafkaaa.X
end
section
-- MADE BY wip/prx.py (the kit's printer, with contracts proved by hand). Not trusted: Lean checks it.
namespace Go.Proofs.Ytiminjibcafkaaa.X
open Go.RowKit Go.Proofs.YtiminjibcafkaaaW.PrintWords Go.Proofs.YtiminjibcafkaaaW.PrintLast Go.Proofs.YtiminjibcafkaaaW.PrintMore
attribute [local go_sem] max2_int min2_int max_two min_two max_three min_three max_four min_four   -- for this text's walks alone
set_option linter.unusedVariables false
set_option linter.unusedSimpArgs false
--EXT 
/-! ### item_Find: function 21, by hand -/
def isID (a1 : Int) (x : S27) : Bool := decide (x.f0 = a1)
/-- item.Find. -/
def item_Find.f (l0 : List (S27)) (a1 : Int) : Option (Int × Int × Int × Int × Int × Int × Int × Bool) :=
  match l0.find? (isID a1) with
  | some x => some (x.f0, x.f1.f0, x.f1.f1, x.f1.f2, x.f2, x.f3, x.f4, true)
  | none => some (0, 0, 0, 0, 0, 0, 0, false)
end Go.Proofs.Ytiminjibcafkaaa.X
end
