-- MADE BY wip/prx.py (the kit's printer, with contracts proved by hand). Not trusted: Lean checks it.
import Derived.Test.YtiminjibcafkaaaSFX0
import Derived.Test.YtiminjibcafkaaaSFX13
import Derived.Test.YtiminjibcafkaaaSFJ18
import Derived.Test.YtiminjibcafkaaaSFXhslicesConcatRun
namespace Go.Proofs.Ytiminjibcafkaaa.X
open Go.RowKit Go.Proofs.YtiminjibcafkaaaW.PrintWords Go.Proofs.YtiminjibcafkaaaW.PrintLast Go.Proofs.YtiminjibcafkaaaW.PrintMore
attribute [local go_sem] max2_int min2_int max_two min_two max_three min_three max_four min_four   -- for this text's walks alone
set_option linter.unusedVariables false
set_option linter.unusedSimpArgs false
--EXT 
/-! ### know_Union: function 35, by hand -/
/-- know.Union. -/
def know_Union.f (k : Nat) (l0 l1 : List (S78)) : Option (List (S78) × Option Int) :=
  (know_Right.f k l0).bind fun b0 => (know_Right.f k l1).bind fun b1 => if b0 = true then (if b1 = true then (if l0.length ≤ 400000 then (if l1.length ≤ 400000 then know_merged.f k (l0 ++ l1) else none) else none) else some ([], some 9)) else some ([], some 9)
end Go.Proofs.Ytiminjibcafkaaa.X
