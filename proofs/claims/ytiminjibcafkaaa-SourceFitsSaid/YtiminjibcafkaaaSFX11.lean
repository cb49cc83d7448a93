-- MADE BY wip/prx.py (the kit's printer, with contracts proved by hand). Not trusted: Lean checks it.
import Derived.Test.YtiminjibcafkaaaSFX0
import Derived.Test.YtiminjibcafkaaaSFJ14
namespace Go.Proofs.Ytiminjibcafkaaa.X
open Go.RowKit Go.Proofs.YtiminjibcafkaaaW.PrintWords Go.Proofs.YtiminjibcafkaaaW.PrintLast Go.Proofs.YtiminjibcafkaaaW.PrintMore
attribute [local go_sem] max2_int min2_int max_two min_two max_three min_three max_four min_four   -- for this text's walks alone
set_option linter.unusedVariables false
set_option linter.unusedSimpArgs false
/-! ### tidingsref02_Find: function 12 -/
def tidingsref02_Find.l0 : Nat → List (S27) → Int → Int → Option (Int × Int × Int × Int × Int × Int × Int × Bool)
  | 0, _, _, _ => none
  | k + 1, x0, x1, x6 => if x6 < (x0.length : Int) then (if 0 ≤ x6 then (if ((rd_T27 x0 x6).f0) = x1 then (some ((rd_T27 x0 x6).f0, (rd_T27 x0 x6).f1.f0, (rd_T27 x0 x6).f1.f1, (rd_T27 x0 x6).f1.f2, (rd_T27 x0 x6).f2, (rd_T27 x0 x6).f3, (rd_T27 x0 x6).f4, true)) else (tidingsref02_Find.l0 k x0 x1 (wrap64 (x6 + 1)))) else (none)) else (some (0, 0, 0, 0, 0, 0, 0, false))
def tidingsref02_Find.f (k : Nat) (l0 : List (S27)) (a1 : Int) : Option (Int × Int × Int × Int × Int × Int × Int × Bool) := tidingsref02_Find.l0 k l0 a1 0
/-! ### tidingsref02_Cmp: function 17 -/
def tidingsref02_Cmp.f (a0_0 : Int) (a0_1 : Int) (a0_2 : Int) (a1_0 : Int) (a1_1 : Int) (a1_2 : Int) : Option (Int) := (tidingsref02_Less.f a0_0 a0_1 a0_2 a1_0 a1_1 a1_2).bind fun t209 => (if t209 = true then (some (-1)) else ((tidingsref02_Less.f a1_0 a1_1 a1_2 a0_0 a0_1 a0_2).bind fun t210 => (if t210 = true then (some 1) else (some 0))))
/-! ### tidingsref02_Fade: function 20 -/
def tidingsref02_Fade.f (a0_0 : Int) (a0_1 : Int) (a0_2 : Int) (a0_3 : Int) (a0_4 : Int) (a0_5 : Int) (a0_6 : Int) : Option (Int × Int × Int × Int × Int × Int × Int) := if a0_4 = 1 then (some (a0_0, a0_1, a0_2, a0_3, 2, a0_5, 0)) else (some (a0_0, a0_1, a0_2, a0_3, a0_4, a0_5, a0_6))
end Go.Proofs.Ytiminjibcafkaaa.X
