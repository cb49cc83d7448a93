/- The law ItemOrder in plain Lean. -/
import Derived.Test.YtiminjibcafkaaaIOX7
import Derived.Test.YtiminjibcafkaaaIOXpureitem
namespace Go.Proofs.Ytiminjibcafkaaa.X
open Go.RowKit Go.Proofs.YtiminjibcafkaaaW.PrintWords Go.Proofs.YtiminjibcafkaaaW.PrintLast Go.Proofs.YtiminjibcafkaaaW.PrintMore
set_option linter.unusedVariables false
theorem ItemOrder_pure (x0 x1 x2 : S25) (o0 : Ok_Ver x0) (o1 : Ok_Ver x1) (o2 : Ok_Ver x2) :
    ∃ k, tidingslaw02_ItemOrder.f k x0.f0 x0.f1 x0.f2 x1.f0 x1.f1 x1.f2 x2.f0 x2.f1 x2.f2 = some true := by
  refine ⟨60, ?_⟩
  have hg : tidingslaw02_ItemOrder.g 60 x0.f0 x0.f1 x0.f2 x1.f0 x1.f1 x1.f2 x2.f0 x2.f1 x2.f2 = some true := by
    unfold tidingslaw02_ItemOrder.g
    simp only [awake02, Cmp_is, Less_is, Option.bind_some, if_true]
    have b0 := cmpV_in x0 x1
    have b1 := cmpV_in x1 x0
    have e1 := cmpV_anti x0 x1
    have w1 : wrap64 (-cmpV x1 x0) = -cmpV x1 x0 := by unfold wrap64; omega
    have e2 : ((cmpV x0 x1 == 0) == (x0.f0 == x1.f0 && (x0.f1 == x1.f1 && (x0.f2 == x1.f2)))) = true := by
      have hz := cmpV_zero x0 x1
      rw [beq_iff_eq, Bool.eq_iff_iff]
      simp only [beq_iff_eq, Bool.and_eq_true]
      rw [hz]
      constructor
      · rintro ⟨h1, h2, h3⟩; exact ⟨h2, h3, h1⟩
      · rintro ⟨h1, h2, h3⟩; exact ⟨h3, h1, h2⟩
    have t1 := cmpV_nlt x0 x1 x2
    have t2 := cmpV_ngt x0 x1 x2
    rw [e2, w1, ← e1]
    unfold lessV
    generalize cmpV x0 x1 = p at *
    generalize cmpV x1 x2 = q at *
    generalize cmpV x0 x2 = r at *
    simp only [if_true]
    repeat' split
    all_goals first | (simp; done) | omega
  unfold tidingslaw02_ItemOrder.f
  rw [hg]
  rfl
end Go.Proofs.Ytiminjibcafkaaa.X
