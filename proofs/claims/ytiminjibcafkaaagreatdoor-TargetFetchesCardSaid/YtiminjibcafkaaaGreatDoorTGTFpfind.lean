/- A part of the proof. -/
import Derived.Test.YtiminjibcafkaaaGreatDoorTGTAJ40
import Derived.Test.YtiminjibcafkaaaGreatDoorTGTFcheck
set_option linter.unusedSimpArgs false
set_option linter.unusedVariables false
namespace Go.Proofs.YtiminjibcafkaaaGreatDoor.X
open Go.RowKit Go.Shelf Go.Proofs.YtiminjibcafkaaaGreatDoorW.PrintWords Go.Proofs.YtiminjibcafkaaaGreatDoorW.PrintLast Go.Proofs.YtiminjibcafkaaaGreatDoorW.PrintMore
def findE (l : List S62) (a : Int) : S62:=(l.find? (isID a)).getD z62
theorem Find_is (l : List S62) (a : Int) : item_Find.f l a = some ((findE l a).f0,(findE l a).f1.f0,(findE l a).f1.f1,(findE l a).f1.f2,(findE l a).f2,(findE l a).f3,(findE l a).f4,(l.find? (isID a)).isSome):=by
 unfold item_Find.f findE;cases l.find? (isID a)<;>rfl
theorem ref_Find_from (l : List S62) (a : Int) (hl : l.length ≤ 4611686018427387904) : ∀ d k i : Nat,i + d = l.length → d < k → tidingsref02_Find.l0 k l a (i : Int) = item_Find.f (l.drop i) a:=by
 intro d
 induction d with
 | zero =>
  intro k i hi hk;obtain ⟨k,rfl⟩ : ∃ m,k = m + 1:=⟨k - 1,by omega⟩
  simp only [tidingsref02_Find.l0];rw [if_neg (by omega),List.drop_of_length_le (by omega)];rfl
 | succ d ih =>
  intro k i hi hk;obtain ⟨k,rfl⟩ : ∃ m,k = m + 1:=⟨k - 1,by omega⟩
  simp only [tidingsref02_Find.l0];rw [if_pos (by omega),if_pos (by omega),rd_nat,wrap64_nat i (by omega),ih k (i + 1) (by omega) (by omega)];have e : l.drop i = l.getD i z62 :: l.drop (i + 1):=by
   rw [yG,zO (by omega : i < l.length)];exact (List.drop_eq_getElem_cons (by omega))
  rw [e];unfold item_Find.f;rw [List.find?_cons];by_cases h : (l.getD i z62).f0 = a
  ·rw [if_pos h,show isID a (l.getD i z62) = true from zE h]
  ·rw [if_neg h,show isID a (l.getD i z62) = false from zF h]
theorem Find_is' (l : List S62) (a : Int) (hl : l.length ≤ 4611686018427387904) (k : Nat) (hk : l.length < k) : tidingsref02_Find.f k l a = some ((findE l a).f0,(findE l a).f1.f0,(findE l a).f1.f1,(findE l a).f1.f2,(findE l a).f2,(findE l a).f3,(findE l a).f4,(l.find? (isID a)).isSome):=by
 rw [← Find_is];exact ref_Find_from l a hl l.length k 0 (by omega) hk
end Go.Proofs.YtiminjibcafkaaaGreatDoor.X
