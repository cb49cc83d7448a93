/- Texts that this claim's law comes to, joined by wip/slim.py: Xpureknow, Xpureknow2, Xpuretold, Xpuretold2, Xpuretold3. -/
import Derived.Test.YtiminjibcafkaaaGreatDoorTBX5
import Derived.Test.YtiminjibcafkaaaGreatDoorTBX15
import Derived.Test.YtiminjibcafkaaaGreatDoorTBJ23
import Derived.Test.YtiminjibcafkaaaGreatDoorTBX16
import Derived.Test.YtiminjibcafkaaaGreatDoorTBXhknowUnion
import Derived.Test.YtiminjibcafkaaaGreatDoorTBX19
import Derived.Test.YtiminjibcafkaaaGreatDoorTBX21
import Derived.Test.YtiminjibcafkaaaGreatDoorTBXpureruns
import Derived.Test.YtiminjibcafkaaaGreatDoorTBJ20
import Derived.Test.YtiminjibcafkaaaGreatDoorTBJ4
section
/- What the functions of layer 1 compute, in plain Lean. -/
namespace Go.Proofs.YtiminjibcafkaaaGreatDoor.X
open Go.RowKit Go.Proofs.YtiminjibcafkaaaGreatDoorW.PrintWords Go.Proofs.YtiminjibcafkaaaGreatDoorW.PrintLast Go.Proofs.YtiminjibcafkaaaGreatDoorW.PrintMore
set_option linter.unusedVariables false
set_option linter.unusedSimpArgs false
theorem wrapN (n : Nat) (h : n ≤ 4611686018427387904) : wrap64 ((n : Int) + 1) = ((n + 1 : Nat) : Int):=by unfold wrap64;omega
theorem wrapNp (n : Nat) (h0 : 0 < n) (h : n ≤ 4611686018427387904) : wrap64 ((n : Int) - 1) = ((n - 1 : Nat) : Int):=by unfold wrap64;omega
theorem rdR (l : List S67) (i : Nat) : rd_T67 l (i : Int) = l.getD i z67:=rfl
theorem getDR (l : List S67) (i : Nat) (h : i < l.length) : l.getD i z67 ∈ l:=by
 rw [List.getD_eq_getElem?_getD,List.getElem?_eq_getElem h];exact List.getElem_mem h
theorem dropR_cons (l : List S67) (i : Nat) (h : i < l.length) : l.drop i = l.getD i z67 :: l.drop (i + 1):=by
 rw [List.getD_eq_getElem?_getD,List.getElem?_eq_getElem h]
 exact (List.drop_eq_getElem_cons h)
theorem run_is (x : S67) : know_run.f x.f0 x.f1 x.f2 = some (runB x):=by
 unfold know_run.f runB
 by_cases h1 : x.f0 < 8<;>by_cases h2 : x.f1 ≥ 1
 ·have h3 : (1 : Int) ≤ x.f1:=h2
  simp [h1,h3]
 ·have h3 : ¬ (1 : Int) ≤ x.f1:=h2
  simp [h1,h3]
 ·simp [h1]
 ·simp [h1]
theorem apart_is (a b : S67) (ha : Ok_Run a) (hb : Ok_Run b) : know_apart.f a.f0 a.f1 a.f2 b.f0 b.f1 b.f2 = some (apartB a b):=by
 obtain ⟨_,_,h2⟩:=ha
 obtain ⟨_,k1,_⟩:=hb
 unfold In32 at h2 k1
 unfold know_apart.f apartB
 by_cases h : a.f0 < b.f0
 ·simp [h]
 ·by_cases h' : a.f0 = b.f0
  ·by_cases h4 : a.f2 < b.f1
   ·have e : (a.f2 + 1) % 4294967296 = a.f2 + 1:=by omega
    simp [h',h4,e]
   ·have e : ¬ a.f2 + 1 < b.f1:=by omega
    simp [h',h4,e]
  ·simp [h,h']
/-- Number i of some runs is right, and apart from the one ahead. -/
def okK (l : List S67) (i : Nat) : Bool:=runB (l.getD i z67) && (decide (i = 0) || apartB (l.getD (i - 1) z67) (l.getD i z67))
def okKFrom (l : List S67) : Nat → Nat → Bool
 | 0,_=>true
 | d + 1,i=>okK l i && okKFrom l d (i + 1)
def canonB (l : List S67) : Bool:=okKFrom l l.length 0
/-- Are runs right? -/
def rightK (l : List S67) : Bool:=canonB l && decide ((l.length : Int) ≤ 64)
theorem know_Right_from (l : List S67) (hl : l.length ≤ 4611686018427387904) (ok : ∀ z ∈ l,Ok_Run z) : ∀ d k i : Nat,i + d = l.length → d < k → know_Right.l0 k l l (l.length : Int) (i : Int) = some (okKFrom l d i && decide ((l.length : Int) ≤ 64)):=by
 intro d
 induction d with
 | zero =>
  intro k i hi hk
  obtain ⟨k,rfl⟩ : ∃ m,k = m + 1:=⟨k - 1,by omega⟩
  simp only [know_Right.l0,okKFrom]
  rw [if_neg (by omega),Bool.true_and]
 | succ d ih =>
  intro k i hi hk
  obtain ⟨k,rfl⟩ : ∃ m,k = m + 1:=⟨k - 1,by omega⟩
  simp only [know_Right.l0,okKFrom]
  rw [if_pos (by omega),if_pos (by omega),if_pos (by omega),rdR,run_is]
  simp only [Option.bind_some]
  have e:=ih k (i + 1) (by omega) (by omega)
  unfold okK
  cases runB (l.getD i z67) with
  | false=>simp
  | true =>
   simp only [if_true,Bool.true_and]
   rw [wrapN i (by omega),e]
   by_cases h0 : i = 0
   ·subst h0;simp
   ·rw [if_pos (by omega),wrapNp i (by omega) (by omega),if_pos (by omega),if_pos (by omega),rdR,apart_is _ _ (ok _ (getDR l (i - 1) (by omega))) (ok _ (getDR l i (by omega)))]
    simp only [Option.bind_some]
    rw [decide_eq_false h0,Bool.false_or]
    cases apartB (l.getD (i - 1) z67) (l.getD i z67)
    ·rfl
    ·rfl
theorem RightK_is (l : List S67) (hl : l.length ≤ 4611686018427387904) (ok : ∀ z ∈ l,Ok_Run z) (k : Nat) (hk : l.length < k) : know_Right.f k l = some (rightK l):=know_Right_from l hl ok l.length k 0 (by omega) hk
theorem HasK_is (l : List S67) (hl : l.length ≤ 4611686018427387904) (ok : ∀ z ∈ l,Ok_Run z) (r n : Int) (k : Nat) (hk : l.length < k) : know_Has.f k l r n = some (rightK l && l.any (inRun r n)):=by
 unfold know_Has.f
 rw [RightK_is l hl ok k hk]
 rfl
end Go.Proofs.YtiminjibcafkaaaGreatDoor.X
end
section
/- What layer 1 tells, as sets of pairs. -/
namespace Go.Proofs.YtiminjibcafkaaaGreatDoor.X
open Go.RowKit Go.Proofs.YtiminjibcafkaaaGreatDoorW.PrintWords Go.Proofs.YtiminjibcafkaaaGreatDoorW.PrintLast Go.Proofs.YtiminjibcafkaaaGreatDoorW.PrintMore
set_option linter.unusedVariables false
set_option linter.unusedSimpArgs false
/-- Has, as a Bool. -/
def hasB (l : List S67) (r m : Int) : Bool:=rightK l && l.any (inRun r m)
end Go.Proofs.YtiminjibcafkaaaGreatDoor.X
end
section
/- What the reference of layer 1 tells, in plain Lean: runs, out of marks where something begins or ends. -/
namespace Go.Proofs.YtiminjibcafkaaaGreatDoor.X
open Go.RowKit Go.Proofs.YtiminjibcafkaaaGreatDoorW.PrintWords Go.Proofs.YtiminjibcafkaaaGreatDoorW.PrintLast Go.Proofs.YtiminjibcafkaaaGreatDoorW.PrintMore
set_option linter.unusedVariables false
set_option linter.unusedSimpArgs false
theorem u64_id (n : Int) (h : 0 ≤ n ∧ n ≤ 18446744073709551615) : IntKind.u64.wrap n = n:=by
 have h2 : IntKind.u64.wrap n = n % 18446744073709551616:=by simp [IntKind.wrap,IntKind.signed,IntKind.bits]
 rw [h2];omega
end Go.Proofs.YtiminjibcafkaaaGreatDoor.X
end
section
/- What the reference of layer 1 tells: its loops. -/
namespace Go.Proofs.YtiminjibcafkaaaGreatDoor.X
open Go.RowKit Go.Proofs.YtiminjibcafkaaaGreatDoorW.PrintWords Go.Proofs.YtiminjibcafkaaaGreatDoorW.PrintLast Go.Proofs.YtiminjibcafkaaaGreatDoorW.PrintMore
set_option linter.unusedVariables false
set_option linter.unusedSimpArgs false
section
variable (l : List S67) (hl : l.length ≤ 1000) (ok : ∀ z ∈ l,Ok_Run z) (rep wo : Int) (hrep : In8 rep) (hwo : In32 wo)
include hl ok hrep
include hwo
end
end Go.Proofs.YtiminjibcafkaaaGreatDoor.X
end
section
/- What the reference of layer 1 tells: the runs of a set, in its one way. -/
namespace Go.Proofs.YtiminjibcafkaaaGreatDoor.X
open Go.RowKit Go.Proofs.YtiminjibcafkaaaGreatDoorW.PrintWords Go.Proofs.YtiminjibcafkaaaGreatDoorW.PrintLast Go.Proofs.YtiminjibcafkaaaGreatDoorW.PrintMore
set_option linter.unusedVariables false
set_option linter.unusedSimpArgs false
theorem ref01_Right_from (l : List S67) (hl : l.length ≤ 1000000) (ok : ∀ z ∈ l,Ok_Run z) : ∀ d k i : Nat,i + d = l.length → 2 * d < k → tidingsref01_Right.l0 k l (i : Int) = some (okKFrom l d i && decide ((l.length : Int) ≤ 64)):=by
 intro d
 induction d with
 | zero =>
  intro k i hi hk
  obtain ⟨k,rfl⟩ : ∃ m,k = m + 1:=⟨k - 1,by omega⟩
  simp only [tidingsref01_Right.l0,okKFrom]
  rw [if_neg (by omega),Bool.true_and]
 | succ d ih =>
  intro k i hi hk
  obtain ⟨k,rfl⟩ : ∃ m,k = m + 1 + 1:=⟨k - 2,by omega⟩
  obtain ⟨o0,o1,o2⟩:=ok _ (getDR l i (by omega))
  unfold In32 at o1 o2
  have e:=ih k (i + 1) (by omega) (by omega)
  have hj : ∀ b : Bool,b = !runB (l.getD i z67) → tidingsref01_Right.j1 (k + 1) l (i : Int) b = some (okKFrom l (d + 1) i && decide ((l.length : Int) ≤ 64)):=by
   intro b hb
   simp only [tidingsref01_Right.j1,okKFrom,okK]
   cases hr : runB (l.getD i z67) with
   | false=>rw [hr] at hb;subst hb;simp
   | true =>
    rw [hr] at hb
    subst hb
    simp only [Bool.not_true,Bool.false_eq_true,if_false,Bool.true_and]
    rw [wrapN i (by omega),e]
    by_cases h0 : i = 0
    ·subst h0;simp
    ·obtain ⟨_,_,p2⟩:=ok _ (getDR l (i - 1) (by omega))
     unfold In32 at p2
     rw [if_pos (by omega),wrapNp i (by omega) (by omega),if_pos (by omega),if_pos (by omega),if_pos (by omega),if_pos (by omega),rdR,rdR,u64_id (l.getD (i - 1) z67).f2 (by omega),u64_id _ (by omega),u64_id _ (by omega),decide_eq_false h0,Bool.false_or]
     unfold apartB
     generalize l.getD (i - 1) z67 = a at *
     generalize l.getD i z67 = b at *
     by_cases h1 : a.f0 > b.f0
     ·rw [if_pos h1,decide_eq_false (show ¬ a.f0 < b.f0 by omega),decide_eq_false (show ¬ a.f0 = b.f0 by omega)];rfl
     ·rw [if_neg h1]
      by_cases h2 : a.f0 = b.f0
      ·rw [if_pos h2,decide_eq_true h2,decide_eq_false (show ¬ a.f0 < b.f0 by omega)]
       by_cases h3 : a.f2 + 1 ≥ b.f1
       ·rw [if_pos h3,decide_eq_false (show ¬ a.f2 + 1 < b.f1 by omega)];rfl
       ·rw [if_neg h3,decide_eq_true (show a.f2 + 1 < b.f1 by omega)];rfl
      ·rw [if_neg h2,decide_eq_true (show a.f0 < b.f0 by omega)];rfl
  simp only [tidingsref01_Right.l0]
  rw [if_pos (by omega),if_pos (by omega),rdR]
  by_cases h1 : (l.getD i z67).f0 ≥ 8
  ·rw [if_pos h1]
   exact hj true (by unfold runB;rw [decide_eq_false (by omega)];rfl)
  ·rw [if_neg h1]
   by_cases h2 : (l.getD i z67).f1 = 0
   ·rw [if_pos h2]
    exact hj true (by unfold runB;rw [decide_eq_false (show ¬ 1 ≤ (l.getD i z67).f1 by omega)];simp)
   ·rw [if_neg h2]
    refine hj _ ?_
    unfold runB
    rw [decide_eq_true (show (l.getD i z67).f0 < 8 by omega),decide_eq_true (show 1 ≤ (l.getD i z67).f1 by omega),Bool.true_and,Bool.true_and,← decide_not]
    exact decide_eq_decide.2 (by omega)
theorem ref01_Right_is (l : List S67) (hl : l.length ≤ 1000000) (ok : ∀ z ∈ l,Ok_Run z) (k : Nat) (hk : 2 * l.length < k) : tidingsref01_Right.f k l = some (rightK l):=ref01_Right_from l hl ok l.length k 0 (by omega) hk
theorem ref01_Has_from (l : List S67) (hl : l.length ≤ 1000000) (r m : Int) : ∀ d k i : Nat,i + d = l.length → d < k → tidingsref01_Has.l0 k l r m (i : Int) = some ((l.drop i).any (inRun r m)):=by
 intro d
 induction d with
 | zero =>
  intro k i hi hk
  obtain ⟨k,rfl⟩ : ∃ q,k = q + 1:=⟨k - 1,by omega⟩
  simp only [tidingsref01_Has.l0]
  rw [if_neg (by omega),List.drop_of_length_le (by omega)]
  rfl
 | succ d ih =>
  intro k i hi hk
  obtain ⟨k,rfl⟩ : ∃ q,k = q + 1:=⟨k - 1,by omega⟩
  simp only [tidingsref01_Has.l0]
  rw [if_pos (by omega),if_pos (by omega),rdR,wrapN i (by omega),ih k (i + 1) (by omega) (by omega),dropR_cons l i (by omega),List.any_cons]
  generalize l.getD i z67 = x
  unfold inRun
  by_cases h0 : x.f0 = r
  ·rw [if_pos h0]
   by_cases h1 : m ≥ x.f1
   ·rw [if_pos h1]
    by_cases h2 : m ≤ x.f2
    ·rw [if_pos h2];simp [h0,h2,show x.f1 ≤ m from h1]
    ·rw [if_neg h2];simp [h2]
   ·rw [if_neg h1];simp [show ¬ x.f1 ≤ m from h1]
  ·rw [if_neg h0];simp [h0]
theorem ref01_Has_is (l : List S67) (hl : l.length ≤ 1000000) (ok : ∀ z ∈ l,Ok_Run z) (r m : Int) (k : Nat) (hk : 2 * l.length < k) : tidingsref01_Has.f k l r m = some (hasB l r m):=by
 unfold tidingsref01_Has.f hasB
 rw [ref01_Right_is l hl ok k hk]
 simp only [Option.bind_some]
 cases rightK l with
 | false=>simp
 | true =>
  simp only [if_true,Bool.true_and]
  have:=ref01_Has_from l hl r m l.length k 0 (by omega) (by omega)
  simpa using this
/-- The same answer, its error as a number. -/
def num (p : List S67 × Option Int) : List S67 × Int:=(p.1,p.2.getD 0)
theorem Same01_from (a : List S67) (hl : a.length ≤ 1000000) : ∀ d k i : Nat,i + d = a.length → d < k → tidingsref01_Same.l0 k a a (i : Int) = some true:=by
 intro d
 induction d with
 | zero =>
  intro k i hi hk
  obtain ⟨k,rfl⟩ : ∃ m,k = m + 1:=⟨k - 1,by omega⟩
  simp only [tidingsref01_Same.l0]
  rw [if_neg (by omega)]
 | succ d ih =>
  intro k i hi hk
  obtain ⟨k,rfl⟩ : ∃ m,k = m + 1:=⟨k - 1,by omega⟩
  simp only [tidingsref01_Same.l0]
  rw [if_pos (by omega),if_pos (by omega),if_pos (by omega),rdR,wrapN i (by omega),ih k (i + 1) (by omega) (by omega)]
  generalize a.getD i z67 = x
  simp
theorem Same01_is (a : List S67) (hl : a.length ≤ 1000000) (k : Nat) (hk : a.length < k) : tidingsref01_Same.f k a a = some true:=by
 unfold tidingsref01_Same.f
 rw [if_pos rfl]
 exact Same01_from a hl a.length k 0 (by omega) hk
end Go.Proofs.YtiminjibcafkaaaGreatDoor.X
end
