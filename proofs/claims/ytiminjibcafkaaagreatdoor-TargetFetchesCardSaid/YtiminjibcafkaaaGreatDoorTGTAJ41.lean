/- Texts that this claim's law comes to, joined by wip/slim.py: Xpuretold, Xpuretold2, Xpuretold3. -/
import Derived.Test.YtiminjibcafkaaaGreatDoorTGJ26
import Derived.Test.YtiminjibcafkaaaGreatDoorTGTAJ40
import Derived.Test.YtiminjibcafkaaaGreatDoorTGJ11
import Derived.Test.YtiminjibcafkaaaGreatDoorTGTAX19
import Derived.Test.YtiminjibcafkaaaGreatDoorTGTAX21
set_option linter.unusedSimpArgs false
set_option linter.unusedVariables false
section
namespace Go.Proofs.YtiminjibcafkaaaGreatDoor.X
open RowKit YtiminjibcafkaaaGreatDoorW.PrintWords YtiminjibcafkaaaGreatDoorW.PrintLast YtiminjibcafkaaaGreatDoorW.PrintMore
theorem u64_id (n : Int) (h : 0 ≤ n ∧ n ≤ 18446744073709551615) : IntKind.u64.wrap n = n:=by
 have h2 : IntKind.u64.wrap n = n % 18446744073709551616:=by simp [IntKind.wrap,IntKind.signed,IntKind.bits]
 rw [h2];omega
theorem w64_id (n : Int) (h : -9223372036854775808 ≤ n ∧ n ≤ 9223372036854775807) : wrap64 n = n:=by unfold wrap64;omega
theorem in01_from (l : List S67) (hl : l.length ≤ 1000000) (ok : ∀ z ∈ l,Ok_Run z) (r m : Int) : ∀ d k i : Nat,i + d = l.length → d < k → tidingsref01_in.l0 k l r m (i : Int) = some ((l.drop i).any (inRun r m)):=by
 intro d
 induction d with
 | zero =>
  intro k i hi hk;obtain ⟨k,rfl⟩ : ∃ q,k = q + 1:=⟨k - 1,by omega⟩
  simp only [tidingsref01_in.l0];rw [if_neg (by omega),List.drop_of_length_le (by omega)];rfl
 | succ d ih =>
  intro k i hi hk;obtain ⟨k,rfl⟩ : ∃ q,k = q + 1:=⟨k - 1,by omega⟩
  obtain ⟨o0,o1,o2⟩:=ok _ (getDR l i (by omega));unfold In32 at o1 o2;simp only [tidingsref01_in.l0];rw [if_pos (by omega),if_pos (by omega),rdR,u64_id _ (by omega),u64_id _ (by omega),wrapN i (by omega),ih k (i + 1) (by omega) (by omega),dropR_cons l i (by omega),List.any_cons];generalize l.getD i z67 = x;unfold inRun;by_cases h0 : x.f0 = r
  ·rw [if_pos h0];by_cases h1 : m ≥ x.f1
   ·rw [if_pos h1];by_cases h2 : m ≤ x.f2
    ·rw [if_pos h2];simp [h0,h2,show x.f1 ≤ m from h1]
    ·rw [if_neg h2];simp [h2]
   ·rw [if_neg h1];simp [show ¬ x.f1 ≤ m from h1]
  ·rw [if_neg h0];simp [h0]
theorem in01_is (l : List S67) (hl : l.length ≤ 1000000) (ok : ∀ z ∈ l,Ok_Run z) (r m : Int) (k : Nat) (hk : l.length < k) : tidingsref01_in.f k l r m = some (l.any (inRun r m)) :=
 in01_from l hl ok r m l.length k 0 (by omega) hk
section
variable (l : List S67) (hl : l.length ≤ 1000) (ok : ∀ z ∈ l,Ok_Run z) (rep wo : Int) (hrep : In8 rep) (hwo : In32 wo)
include hl ok hrep
include hwo
end
theorem ref01_Right_from (l : List S67) (hl : l.length ≤ 1000000) (ok : ∀ z ∈ l,Ok_Run z) : ∀ d k i : Nat,i + d = l.length → 2 * d < k → tidingsref01_Right.l0 k l (i : Int) = some (okKFrom l d i && decide ((l.length : Int) ≤ 64)):=by
 intro d
 induction d with
 | zero =>
  intro k i hi hk;obtain ⟨k,rfl⟩ : ∃ m,k = m + 1:=⟨k - 1,by omega⟩
  simp only [tidingsref01_Right.l0,okKFrom];rw [if_neg (by omega),Bool.true_and]
 | succ d ih =>
  intro k i hi hk;obtain ⟨k,rfl⟩ : ∃ m,k = m + 1 + 1:=⟨k - 2,by omega⟩
  obtain ⟨o0,o1,o2⟩:=ok _ (getDR l i (by omega));unfold In32 at o1 o2;have e:=ih k (i + 1) (by omega) (by omega);have hj : ∀ b : Bool,b = !runB (l.getD i z67) → tidingsref01_Right.j1 (k + 1) l (i : Int) b = some (okKFrom l (d + 1) i && decide ((l.length : Int) ≤ 64)):=by
   intro b hb;simp only [tidingsref01_Right.j1,okKFrom,okK];cases hr : runB (l.getD i z67) with
   | false=>rw [hr] at hb;subst hb;simp
   | true =>
    rw [hr] at hb;subst hb;simp only [Bool.not_true,yC,if_false,Bool.true_and];rw [wrapN i (by omega),e];by_cases h0 : i = 0
    ·subst h0;simp
    ·obtain ⟨_,_,p2⟩:=ok _ (getDR l (i - 1) (by omega));unfold In32 at p2;rw [if_pos (by omega),wrapNp i (by omega) (by omega),if_pos (by omega),if_pos (by omega),if_pos (by omega),if_pos (by omega),rdR,rdR,u64_id (l.getD (i - 1) z67).f2 (by omega),u64_id _ (by omega),u64_id _ (by omega),zF h0,Bool.false_or];unfold apartB;generalize l.getD (i - 1) z67 = a at *;generalize l.getD i z67 = b at *;by_cases h1 : a.f0 > b.f0
     ·rw [if_pos h1,zF (show ¬ a.f0 < b.f0 by omega),zF (show ¬ a.f0 = b.f0 by omega)];rfl
     ·rw [if_neg h1];by_cases h2 : a.f0 = b.f0
      ·rw [if_pos h2,zE h2,zF (show ¬ a.f0 < b.f0 by omega)];by_cases h3 : a.f2 + 1 ≥ b.f1
       ·rw [if_pos h3,zF (show ¬ a.f2 + 1 < b.f1 by omega)];rfl
       ·rw [if_neg h3,zE (show a.f2 + 1 < b.f1 by omega)];rfl
      ·rw [if_neg h2,zE (show a.f0 < b.f0 by omega)];rfl
  simp only [tidingsref01_Right.l0];rw [if_pos (by omega),if_pos (by omega),rdR];by_cases h1 : (l.getD i z67).f0 ≥ 8
  ·rw [if_pos h1];exact hj true (by unfold runB;rw [zF (by omega)];rfl)
  ·rw [if_neg h1];by_cases h2 : (l.getD i z67).f1 = 0
   ·rw [if_pos h2];exact hj true (by unfold runB;rw [zF (show ¬ 1 ≤ (l.getD i z67).f1 by omega)];simp)
   ·rw [if_neg h2];refine hj _ ?_;unfold runB;rw [zE (show (l.getD i z67).f0 < 8 by omega),zE (show 1 ≤ (l.getD i z67).f1 by omega),Bool.true_and,Bool.true_and,← decide_not];exact decide_eq_decide.2 (by omega)
theorem ref01_Right_is (l : List S67) (hl : l.length ≤ 1000000) (ok : ∀ z ∈ l,Ok_Run z) (k : Nat) (hk : 2 * l.length < k) : tidingsref01_Right.f k l = some (rightK l):=ref01_Right_from l hl ok l.length k 0 (by omega) hk
theorem ref01_Has_from (l : List S67) (hl : l.length ≤ 1000000) (r m : Int) : ∀ d k i : Nat,i + d = l.length → d < k → tidingsref01_Has.l0 k l r m (i : Int) = some ((l.drop i).any (inRun r m)):=by
 intro d
 induction d with
 | zero =>
  intro k i hi hk;obtain ⟨k,rfl⟩ : ∃ q,k = q + 1:=⟨k - 1,by omega⟩
  simp only [tidingsref01_Has.l0];rw [if_neg (by omega),List.drop_of_length_le (by omega)];rfl
 | succ d ih =>
  intro k i hi hk;obtain ⟨k,rfl⟩ : ∃ q,k = q + 1:=⟨k - 1,by omega⟩
  simp only [tidingsref01_Has.l0];rw [if_pos (by omega),if_pos (by omega),rdR,wrapN i (by omega),ih k (i + 1) (by omega) (by omega),dropR_cons l i (by omega),List.any_cons];generalize l.getD i z67 = x;unfold inRun;by_cases h0 : x.f0 = r
  ·rw [if_pos h0];by_cases h1 : m ≥ x.f1
   ·rw [if_pos h1];by_cases h2 : m ≤ x.f2
    ·rw [if_pos h2];simp [h0,h2,show x.f1 ≤ m from h1]
    ·rw [if_neg h2];simp [h2]
   ·rw [if_neg h1];simp [show ¬ x.f1 ≤ m from h1]
  ·rw [if_neg h0];simp [h0]
theorem ref01_Has_is (l : List S67) (hl : l.length ≤ 1000000) (ok : ∀ z ∈ l,Ok_Run z) (r m : Int) (k : Nat) (hk : 2 * l.length < k) : tidingsref01_Has.f k l r m = some (hasB l r m):=by
 unfold tidingsref01_Has.f hasB;rw [ref01_Right_is l hl ok k hk];simp only [zW];cases rightK l with
 | false=>simp
 | true =>
  simp only [if_true,Bool.true_and];have:=ref01_Has_from l hl r m l.length k 0 (by omega) (by omega);simpa using this
def num (p : List S67 × Option Int) : List S67 × Int:=(p.1,p.2.getD 0)
end Go.Proofs.YtiminjibcafkaaaGreatDoor.X
end
