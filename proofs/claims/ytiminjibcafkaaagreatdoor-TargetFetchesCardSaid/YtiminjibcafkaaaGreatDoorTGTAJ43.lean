/- Texts that this claim's law comes to, joined by wip/slim.py: Xpureright, Xpureref5, Xpurenote4, Xpureacc. -/
import Derived.Test.YtiminjibcafkaaaGreatDoorTGTAXhreplicaRight
import Derived.Test.YtiminjibcafkaaaGreatDoorTGTAJ29
import Derived.Test.YtiminjibcafkaaaGreatDoorTGJ17
import Derived.Test.YtiminjibcafkaaaGreatDoorTGJ16
import Derived.Test.YtiminjibcafkaaaGreatDoorTGTAJ40
import Derived.Test.YtiminjibcafkaaaGreatDoorTGTAJ42
import Derived.Test.YtiminjibcafkaaaGreatDoorTGTAXhtidingsref05Right
import Derived.Test.YtiminjibcafkaaaGreatDoorTGTAX21
import Derived.Test.YtiminjibcafkaaaGreatDoorTGTAX25
import Derived.Test.YtiminjibcafkaaaGreatDoorTGJ11
import Derived.Test.YtiminjibcafkaaaGreatDoorTGJ26
import Derived.Test.YtiminjibcafkaaaGreatDoorTGTAJ41
import Derived.Test.YtiminjibcafkaaaGreatDoorTGTAXaccdef
set_option linter.unusedSimpArgs false
set_option linter.unusedVariables false
section
namespace Go.Proofs.YtiminjibcafkaaaGreatDoor.X
open RowKit YtiminjibcafkaaaGreatDoorW.PrintWords YtiminjibcafkaaaGreatDoorW.PrintLast YtiminjibcafkaaaGreatDoorW.PrintMore
def sessB (on : Bool) (num frm cur ep : Int) (off : List S67) (last rep : Int) : Bool :=
 if on = true then (if cur = 0 then decide (ep = 0) && decide (off.length = 0) else true) && (rightK off && (decide (1 ≤ num) && (decide (num ≤ last) && (decide (frm < 8) && (!(decide (frm = rep)) && decide (cur < 64))))))
 else decide (num = 0) && (decide (frm = 0) && (decide (cur = 0) && (decide (ep = 0) && decide (off.length = 0))))
theorem sess_is (k : Nat) (on : Bool) (num frm cur ep : Int) (off : List S67) (last rep : Int) (hl : off.length ≤ 1000000) (ok : ∀ z ∈ off,Ok_Run z) (hk : off.length < k) : replica_session.f k on num frm cur ep off last rep = some (sessB on num frm cur ep off last rep):=by
 unfold replica_session.f sessB;rw [RightK_is off (by omega) ok k hk];simp only [zW];have hz : ((off.length : Int) == 0) = decide (off.length = 0):=by rw [beqd];exact decide_eq_decide.2 (by omega)
 rw [hz];cases on with
 | false =>
  simp only [yC,if_false];by_cases h1 : num = 0
  ·by_cases h2 : frm = 0
   ·by_cases h3 : cur = 0
    ·by_cases h4 : ep = 0
     ·simp [h1,h2,h3,h4]
     ·simp [h1,h2,h3,h4]
    ·simp [h1,h2,h3]
   ·simp [h1,h2]
  ·simp [h1]
 | true =>
  simp only [if_true];have hrest : ∀ b : Bool,(if rightK off = true then if num ≥ 1 then if num ≤ last then if frm < 8 then if frm = rep then some false else some (decide (cur < 64)) else some false else some false else some false else some false) = some (rightK off && (decide (1 ≤ num) && (decide (num ≤ last) && (decide (frm < 8) && (!(decide (frm = rep)) && decide (cur < 64)))))):=by
   intro b;cases rightK off with
   | false=>simp
   | true =>
    by_cases h1 : 1 ≤ num
    ·by_cases h2 : num ≤ last
     ·by_cases h3 : frm < 8
      ·by_cases h4 : frm = rep
       ·simp [h1,h2,h3,h4,show num ≥ 1 from h1]
       ·simp [h1,h2,h3,h4,show num ≥ 1 from h1]
      ·simp [h1,h2,h3,show num ≥ 1 from h1]
     ·simp [h1,h2,show num ≥ 1 from h1]
    ·simp [h1,show ¬ num ≥ 1 from h1]
  rw [hrest true];by_cases h1 : cur = 0
  ·rw [if_pos h1,if_pos h1];by_cases h2 : ep = 0
   ·rw [if_pos h2];by_cases h3 : off.length = 0
    ·rw [if_neg (by omega)];simp [h2,h3]
    ·rw [if_pos (by omega)];simp [h3]
   ·rw [if_neg h2];simp [h2]
  ·rw [if_neg h1,if_neg h1];simp
def badB (rep seq fil : Int) (kn : List S67) (l : List S62) (i : Nat) : Bool :=
 beyondB rep seq (l.getD i z62).f1.f0 (l.getD i z62).f1.f1 || (l.take i).any (isTwin (l.getD i z62).f1.f0 (l.getD i z62).f1.f1) || (decide ((l.getD i z62).f2 ≠ 2) && !(hasB kn (l.getD i z62).f1.f0 (l.getD i z62).f1.f1 && inE (l.getD i z62) fil))
def heldB (rep seq fil : Int) (kn : List S67) (l : List S62) : Nat → Nat → Bool
 | 0,_=>true
 | d + 1,i=>if badB rep seq fil kn l i = true then false else heldB rep seq fil kn l d (i + 1)
theorem held_is (k : Nat) (rep fil seq : Int) (kn : List S67) (l : List S62) (hkn : kn.length ≤ 1000000) (okk : ∀ z ∈ kn,Ok_Run z) (okl : ∀ z ∈ l,Ok_Entry z) (hf : In8 fil) (hk : kn.length < k) :
 ∀ d i,i + d ≤ l.length → replica_Right.l0 k rep fil seq kn l d i = some (heldB rep seq fil kn l d i)
 | 0,_,_=>rfl
 | d + 1,i,h=>by
  have hm:=getD_mem l i z62 (by omega);simp only [replica_Right.l0,heldB];rw [HasK_is kn (by omega) okk _ _ k hk,In_is _ (okl _ hm) fil hf];simp only [zW];rw [held_is k rep fil seq kn l hkn okk okl hf hk d (i + 1) (by omega)];unfold badB hasB;split<;>rfl
def repB (a0 a1 a2 a3 : Int) (l4 : List S67) (l5 : List S62) (a6 : Bool) (a7 a8 a9 a10 : Int) (l11 : List S67) (a12 : Int) : Bool :=
 decide (a0 < 8) && (rightK l4 && (rightL l5 && (sessB a6 a7 a8 a9 a10 l11 a12 a0 && (!((l4 ++ l11).any (fun x=>beyondB a0 a3 x.f0 x.f2)) && heldB a0 a3 a1 l4 l5 l5.length 0))))
theorem rep_is (k : Nat) (a0 a1 a2 a3 : Int) (l4 : List S67) (l5 : List S62) (a6 : Bool) (a7 a8 a9 a10 : Int) (l11 : List S67) (a12 : Int) (h4 : l4.length ≤ 400000) (h5 : l5.length ≤ 400000) (h11 : l11.length ≤ 400000) (ok4 : ∀ z ∈ l4,Ok_Run z) (ok5 : ∀ z ∈ l5,Ok_Entry z) (ok11 : ∀ z ∈ l11,Ok_Run z) (hf : In8 a1) (k4 : l4.length < k) (k5 : l5.length < k) (k11 : l11.length < k) :
 replica_Right.f k a0 a1 a2 a3 l4 l5 a6 a7 a8 a9 a10 l11 a12 = some (repB a0 a1 a2 a3 l4 l5 a6 a7 a8 a9 a10 l11 a12):=by
 unfold replica_Right.f repB;rw [RightK_is l4 (by omega) ok4 k k4,Right_is l5 (by omega) ok5 k k5,sess_is k a6 a7 a8 a9 a10 l11 a12 a0 (by omega) ok11 k11,held_is k a0 a1 a3 l4 l5 (by omega) ok4 ok5 hf k4 l5.length 0 (by omega)];simp only [zW];by_cases h0 : 8 ≤ a0
 ·rw [if_pos h0,zF (by omega)];rfl
 ·rw [if_neg h0,zE (by omega)];cases rightK l4 with
  | false=>rfl
  | true =>
   cases rightL l5 with
   | false=>rfl
   | true =>
    cases sessB a6 a7 a8 a9 a10 l11 a12 a0 with
    | false=>rfl
    | true =>
     rw [if_neg (by decide),if_neg (by decide),if_neg (by decide),if_neg (by omega),if_neg (by omega)];split
     ·rename_i h;rw [h];rfl
     ·rename_i h;rw [Bool.not_eq_true] at h;rw [h];rfl
def pullB (l6 : List S67) (a7 : Int) (l8 : List S62) (a9 : Int) (a10 : Bool) (l11 : List S67) : Bool :=
 rightK l6 && (decide (a7 = 0) && (decide (l8.length = 0) && (decide (a9 = 0) && (!a10 && decide (l11.length = 0)))))
theorem pull_is (k : Nat) (a0 a1 a2 a3 a4 a5 : Int) (l6 : List S67) (a7 : Int) (l8 : List S62) (a9 : Int) (a10 : Bool) (l11 : List S67) (h6 : l6.length ≤ 400000) (ok6 : ∀ z ∈ l6,Ok_Run z) (k6 : l6.length < k) : note_pull.f k a0 a1 a2 a3 a4 a5 l6 a7 l8 a9 a10 l11 = some (pullB l6 a7 l8 a9 a10 l11):=by
 unfold note_pull.f pullB;rw [RightK_is l6 (by omega) ok6 k k6];simp only [zW];have hz : ((l11.length : Int) == 0) = decide (l11.length = 0):=by rw [beqd];exact decide_eq_decide.2 (by omega)
 rw [hz];cases rightK l6 with
 | false=>rfl
 | true =>
  by_cases h1 : a7 = 0
  ·by_cases h2 : l8.length = 0
   ·by_cases h3 : a9 = 0
    ·cases a10<;>simp [h1,h2,h3]
    ·simp [h1,h2,h3]
   ·simp [h1,h2,show ¬ (l8.length : Int) = 0 by omega]
  ·simp [h1]
def nextB (cur : Int) (l : List S62) : Int:=if 0 < l.length then ((l.getD (l.length - 1) z62).f0 + 1) % 256 else cur
def batchB (a4 a5 : Int) (l6 : List S67) (l8 : List S62) (a9 : Int) (a10 : Bool) (l11 : List S67) : Bool :=
 decide (a5 = 0) && (decide (l6.length = 0) && (rightL l8 && (decide (l8.length ≤ 4) && (rightK l11 && (!(decide (0 < l8.length) && decide ((l8.getD 0 z62).f0 < a4)) && (decide (a9 = nextB a4 l8) && (!(decide (0 < a4) && decide (0 < l11.length)) && (a10 || (decide (l8.length = 4) && decide (a9 < 64))))))))))
theorem batch2_is (k : Nat) (b : Bool) (a0 a1 a2 a3 a4 a5 : Int) (l6 : List S67) (a7 : Int) (l8 : List S62) (a9 : Int) (a10 : Bool) (l11 : List S67) : note_batch.j2 (k + 1) b a0 a1 a2 a3 a4 a5 l6 a7 l8 a9 a10 l11 = some (!b && (!(decide (0 < a4) && decide (0 < l11.length)) && (a10 || (decide (l8.length = 4) && decide (a9 < 64))))):=by
 simp only [note_batch.j2];cases b with
 | true=>rfl
 | false =>
  simp only [yC,if_false,Bool.not_false,Bool.true_and];have hrest : (if a10 = true then some true else if (l8.length : Int) = 4 then some (decide (a9 < 64)) else some false) = some (a10 || (decide (l8.length = 4) && decide (a9 < 64))):=by
   cases a10 with
   | true=>rfl
   | false =>
    by_cases h : l8.length = 4
    ·simp [h]
    ·simp [h,show ¬ (l8.length : Int) = 4 by omega]
  rw [hrest];by_cases h1 : 0 < a4
  ·rw [if_pos h1,zE h1];by_cases h2 : 0 < l11.length
   ·rw [if_pos (by omega),zE h2];rfl
   ·rw [if_neg (by omega),zF h2];rfl
  ·rw [if_neg h1,zF h1];rfl
theorem batch1_is (k : Nat) (nx : Int) (b : Bool) (a0 a1 a2 a3 a4 a5 : Int) (l6 : List S67) (a7 : Int) (l8 : List S62) (a9 : Int) (a10 : Bool) (l11 : List S67) : note_batch.j1 (k + 2) nx b a0 a1 a2 a3 a4 a5 l6 a7 l8 a9 a10 l11 = some (!b && (!(decide (0 < l8.length) && decide ((l8.getD 0 z62).f0 < a4)) && (decide (a9 = nx) && (!(decide (0 < a4) && decide (0 < l11.length)) && (a10 || (decide (l8.length = 4) && decide (a9 < 64))))))):=by
 simp only [note_batch.j1];cases b with
 | true=>rfl
 | false =>
  simp only [yC,if_false,Bool.not_false,Bool.true_and];rw [batch2_is,batch2_is];have hb : (!(a9 != nx)) = decide (a9 = nx):=by rw [bne,Bool.not_not,beqd]
  by_cases h1 : 0 < l8.length
  ·rw [if_pos (by omega),if_pos (by omega),zE h1,Bool.true_and];have hr : rd_T62 l8 0 = l8.getD 0 z62:=rfl;rw [hr];by_cases h2 : (l8.getD 0 z62).f0 < a4
   ·rw [if_pos h2,zE h2];rfl
   ·rw [if_neg h2,zF h2,hb];rfl
  ·rw [if_neg (by omega),zF h1,hb];rfl
theorem batch0_is (k : Nat) (nx : Int) (a0 a1 a2 a3 a4 a5 : Int) (l6 : List S67) (a7 : Int) (l8 : List S62) (a9 : Int) (a10 : Bool) (l11 : List S67) (h8 : l8.length ≤ 400000) (h11 : l11.length ≤ 400000) (ok8 : ∀ z ∈ l8,Ok_Entry z) (ok11 : ∀ z ∈ l11,Ok_Run z) (k8 : l8.length < k + 2) (k11 : l11.length < k + 2) :
 note_batch.j0 (k + 3) nx a0 a1 a2 a3 a4 a5 l6 a7 l8 a9 a10 l11 = some (decide (a5 = 0) && (decide (l6.length = 0) && (rightL l8 && (decide (l8.length ≤ 4) && (rightK l11 && (!(decide (0 < l8.length) && decide ((l8.getD 0 z62).f0 < a4)) && (decide (a9 = nx) && (!(decide (0 < a4) && decide (0 < l11.length)) && (a10 || (decide (l8.length = 4) && decide (a9 < 64))))))))))):=by
 simp only [note_batch.j0];rw [RightK_is l11 (by omega) ok11 (k + 2) k11,Right_is l8 (by omega) ok8 (k + 2) k8];simp only [zW,batch1_is];by_cases h1 : a5 = 0
 ·rw [if_pos h1,zE h1,Bool.true_and];by_cases h2 : l6.length = 0
  ·rw [if_neg (by omega),zE h2,Bool.true_and];cases rightL l8 with
   | false=>rfl
   | true =>
    rw [if_pos rfl,Bool.true_and];by_cases h3 : l8.length ≤ 4
    ·rw [if_neg (by omega),zE h3,Bool.true_and];cases rightK l11<;>rfl
    ·rw [if_pos (by omega),zF h3];rfl
  ·rw [if_pos (by omega),zF h2];rfl
 ·rw [if_neg h1,zF h1];rfl
theorem batch_is (k : Nat) (a0 a1 a2 a3 a4 a5 : Int) (l6 : List S67) (a7 : Int) (l8 : List S62) (a9 : Int) (a10 : Bool) (l11 : List S67) (h8 : l8.length ≤ 400000) (h11 : l11.length ≤ 400000) (ok8 : ∀ z ∈ l8,Ok_Entry z) (ok11 : ∀ z ∈ l11,Ok_Run z) (k8 : l8.length + 3 < k) (k11 : l11.length + 3 < k) :
 note_batch.f k a0 a1 a2 a3 a4 a5 l6 a7 l8 a9 a10 l11 = some (batchB a4 a5 l6 l8 a9 a10 l11):=by
 obtain ⟨k,rfl⟩ : ∃ m,k = m + 3:=⟨k - 3,by omega⟩
 unfold note_batch.f batchB nextB;by_cases h : 0 < l8.length
 ·rw [if_pos (by omega),wrap64_nat_pred l8.length h (by omega),if_pos (by omega),if_pos (by omega),if_pos h,rd_nat];exact batch0_is k _ a0 a1 a2 a3 a4 a5 l6 a7 l8 a9 a10 l11 h8 h11 ok8 ok11 (by omega) (by omega)
 ·rw [if_neg (by omega),if_neg h];exact batch0_is k _ a0 a1 a2 a3 a4 a5 l6 a7 l8 a9 a10 l11 h8 h11 ok8 ok11 (by omega) (by omega)
def noteB (a0 a1 a2 a3 a4 a5 : Int) (l6 : List S67) (a7 : Int) (l8 : List S62) (a9 : Int) (a10 : Bool) (l11 : List S67) : Bool :=
 decide (a1 < 8) && (decide (a2 < 8) && (!(decide (a1 = a2)) && (!(decide (a3 = 0)) && (decide (a4 < 64) && ((decide (a0 = 1) && pullB l6 a7 l8 a9 a10 l11) || (decide (a0 = 2) && batchB a4 a5 l6 l8 a9 a10 l11))))))
theorem note_is (k : Nat) (a0 a1 a2 a3 a4 a5 : Int) (l6 : List S67) (a7 : Int) (l8 : List S62) (a9 : Int) (a10 : Bool) (l11 : List S67) (h6 : l6.length ≤ 400000) (h8 : l8.length ≤ 400000) (h11 : l11.length ≤ 400000) (ok6 : ∀ z ∈ l6,Ok_Run z) (ok8 : ∀ z ∈ l8,Ok_Entry z) (ok11 : ∀ z ∈ l11,Ok_Run z) (k6 : l6.length + 5 < k) (k8 : l8.length + 5 < k) (k11 : l11.length + 5 < k) :
 note_Right.f k a0 a1 a2 a3 a4 a5 l6 a7 l8 a9 a10 l11 = some (noteB a0 a1 a2 a3 a4 a5 l6 a7 l8 a9 a10 l11):=by
 obtain ⟨k,rfl⟩ : ∃ m,k = m + 1:=⟨k - 1,by omega⟩
 have hj : ∀ b : Bool,note_Right.j0 (k + 1) b a0 a1 a2 a3 a4 a5 l6 a7 l8 a9 a10 l11 = some (!b && ((decide (a0 = 1) && pullB l6 a7 l8 a9 a10 l11) || (decide (a0 = 2) && batchB a4 a5 l6 l8 a9 a10 l11))):=by
  intro b;simp only [note_Right.j0];rw [pull_is k a0 a1 a2 a3 a4 a5 l6 a7 l8 a9 a10 l11 h6 ok6 (by omega),batch_is k a0 a1 a2 a3 a4 a5 l6 a7 l8 a9 a10 l11 h8 h11 ok8 ok11 (by omega) (by omega)];simp only [zW];cases b with
  | true=>rfl
  | false =>
   by_cases h1 : a0 = 1
   ·rw [if_pos h1,zE h1,zF (show ¬ a0 = 2 by omega),if_neg (show ¬ a0 = 2 by omega)];cases pullB l6 a7 l8 a9 a10 l11<;>rfl
   ·rw [if_neg h1,zF h1];by_cases h2 : a0 = 2
    ·rw [if_pos h2,zE h2];simp
    ·rw [if_neg h2,zF h2];rfl
 unfold note_Right.f noteB;simp only [hj];by_cases h1 : a1 < 8
 ·rw [if_neg (show ¬ a1 ≥ 8 by omega),zE h1,Bool.true_and];by_cases h2 : a2 < 8
  ·rw [if_neg (show ¬ a2 ≥ 8 by omega),zE h2,Bool.true_and];by_cases h3 : a1 = a2
   ·rw [if_pos h3,zE h3];rfl
   ·rw [if_neg h3,zF h3];by_cases h4 : a3 = 0
    ·rw [if_pos h4,zE h4];rfl
    ·rw [if_neg h4,zF h4];by_cases h5 : a4 < 64
     ·rw [zF (show ¬ a4 ≥ 64 by omega),zE h5];rfl
     ·rw [zE (show a4 ≥ 64 by omega),zF h5];rfl
  ·rw [if_pos (show a2 ≥ 8 by omega),zF h2];rfl
 ·rw [if_pos (show a1 ≥ 8 by omega),zF h1];rfl
theorem sess5_is (k : Nat) (on : Bool) (num frm cur ep : Int) (off : List S67) (last rep : Int) (hl : off.length ≤ 400000) (ok : ∀ z ∈ off,Ok_Run z) (hk : 2 * off.length < k) (hc : 0 ≤ cur) (hn : 0 ≤ num) : tidingsref05_session.f k on num frm cur ep off last rep = some (sessB on num frm cur ep off last rep):=by
 unfold tidingsref05_session.f sessB;rw [ref01_Right_is off (by omega) ok k hk];simp only [zW];cases on with
 | false =>
  simp only [yC,if_false];by_cases h1 : num = 0
  ·by_cases h2 : frm = 0
   ·by_cases h3 : cur = 0
    ·by_cases h4 : ep = 0
     ·simp [h1,h2,h3,h4,beqd]
     ·simp [h1,h2,h3,h4]
    ·simp [h1,h2,h3]
   ·simp [h1,h2]
  ·simp [h1]
 | true =>
  simp only [if_true];have e1 : decide (1 ≤ num) = decide (num > 0):=by first | (congr 1;done) | (congr 1;apply propext;omega)
  rw [e1];cases rightK off with
  | false =>
   simp only [yC,if_false,Bool.false_and,Bool.and_false];split
   ·rfl
   ·split<;>rfl
  | true =>
   simp only [if_true,Bool.true_and];by_cases hcc : cur > 0
   ·rw [if_pos hcc,if_neg (show ¬ cur = 0 by omega)];simp only [Bool.true_and];by_cases p1 : num > 0
    ·by_cases p2 : num ≤ last
     ·by_cases p3 : frm < 8
      ·by_cases p4 : frm = rep
       ·simp [p1,p2,p3,p4]
        try (intro h;omega)
       ·by_cases p5 : cur < 64<;>simp [p1,p2,p3,p4,p5]
      ·simp [p1,p2,p3]
     ·simp [p1,p2]
    ·simp [p1]
   ·have hc0 : cur = 0:=by omega
    subst hc0;rw [if_neg hcc,if_pos rfl];by_cases p0 : ep = 0
    ·rw [if_pos p0];by_cases p1 : num > 0
     ·by_cases p2 : num ≤ last
      ·by_cases p3 : frm < 8
       ·by_cases p4 : frm = rep
        ·simp [p1,p2,p3,p4]
         try (intro h;omega)
        ·simp [p0,p1,p2,p3,p4,beqd]
       ·simp [p1,p2,p3]
      ·simp [p1,p2]
     ·simp [p1]
    ·rw [if_neg p0];have e2 : decide (ep = 0) = false:=zF p0;rw [e2];simp only [Bool.false_and]
     repeat' split
     all_goals rfl
theorem anyB_is {α : Type} (p : α → Bool) (z : α) (l : List α) : ∀ d i : Nat,i + d ≤ l.length → anyB p z l d i = ((l.drop i).take d).any p
 | 0,i,h=>by simp [anyB]
 | d + 1,i,h=>by
  have hi : i < l.length:=by omega
  have h1 : l.drop i = l.getD i z :: l.drop (i + 1):=by
   rw [List.drop_eq_getElem_cons hi];simp [List.getD,hi]
  rw [anyB,anyB_is p z l d (i + 1) (by omega),h1,List.take_succ_cons,List.any_cons]
theorem bey_is (rep seq x n : Int) : bey5 rep seq x n = beyondB rep seq x n:=by
 unfold bey5 beyondB
 first | rfl | (congr 1) | simp
theorem twin5_is (g0 g1 : Int) (x : S62) : twin5 g0 g1 x = isTwin g0 g1 x:=by
 unfold twin5 isTwin
 first | rfl | (congr 1) | simp
theorem held5_is (k : Nat) (rep fil seq : Int) (kn : List S67) (l : List S62) (hkn : kn.length ≤ 400000) (okk : ∀ z ∈ kn,Ok_Run z) (okl : ∀ z ∈ l,Ok_Entry z) (hr : ∀ z ∈ l,rightE z = true) (hf : In8 fil) (hk : 2 * kn.length < k) (hk2 : 256 ≤ k) :
 ∀ d i,i + d = l.length → tidingsref05_Right.l2 k rep fil seq kn l d i = some (heldB rep seq fil kn l d i)
 | 0,i,h=>rfl
 | d + 1,i,h=>by
  have hi : i < l.length:=by omega
  have hm : l.getD i z62 ∈ l:=getD_mem l i z62 hi;have hx:=okl _ hm;have hrx:=hr _ hm;rw [tidingsref05_Right.l2,heldB,held5_is k rep fil seq kn l hkn okk okl hr hf hk hk2 d (i + 1) (by omega),In_is' _ hx fil hf k hk2,ref01_Has_is kn (by omega) okk _ _ k hk,anyB_is _ _ l i 0 (by omega)];unfold badB;generalize l.getD i z62 = x at hrx ⊢;rw [bey_is,List.drop_zero,show (l.take i).any (twin5 x.f1.f0 x.f1.f1) = (l.take i).any (isTwin x.f1.f0 x.f1.f1) from by first | (congr 1;done) | (congr 1;funext y;exact twin5_is _ _ y)];simp only [zW];cases beyondB rep seq x.f1.f0 x.f1.f1 with
  | true=>rfl
  | false =>
   cases (l.take i).any (isTwin x.f1.f0 x.f1.f1) with
   | true=>rfl
   | false =>
    simp only [yC,if_false,Bool.false_or];have hk3 : x.f2 = 1 ∨ x.f2 = 2 ∨ x.f2 = 3:=by
     unfold rightE at hrx;by_cases h1 : x.f2 = 1
     ·exact .inl h1
     ·by_cases h2 : x.f2 = 2
      ·exact .inr (.inl h2)
      ·rw [if_neg h1,if_neg h2] at hrx;simp only [zZ,yH] at hrx;exact .inr (.inr hrx.2.2.1)
    rcases hk3 with h1 | h1 | h1
    ·rw [h1];cases inE x fil<;>cases hasB kn x.f1.f0 x.f1.f1<;>rfl
    ·rw [h1];cases inE x fil<;>cases hasB kn x.f1.f0 x.f1.f1<;>rfl
    ·have hin : inE x fil = true:=by unfold inE;rw [if_pos h1]
     rw [h1,hin];cases hasB kn x.f1.f0 x.f1.f1<;>rfl
section
variable (k : Nat) (a0 a1 a2 a3 : Int) (l4 : List S67) (l5 : List S62) (a6 : Bool) (a7 a8 a9 a10 : Int) (l11 : List S67) (a12 : Int)
theorem rep5_is (h4 : l4.length ≤ 900) (h5 : l5.length ≤ 900) (h11 : l11.length ≤ 900) (ok4 : ∀ z ∈ l4,Ok_Run z) (ok5 : ∀ z ∈ l5,Ok_Entry z) (ok11 : ∀ z ∈ l11,Ok_Run z) (hf : In8 a1) (h9 : 0 ≤ a9) (h7 : 0 ≤ a7) (hk : 5000 < k) :
 tidingsref05_Right.f k a0 a1 a2 a3 l4 l5 a6 a7 a8 a9 a10 l11 a12 = some (repB a0 a1 a2 a3 l4 l5 a6 a7 a8 a9 a10 l11 a12):=by
 unfold tidingsref05_Right.f repB;rw [ref01_Right_is l4 (by omega) ok4 k (by omega),Right_is' l5 (by omega) ok5 k (by omega),sess5_is k a6 a7 a8 a9 a10 l11 a12 a0 (by omega) ok11 (by omega) h9 h7,anyB_is _ _ l4 _ 0 (by omega),anyB_is _ _ l11 _ 0 (by omega)];simp only [zW,List.drop_zero,List.take_length];rw [List.any_append];have e4 : l4.any (fun x=>bey5 a0 a3 x.f0 x.f2) = l4.any (fun x=>beyondB a0 a3 x.f0 x.f2):=by first | (congr 1;done) | (congr 1;funext y;exact bey_is _ _ _ _)
 have e11 : l11.any (fun x=>bey5 a0 a3 x.f0 x.f2) = l11.any (fun x=>beyondB a0 a3 x.f0 x.f2):=by first | (congr 1;done) | (congr 1;funext y;exact bey_is _ _ _ _)
 rw [e4,e11];by_cases h0 : 7 < a0
 ·rw [if_pos h0,zF (by omega)];rfl
 ·rw [if_neg h0,zE (by omega)];cases rightK l4 with
  | false=>rfl
  | true =>
   cases hR : rightL l5 with
   | false=>rfl
   | true =>
    cases sessB a6 a7 a8 a9 a10 l11 a12 a0 with
    | false=>rfl
    | true =>
     cases l4.any (fun x=>beyondB a0 a3 x.f0 x.f2) with
     | true=>rfl
     | false =>
      cases l11.any (fun x=>beyondB a0 a3 x.f0 x.f2) with
      | true=>rfl
      | false =>
       have hr : ∀ z ∈ l5,rightE z = true:=by
        have:=(rightL_iff l5).1 hR;intro z hz;obtain ⟨j,hj,e⟩:=List.getElem_of_mem hz;have h1:=this j hj;unfold okB at h1;rw [show l5.getD j z62 = z from by simp [List.getD,hj,e]] at h1;simp only [zZ] at h1;exact h1.1
       rw [held5_is k a0 a1 a3 l4 l5 (by omega) ok4 ok5 hr hf (by omega) (by omega) l5.length 0 (by omega)];rfl
end
section
variable (k : Nat) (b0 b1 b2 b3 b4 b5 : Int) (m6 : List S67) (b7 : Int) (m8 : List S62) (b9 : Int) (b10 : Bool) (m11 : List S67)
end
section
variable (k : Nat) (a0 a1 a2 a3 a4 a5 : Int) (l6 : List S67) (a7 : Int) (l8 : List S62) (a9 : Int) (a10 : Bool) (l11 : List S67) (h4 : 0 ≤ a4)
include h4
theorem r4_j2 (b : Bool) (hb : b = false → l8.length ≤ 4) : tidingsref04_Right.j2 (k + 1) (l8.length : Int) b a0 a1 a2 a3 a4 a5 l6 a7 l8 a9 a10 l11 = some (!b && (!(decide (0 < a4) && decide (0 < l11.length)) && (a10 || (decide (l8.length = 4) && decide (a9 < 64))))):=by
 simp only [tidingsref04_Right.j2];cases b with
 | true=>rfl
 | false =>
  have hb:=hb rfl;have e1 : (if a4 = 0 then some true else some ((l11.length : Int) == 0)) = some (!(decide (0 < a4) && decide (0 < l11.length))):=by
   by_cases p1 : a4 = 0
   ·rw [if_pos p1,zF (show ¬ 0 < a4 by omega)];rfl
   ·rw [if_neg p1,zE (show 0 < a4 by omega),Bool.true_and];by_cases p2 : l11.length = 0
    ·rw [p2];rfl
    ·rw [zE (show 0 < l11.length by omega)];have : ((l11.length : Int) == 0) = false:=zR.mpr (by omega);rw [this];rfl
  rw [if_neg (by decide),e1];generalize (!(decide (0 < a4) && decide (0 < l11.length))) = O;cases a10 with
  | true=>simp
  | false =>
   rw [if_neg (by decide)];by_cases p3 : l8.length = 4
   ·rw [if_neg (by omega),zE p3];by_cases p4 : a9 < 64
    ·rw [if_neg (by omega),zE p4];simp
    ·rw [if_pos (by omega),zF p4];simp
   ·rw [if_pos (by omega),zF p3];simp
theorem r4_j1 (h9 : In8 a9) (ok8 : ∀ z ∈ l8,Ok_Entry z) (b : Bool) (hb : b = false → l8.length ≤ 4 ∧ rightL l8 = true) : tidingsref04_Right.j1 (k + 2) (l8.length : Int) b a0 a1 a2 a3 a4 a5 l6 a7 l8 a9 a10 l11 = some (!b && (!(decide (0 < l8.length) && decide ((l8.getD 0 z62).f0 < a4)) && (decide (a9 = nextB a4 l8) && (!(decide (0 < a4) && decide (0 < l11.length)) && (a10 || (decide (l8.length = 4) && decide (a9 < 64))))))):=by
 simp only [tidingsref04_Right.j1];unfold In8 at h9;cases b with
 | true=>rfl
 | false =>
  obtain ⟨hl,hr⟩:=hb rfl;have J:=fun b=>r4_j2 k a0 a1 a2 a3 a4 a5 l6 a7 l8 a9 a10 l11 h4 b (fun _=>hl)
  rw [if_neg (by decide)];simp only [J];generalize (!(decide (0 < a4) && decide (0 < l11.length)) && (a10 || (decide (l8.length = 4) && decide (a9 < 64)))) = O;unfold nextB;by_cases p0 : l8.length = 0
  ·rw [if_pos (show (l8.length : Int) = 0 by omega),if_neg (show ¬ (l8.length : Int) > 0 by omega),if_neg (show ¬ 0 < l8.length by omega),zF (show ¬ 0 < l8.length by omega)];by_cases p1 : a9 = a4
   ·rw [if_pos p1,zE p1];simp
   ·rw [if_neg p1,zF p1];simp
  ·rw [if_neg (show ¬ (l8.length : Int) = 0 by omega),if_pos (show (l8.length : Int) > 0 by omega),if_pos (show (0 : Int) < (l8.length : Int) by omega),if_pos (show 0 < l8.length by omega),zE (show 0 < l8.length by omega),Bool.true_and];have e0 : rd_T62 l8 0 = l8.getD 0 z62:=rfl;rw [e0,w64_id ((l8.length : Int) - 1) (by omega),show ((l8.length : Int) - 1) = ((l8.length - 1 : Nat) : Int) by omega,rd_nat];by_cases p1 : (l8.getD 0 z62).f0 < a4
   ·rw [if_pos p1,zE p1];rfl
   ·rw [if_neg p1,zF p1,if_pos (by omega),if_pos (by omega)];have hm:=getD_mem l8 (l8.length - 1) z62 (by omega);have o:=ok8 _ hm;have r : (l8.getD (l8.length - 1) z62).f0 < 64:=by
     have:=(rightL_iff l8).1 hr (l8.length - 1) (by omega);unfold okB rightE at this;simp only [zZ,yH] at this;exact this.1.2.1
    generalize l8.getD (l8.length - 1) z62 = y at o r;have o0:=o.1;unfold In8 at o0;rw [w64_id a9 (by omega),w64_id y.f0 (by omega),w64_id (y.f0 + 1) (by omega),show (y.f0 + 1) % 256 = y.f0 + 1 by omega];by_cases p2 : a9 = y.f0 + 1
    ·rw [zE p2,p2];simp
    ·rw [zF p2,yF.mpr p2];simp
theorem r4_j0 (h6 : l6.length ≤ 900) (h8 : l8.length ≤ 900) (h11 : l11.length ≤ 900) (ok6 : ∀ z ∈ l6,Ok_Run z) (h9 : In8 a9) (ok8 : ∀ z ∈ l8,Ok_Entry z) (ok11 : ∀ z ∈ l11,Ok_Run z) (hk : 5000 < k) (b : Bool) : tidingsref04_Right.j0 (k + 3) b a0 a1 a2 a3 a4 a5 l6 a7 l8 a9 a10 l11 = some (!b && ((decide (a0 = 1) && pullB l6 a7 l8 a9 a10 l11) || (decide (a0 = 2) && batchB a4 a5 l6 l8 a9 a10 l11))):=by
 simp only [tidingsref04_Right.j0];cases b with
 | true=>rfl
 | false =>
  have J:=r4_j1 k a0 a1 a2 a3 a4 a5 l6 a7 l8 a9 a10 l11 h4 h9 ok8;rw [if_neg (by decide),ref01_Right_is l6 (by omega) ok6 (k + 2) (by omega),Right_is' l8 (by omega) ok8 (k + 2) (by omega),ref01_Right_is l11 (by omega) ok11 (k + 2) (by omega),J true (fun h=>by cases h)];simp only [zW];by_cases p1 : a0 = 1
  ·rw [if_pos p1,zE p1,zF (show ¬ a0 = 2 by omega)];unfold pullB;rw [w64_id ((l8.length : Int) + (l11.length : Int)) (by omega)];cases rightK l6 with
   | false=>rfl
   | true =>
    by_cases p2 : a7 = 0
    ·rw [if_pos p2,zE p2,if_pos rfl];by_cases p3 : l8.length = 0
     ·by_cases p4 : l11.length = 0
      ·rw [if_pos (by omega),zE p3,zE p4];by_cases p5 : a9 = 0
       ·rw [if_pos p5,zE p5];simp
       ·rw [if_neg p5,zF p5];rfl
      ·rw [if_neg (by omega),zF p4];simp
     ·rw [if_neg (by omega),zF p3];rfl
    ·rw [if_neg p2,zF p2];rfl
  ·rw [if_neg p1,zF p1];by_cases q1 : a0 = 2
   ·rw [if_pos q1,zE q1];unfold batchB;by_cases p2 : a5 = 0
    ·rw [if_pos p2,zE p2];by_cases p3 : l6.length = 0
     ·rw [if_neg (by omega),zE p3];by_cases p4 : l8.length ≤ 4
      ·rw [if_neg (by omega),zE p4];cases hr : rightL l8 with
       | false=>rfl
       | true =>
        rw [if_pos rfl];cases rightK l11 with
        | false=>rw [J (!false) (fun h=>by cases h)];rfl
        | true=>rw [J (!true) (fun _=>⟨p4,hr⟩)];rfl
      ·rw [if_pos (by omega),zF p4];simp
     ·rw [if_pos (by omega),zF p3];rfl
    ·rw [if_neg p2,zF p2];rfl
   ·rw [if_neg q1,zF q1];rfl
theorem note4_is (h6 : l6.length ≤ 900) (h8 : l8.length ≤ 900) (h11 : l11.length ≤ 900) (ok6 : ∀ z ∈ l6,Ok_Run z) (h9 : In8 a9) (ok8 : ∀ z ∈ l8,Ok_Entry z) (ok11 : ∀ z ∈ l11,Ok_Run z) (h3 : 0 ≤ a3) (hk : 5003 < k) :
 tidingsref04_Right.f k a0 a1 a2 a3 a4 a5 l6 a7 l8 a9 a10 l11 = some (noteB a0 a1 a2 a3 a4 a5 l6 a7 l8 a9 a10 l11):=by
 obtain ⟨k,rfl⟩ : ∃ m,k = m + 3:=⟨k - 3,by omega⟩
 have J:=r4_j0 k a0 a1 a2 a3 a4 a5 l6 a7 l8 a9 a10 l11 h4 h6 h8 h11 ok6 h9 ok8 ok11 (by omega);unfold tidingsref04_Right.f noteB;simp only [J];by_cases h1 : a1 < 8
 ·rw [if_neg (show ¬ a1 > 7 by omega),zE h1,Bool.true_and];by_cases h2 : a2 < 8
  ·rw [if_neg (show ¬ a2 > 7 by omega),zE h2,Bool.true_and];by_cases e : a1 = a2
   ·rw [if_pos e,zE e];rfl
   ·rw [if_neg e,zF e];by_cases z : a3 = 0
    ·rw [if_pos (by omega),zE z];rfl
    ·rw [if_neg (by omega),zF z];by_cases c : a4 < 64
     ·rw [zF (show ¬ a4 > 63 by omega),zE c];rfl
     ·rw [zE (show a4 > 63 by omega),zF c];rfl
  ·rw [if_pos (show a2 > 7 by omega),zF h2];rfl
 ·rw [if_pos (show a1 > 7 by omega),zF h1];rfl
end
theorem twin5_iff (g0 g1 : Int) (x : S62) : twin5 g0 g1 x = true ↔ x.f1.f0 = g0 ∧ x.f1.f1 = g1:=by rw [twin5_is];unfold isTwin;simp
theorem take_getD (l : List S62) (i j : Nat) (h : i < j) : (l.take j).getD i z62 = l.getD i z62:=by
 simp [yG,List.getElem?_take,h]
def putP (kn : List S67) (hd : List S62) (y : S62) (g : Bool) : Int ⊕ (List S67 × List S62) :=
 if g = true then .inr (kn,insE hd y) else match (addF y.f1.f0 y.f1.f1 kn).2 with
  | none=>.inr ((addF y.f1.f0 y.f1.f1 kn).1,insE hd y)
  | some c=>.inl c
structure Inv (kn : List S67) (hd : List S62) (n : Nat) : Prop where
 kr : rightK kn = true
 ko : ∀ z ∈ kn,Ok_Run z
 hr : rightL hd = true
 ho : ∀ z ∈ hd,Ok_Entry z
 hl : hd.length ≤ n
theorem Inv.kl {kn : List S67} {hd : List S62} {n : Nat} (h : Inv kn hd n) : kn.length ≤ 64:=((rightK_iff kn).1 h.kr).2
theorem unionF_len (x y : List S67) : (unionF x y).1.length ≤ 64:=by
 unfold unionF;split
 ·exact fin_length _
 ·simp
theorem addF_inv (r n : Int) (kn : List S67) (ok : ∀ z ∈ kn,Ok_Run z) (hr : In8 r) (hn : In32 n) (h : (addF r n kn).2 = none) : rightK (addF r n kn).1 = true ∧ ∀ z ∈ (addF r n kn).1,Ok_Run z:=by
 unfold addF at h ⊢;split at h
 ·rename_i hc;rw [if_pos hc];obtain ⟨e,hl⟩:=fin_snd (addR r n kn) (by rw [h];rfl);rw [e];rw [zZ] at hc;have hC:=((rightK_iff kn).1 hc.1).1;obtain ⟨s1,s2⟩:=addR_spec r n kn hC hc.2;refine ⟨(rightK_iff _).2 ⟨s1,hl⟩,canon_ok s1 fun a b hm=>?_⟩;rcases (s2 a b).1 hm with hm | ⟨rfl,rfl⟩
  ·exact mem_ok ok a b hm
  ·exact ⟨hr,hn⟩
 ·cases h
section
variable (k : Nat) (hk : 90000 < k) (kn : List S67) (hd : List S62) (n : Nat) (hn : n ≤ 800) (I : Inv kn hd n) (y : S62) (ry : rightE y = true) (oy : Ok_Entry y)
include hk hn I ry oy
theorem tput_is (g : Bool) : tput k kn hd y g = some (putP kn hd y g):=by
 have h1:=I.kl;have h2:=I.hl;unfold tput putP;rw [Take_is hd y (by omega) I.ho oy k (by omega),I.hr,ry];cases g with
 | true=>rfl
 | false =>
  simp only [Bool.and_self,if_true,zW,yC,if_false];rw [AddK_is kn (by omega) I.ko y.f1.f0 y.f1.f1 oy.2.1.1 oy.2.1.2.1 k (by omega)];show (some (addF y.f1.f0 y.f1.f1 kn)).bind _ = _;generalize addF y.f1.f0 y.f1.f1 kn = p;obtain ⟨p1,p2⟩:=p;cases p2<;>rfl
theorem putP_inv (g : Bool) (kn1 : List S67) (hd1 : List S62) (h : putP kn hd y g = .inr (kn1,hd1)) : Inv kn1 hd1 (n + 1):=by
 have _:=hk;have _:=hn;have hl:=insE_length hd y;have h2:=I.hl;unfold putP at h;split at h
 ·cases h;exact ⟨I.kr,I.ko,insE_right hd y I.hr ry,insE_ok hd y I.ho oy,by omega⟩
 ·split at h
  ·rename_i e;cases h;obtain ⟨q1,q2⟩:=addF_inv y.f1.f0 y.f1.f1 kn I.ko oy.2.1.1 oy.2.1.2.1 e;exact ⟨q1,q2,insE_right hd y I.hr ry,insE_ok hd y I.ho oy,by omega⟩
  ·cases h
end
theorem fadeE_right (x : S62) (h : rightE x = true) : rightE (fadeE x) = true:=by
 unfold fadeE;by_cases h1 : x.f2 = 1
 ·rw [if_pos h1];unfold rightE at h ⊢;rw [if_pos h1] at h;simp only [zZ,yH] at h;simp only [zZ,yH];refine ⟨h.1,h.2.1,?_⟩;rw [if_neg (by decide),if_pos (by trivial)];simp only [zZ,yH];exact ⟨by have:=h.2.2;omega,trivial⟩
 ·rw [if_neg h1];exact h
theorem fadeE_ok (x : S62) (h : Ok_Entry x) : Ok_Entry (fadeE x):=by
 unfold fadeE;split
 ·obtain ⟨h0,h1,h2,h3,h4⟩:=h;exact ⟨h0,h1,(by show In64 2;unfold In64;omega),h3,(by show In32 0;unfold In32;omega)⟩
 ·exact h
def stepP (a1 : Int) (kn : List S67) (hd : List S62) (x : S62) : Int ⊕ (List S67 × List S62) :=
 if inE x a1 = true then putP kn hd x (decide (x.f2 = 2)) else putP kn hd (fadeE x) false
section
variable (k : Nat) (hk : 90000 < k) (a1 : Int) (hf : In8 a1) (kn : List S67) (hd : List S62) (n : Nat) (hn : n ≤ 800) (I : Inv kn hd n) (x : S62) (rx : rightE x = true) (ox : Ok_Entry x)
include hk hf hn I rx ox
theorem tstep_is : tstep k a1 kn hd x = some (stepP a1 kn hd x):=by
 unfold tstep stepP;rw [In_is x ox a1 hf];simp only [zW];cases inE x a1 with
 | true=>exact tput_is k hk kn hd n hn I x rx ox _
 | false =>
  simp only [yC,if_false];rw [Fade_is x];exact tput_is k hk kn hd n hn I (fadeE x) (fadeE_right x rx) (fadeE_ok x ox) _
theorem stepP_inv (kn1 : List S67) (hd1 : List S62) (h : stepP a1 kn hd x = .inr (kn1,hd1)) : Inv kn1 hd1 (n + 1):=by
 have _:=hf;unfold stepP at h;split at h
 ·exact putP_inv k hk kn hd n hn I x rx ox _ kn1 hd1 h
 ·exact putP_inv k hk kn hd n hn I (fadeE x) (fadeE_right x rx) (fadeE_ok x ox) _ kn1 hd1 h
end
section
variable (k : Nat) (a0 a1 a2 a3 : Int) (l4 : List S67) (l5 : List S62) (a6 : Bool) (a7 a8 a9 a10 : Int) (l11 : List S67) (a12 : Int) (b0 b1 b2 b3 b4 b5 : Int) (m6 : List S67) (b7 : Int) (m8 : List S62) (b9 : Int) (b10 : Bool) (m11 : List S67)
theorem waited_is : target_waited.f a0 a1 a2 a3 l4 l5 a6 a7 a8 a9 a10 l11 a12 b0 b1 b2 b3 b4 b5 m6 b7 m8 b9 b10 m11 = some (!notWaited a0 a6 a7 a8 a9 b0 b1 b2 b3 b4):=by
 unfold target_waited.f notWaited;by_cases e0 : b0 = 2
 ·by_cases e1 : b2 = a0
  ·cases a6 with
   | false=>simp [e0,e1]
   | true =>
    by_cases e2 : b1 = a8
    ·by_cases e3 : b3 = a7
     ·by_cases e4 : b4 = a9
      ·simp [e0,e1,e2,e3,e4]
      ·have q1 : (b4 == a9) = false:=zR.mpr e4;have q2 : (b4 != a9) = true:=yF.mpr e4;rw [q1,q2];simp [e0,e1,e2,e3]
     ·simp [e0,e1,e2,e3]
    ·simp [e0,e1,e2]
  ·simp [e0,e1]
 ·simp [e0]
end
end Go.Proofs.YtiminjibcafkaaaGreatDoor.X
end
