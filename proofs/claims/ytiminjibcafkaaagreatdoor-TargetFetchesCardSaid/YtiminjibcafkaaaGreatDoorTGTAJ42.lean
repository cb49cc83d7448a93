/- Texts that this claim's law comes to, joined by wip/slim.py: Xpuretake, Xpuretake2. -/
import Derived.Test.YtiminjibcafkaaaGreatDoorTGTAX18
import Derived.Test.YtiminjibcafkaaaGreatDoorTGTAJ40
import Derived.Test.YtiminjibcafkaaaGreatDoorTGJ26
import Derived.Test.YtiminjibcafkaaaGreatDoorTGJ11
set_option linter.unusedSimpArgs false
set_option linter.unusedVariables false
section
namespace Go.Proofs.YtiminjibcafkaaaGreatDoor.X
open RowKit YtiminjibcafkaaaGreatDoorW.PrintWords YtiminjibcafkaaaGreatDoorW.PrintLast YtiminjibcafkaaaGreatDoorW.PrintMore
def updE (x e : S62) : S62:=if cmpV x.f1 e.f1 < 0 then e else if cmpV x.f1 e.f1 = 0 then (if x.f2 = 2 then (if e.f2 = 2 then x else e) else x) else x
def insE : List S62 → S62 → List S62
 | [],e=>[e]
 | x :: l,e=>if x.f0 < e.f0 then x :: insE l e else if x.f0 = e.f0 then updE x e :: l else e :: x :: l
theorem okB_tail (x : S62) (l : List S62) (j : Nat) (h : okB (x :: l) (j + 1) = true) : okB l j = true:=by
 unfold okB at h ⊢;simp only [Nat.add_sub_cancel,List.getD_cons_succ,zZ] at h ⊢;refine ⟨h.1,?_⟩;cases j with
 | zero=>rfl
 | succ j=>simpa using h.2
theorem rightL_cons (x : S62) (l : List S62) (h : rightL (x :: l) = true) : rightE x = true ∧ rightL l = true ∧ (∀ y ∈ l,x.f0 < y.f0):=by
 rw [rightL_iff] at h;have h0:=h 0 (by simp);have hx : rightE x = true:=by unfold okB at h0;simpa using h0
 have hl : ∀ j,j < l.length → okB l j = true:=fun j hj=>okB_tail x l j (h (j + 1) (by simpa using hj))
 refine ⟨hx,(rightL_iff l).2 hl,?_⟩;have key : ∀ j,j < l.length → x.f0 < (l.getD j z62).f0:=by
  intro j
  induction j with
  | zero =>
   intro hj;have h1:=h 1 (by simpa using hj);unfold okB at h1;simp only [zZ,yM,yH] at h1;rcases h1.2 with h3 | h3
   ·omega
   ·exact h3
  | succ j ih =>
   intro hj;have h1:=ih (by omega);have h2:=hl (j + 1) hj;unfold okB at h2;simp only [Nat.add_sub_cancel,zZ,yM,yH] at h2;omega
 intro y hy;obtain ⟨j,hj,rfl⟩:=List.mem_iff_getElem.1 hy;have:=key j hj;rwa [yG,zO hj] at this
theorem rightL_of (x : S62) (l : List S62) (hx : rightE x = true) (hl : rightL l = true) (hlt : ∀ y ∈ l,x.f0 < y.f0) : rightL (x :: l) = true:=by
 rw [rightL_iff] at hl ⊢;intro j hj;cases j with
 | zero=>unfold okB;simpa using hx
 | succ j =>
  have h1:=hl j (by simpa using hj);unfold okB at h1 ⊢;simp only [Nat.add_sub_cancel,List.getD_cons_succ,zZ] at h1 ⊢;refine ⟨h1.1,?_⟩;cases j with
  | zero =>
   have hm:=hlt (l.getD 0 z62) (getD_mem l 0 _ (by simpa using hj));simp only [yM,yH];exact .inr hm
  | succ j=>simpa using h1.2
theorem rightL_nil : rightL [] = true:=rfl
theorem incB_right : ∀ l : List S62,rightL l = true → incB l = true
 | [],_=>rfl
 | x :: l,h=>by
  obtain ⟨_,h1,h2⟩:=rightL_cons x l h;simp only [incB,zZ,List.all_eq_true,yH];exact ⟨h2,incB_right l h1⟩
theorem low_zero (t : Int) : ∀ l : List S62,(∀ y ∈ l,¬ y.f0 < t) → lowB t l = 0:=by
 intro l h;unfold lowB;rw [List.countP_eq_zero];intro y hy;simpa using h y hy
theorem low_ins (e : S62) : ∀ l : List S62,incB l = true →
 ((lowB e.f0 l < l.length ∧ (l.getD (lowB e.f0 l) z62).f0 = e.f0) → insE l e = l.set (lowB e.f0 l) (updE (l.getD (lowB e.f0 l) z62) e)) ∧
 (¬ (lowB e.f0 l < l.length ∧ (l.getD (lowB e.f0 l) z62).f0 = e.f0) → insE l e = l.take (lowB e.f0 l) ++ e :: l.drop (lowB e.f0 l)) ∧ lowB e.f0 l ≤ l.length
 | [],_=>⟨fun h=>by simp at h,fun _=>rfl,zM _⟩
 | x :: l,h=>by
  simp only [incB,zZ,List.all_eq_true,yH] at h;obtain ⟨h1,h2⟩:=h;obtain ⟨i1,i2,i3⟩:=low_ins e l h2;by_cases hlt : x.f0 < e.f0
  ·have hlow : lowB e.f0 (x :: l) = lowB e.f0 l + 1:=by unfold lowB;rw [List.countP_cons_of_pos (by simpa using hlt)]
   rw [hlow];simp only [insE,if_pos hlt,List.length_cons,List.getD_cons_succ,zQ,List.take_succ_cons,List.drop_succ_cons,List.cons_append];refine ⟨fun hh=>?_,fun hh=>?_,by omega⟩
   ·rw [i1 ⟨by omega,hh.2⟩]
   ·rw [i2 (fun hq=>hh ⟨by omega,hq.2⟩)]
  ·have hlow : lowB e.f0 (x :: l) = 0:=low_zero _ _ (by
    intro y hy;rcases List.mem_cons.1 hy with rfl | hy
    ·exact hlt
    ·have:=h1 y hy;omega)
   rw [hlow];simp only [insE,if_neg hlt,List.length_cons,List.getD_cons_zero,zP,List.take_zero,List.drop_zero,List.nil_append];refine ⟨fun hh=>?_,fun hh=>?_,by omega⟩
   ·rw [if_pos hh.2]
   ·rw [if_neg (fun hq=>hh ⟨by omega,hq⟩)]
theorem set_same (l : List S62) (i : Nat) (h : i < l.length) : l.set i (l.getD i z62) = l:=by
 rw [yG,zO h];exact List.set_getElem_self h
theorem Take_is (l : List S62) (e : S62) (hl : l.length ≤ 1000000) (ok : ∀ z ∈ l,Ok_Entry z) (oe : Ok_Entry e) (k : Nat) (hk : l.length + 5 < k) :
 item_Take.f k l e.f0 e.f1.f0 e.f1.f1 e.f1.f2 e.f2 e.f3 e.f4 = some (if (rightL l && rightE e) = true then (insE l e,none) else ([],some 9)):=by
 obtain ⟨k,rfl⟩ : ∃ m,k = m + 1:=⟨k - 1,by omega⟩
 unfold item_Take.f;rw [Right_is l (by omega) ok (k + 1) (by omega),entry_is e oe];simp only [zW];cases hr : rightL l with
 | false=>simp [item_Take.j0]
 | true =>
  cases he : rightE e with
  | false=>simp [item_Take.j0]
  | true =>
   simp only [Bool.and_self,if_true,Bool.not_true,item_Take.j0,yC,if_false];have hinc:=incB_right l hr;obtain ⟨i1,i2,i3⟩:=low_ins e l hinc;have hB : slices_BinarySearchFunc_Entry_uint8.f l e.f0 = some ((lowB e.f0 l : Int),decide (lowB e.f0 l < l.length) && decide ((l.getD (lowB e.f0 l) z62).f0 = e.f0)):=by
    unfold slices_BinarySearchFunc_Entry_uint8.f;rw [if_pos hinc,if_pos (by omega)]
   have hC : slices_Clone_Entry.f l = some l:=by unfold slices_Clone_Entry.f;rw [if_pos (by omega)]
   rw [hB,hC];simp only [zW];by_cases hf : lowB e.f0 l < l.length ∧ (l.getD (lowB e.f0 l) z62).f0 = e.f0
   ·have hd : (decide (lowB e.f0 l < l.length) && decide ((l.getD (lowB e.f0 l) z62).f0 = e.f0)) = true:=by simpa using hf
    rw [hd];simp only [if_true];rw [if_pos (by omega),if_pos (by omega),rd_nat,Cmp_any k (by omega) (l.getD (lowB e.f0 l) z62).f1 e.f1,i1 hf];have hs:=set_same l (lowB e.f0 l) hf.1;generalize l.getD (lowB e.f0 l) z62 = x at hs ⊢;simp only [zW,Int.toNat_natCast,updE]
    repeat' split
    all_goals first | rfl | (rw [hs])
   ·have hd : (decide (lowB e.f0 l < l.length) && decide ((l.getD (lowB e.f0 l) z62).f0 = e.f0)) = false:=by
     rw [Bool.eq_false_iff];intro hh;exact hf (by simpa using hh)
    rw [hd,i2 hf];simp only [yC,if_false,slices_Insert_Entry.f];rw [if_pos (by omega),if_pos (by omega),if_pos (by omega)];simp only [zW,Int.toNat_natCast]
theorem insE_mem (l : List S62) (e : S62) : ∀ y ∈ insE l e,y = e ∨ y ∈ l:=by
 induction l with
 | nil=>intro y hy;simp only [insE,List.mem_singleton] at hy;exact .inl hy
 | cons x l ih =>
  intro y hy;simp only [insE] at hy;split at hy
  ·rcases List.mem_cons.1 hy with rfl | hy
   ·exact .inr (by simp)
   ·rcases ih y hy with h | h
    ·exact .inl h
    ·exact .inr (by simp [h])
  ·split at hy
   ·rcases List.mem_cons.1 hy with rfl | hy
    ·unfold updE
     repeat' split
     all_goals simp
    ·exact .inr (by simp [hy])
   ·rcases List.mem_cons.1 hy with rfl | hy
    ·exact .inl rfl
    ·exact .inr hy
theorem updE_id (x e : S62) (h : x.f0 = e.f0) : (updE x e).f0 = e.f0:=by
 unfold updE
 repeat' split
 all_goals first | rfl | exact h
theorem updE_right (x e : S62) (hx : rightE x = true) (he : rightE e = true) : rightE (updE x e) = true:=by
 unfold updE
 repeat' split
 all_goals assumption
theorem insE_right : ∀ (l : List S62) (e : S62),rightL l = true → rightE e = true → rightL (insE l e) = true
 | [],e,_,he=>rightL_of e [] he rightL_nil (fun y hy=>by cases hy)
 | x :: l,e,h,he=>by
  obtain ⟨hx,hl,hlt⟩:=rightL_cons x l h;simp only [insE];split
  ·rename_i h1;refine rightL_of x _ hx (insE_right l e hl he) (fun y hy=>?_);rcases insE_mem l e y hy with rfl | hy
   ·exact h1
   ·exact hlt y hy
  ·split
   ·rename_i h1 h2;refine rightL_of _ l (updE_right x e hx he) hl (fun y hy=>?_);rw [updE_id x e h2,← h2];exact hlt y hy
   ·rename_i h1 h2;refine rightL_of e (x :: l) he h (fun y hy=>?_);rcases List.mem_cons.1 hy with rfl | hy
    ·omega
    ·have:=hlt y hy;omega
theorem insE_length (l : List S62) (e : S62) : (insE l e).length ≤ l.length + 1:=by
 induction l with
 | nil=>simp [insE]
 | cons x l ih =>
  simp only [insE];split
  ·simpa using ih
  ·split<;>simp
theorem insE_ok (l : List S62) (e : S62) (ok : ∀ z ∈ l,Ok_Entry z) (oe : Ok_Entry e) : ∀ z ∈ insE l e,Ok_Entry z:=by
 intro z hz;rcases insE_mem l e z hz with rfl | h
 ·exact oe
 ·exact ok z h
end Go.Proofs.YtiminjibcafkaaaGreatDoor.X
end
