/- Texts that this claim's law comes to, joined by wip/slim.py: Xpuretake, Xpuretake2. -/
import Derived.Test.YtiminjibcafkaaaGreatDoorTBX18
import Derived.Test.YtiminjibcafkaaaGreatDoorTBXpureitem2
import Derived.Test.YtiminjibcafkaaaGreatDoorTBJ20
import Derived.Test.YtiminjibcafkaaaGreatDoorTBJ4
section
/- What item.Take computes, in plain Lean. -/
namespace Go.Proofs.YtiminjibcafkaaaGreatDoor.X
open Go.RowKit Go.Proofs.YtiminjibcafkaaaGreatDoorW.PrintWords Go.Proofs.YtiminjibcafkaaaGreatDoorW.PrintLast Go.Proofs.YtiminjibcafkaaaGreatDoorW.PrintMore
set_option linter.unusedVariables false
set_option linter.unusedSimpArgs false
/-- What is held of an item behind an entry of it. -/
def updE (x e : S62) : S62:=if cmpV x.f1 e.f1 < 0 then e else if cmpV x.f1 e.f1 = 0 then (if x.f2 = 2 then (if e.f2 = 2 then x else e) else x) else x
/-- An entry is taken into entries. -/
def insE : List S62 → S62 → List S62
 | [],e=>[e]
 | x :: l,e=>if x.f0 < e.f0 then x :: insE l e else if x.f0 = e.f0 then updE x e :: l else e :: x :: l
theorem okB_tail (x : S62) (l : List S62) (j : Nat) (h : okB (x :: l) (j + 1) = true) : okB l j = true:=by
 unfold okB at h ⊢
 simp only [Nat.add_sub_cancel,List.getD_cons_succ,Bool.and_eq_true] at h ⊢
 refine ⟨h.1,?_⟩
 cases j with
 | zero=>rfl
 | succ j=>simpa using h.2
theorem rightL_cons (x : S62) (l : List S62) (h : rightL (x :: l) = true) : rightE x = true ∧ rightL l = true ∧ (∀ y ∈ l,x.f0 < y.f0):=by
 rw [rightL_iff] at h
 have h0:=h 0 (by simp)
 have hx : rightE x = true:=by unfold okB at h0;simpa using h0
 have hl : ∀ j,j < l.length → okB l j = true:=fun j hj=>okB_tail x l j (h (j + 1) (by simpa using hj))
 refine ⟨hx,(rightL_iff l).2 hl,?_⟩
 have key : ∀ j,j < l.length → x.f0 < (l.getD j z62).f0:=by
  intro j
  induction j with
  | zero =>
   intro hj
   have h1:=h 1 (by simpa using hj)
   unfold okB at h1
   simp only [Bool.and_eq_true,Bool.or_eq_true,decide_eq_true_eq] at h1
   rcases h1.2 with h3 | h3
   ·omega
   ·exact h3
  | succ j ih =>
   intro hj
   have h1:=ih (by omega)
   have h2:=hl (j + 1) hj
   unfold okB at h2
   simp only [Nat.add_sub_cancel,Bool.and_eq_true,Bool.or_eq_true,decide_eq_true_eq] at h2
   omega
 intro y hy
 obtain ⟨j,hj,rfl⟩:=List.mem_iff_getElem.1 hy
 have:=key j hj
 rwa [List.getD_eq_getElem?_getD,List.getElem?_eq_getElem hj] at this
theorem incB_right : ∀ l : List S62,rightL l = true → incB l = true
 | [],_=>rfl
 | x :: l,h=>by
  obtain ⟨_,h1,h2⟩:=rightL_cons x l h
  simp only [incB,Bool.and_eq_true,List.all_eq_true,decide_eq_true_eq]
  exact ⟨h2,incB_right l h1⟩
end Go.Proofs.YtiminjibcafkaaaGreatDoor.X
end
section
/- What the reference's Take and Same compute, in plain Lean. -/
namespace Go.Proofs.YtiminjibcafkaaaGreatDoor.X
open Go.RowKit Go.Proofs.YtiminjibcafkaaaGreatDoorW.PrintWords Go.Proofs.YtiminjibcafkaaaGreatDoorW.PrintLast Go.Proofs.YtiminjibcafkaaaGreatDoorW.PrintMore
set_option linter.unusedVariables false
set_option linter.unusedSimpArgs false
theorem drop_cons (l : List S62) (i : Nat) (h : i < l.length) : l.drop i = l.getD i z62 :: l.drop (i + 1):=by
 rw [List.getD_eq_getElem?_getD,List.getElem?_eq_getElem h]
 exact (List.drop_eq_getElem_cons h)
theorem refTake_j2 (k : Nat) (l out : List S62) (put : Bool) (i : Nat) (hi : i ≤ 1000000) (e x : S62) (ho : out.length < 4398046511104) :
 tidingsref02_Take.j2 (k + 1) l out put (i : Int) e.f0 e.f1.f0 e.f1.f1 e.f1.f2 e.f2 e.f3 e.f4 x.f0 x.f1.f0 x.f1.f1 x.f1.f2 x.f2 x.f3 x.f4 =
  if x.f0 = e.f0 then tidingsref02_Take.l0 k l (out ++ [updE x e]) true ((i + 1 : Nat) : Int) e.f0 e.f1.f0 e.f1.f1 e.f1.f2 e.f2 e.f3 e.f4
  else tidingsref02_Take.l0 k l (out ++ [x]) put ((i + 1 : Nat) : Int) e.f0 e.f1.f0 e.f1.f1 e.f1.f2 e.f2 e.f3 e.f4:=by
 simp only [tidingsref02_Take.j2]
 rw [wrap64_nat i (by omega),Less_is]
 simp only [if_pos ho,Option.bind_some,lessV]
 by_cases hx : x.f0 = e.f0
 ·rw [if_pos hx,if_pos hx]
  unfold updE
  by_cases h1 : cmpV x.f1 e.f1 < 0
  ·rw [decide_eq_true h1,if_pos rfl,if_pos h1]
  ·rw [decide_eq_false h1,if_neg (by decide),if_neg h1]
   have hz:=cmpV_zero x.f1 e.f1
   by_cases h2 : cmpV x.f1 e.f1 = 0
   ·obtain ⟨q1,q2,q3⟩:=hz.1 h2
    rw [if_pos h2,if_pos (by simp [q1,q2,q3])]
    by_cases h3 : x.f2 = 2
    ·rw [if_pos h3,if_pos h3]
     by_cases h4 : e.f2 = 2
     ·rw [if_pos h4,if_pos h4]
     ·rw [if_neg h4,if_neg h4]
    ·rw [if_neg h3,if_neg h3]
   ·rw [if_neg h2,if_neg (by
     intro hh
     simp only [Bool.and_eq_true,beq_iff_eq] at hh
     exact h2 (hz.2 ⟨hh.2.2,hh.1,hh.2.1⟩))]
 ·rw [if_neg hx,if_neg hx]
theorem refTake_put (l : List S62) (hl : l.length ≤ 1000000) (e : S62) : ∀ d k i : Nat,∀ out : List S62,i + d = l.length → 3 * d < k → out.length ≤ 2 * i + 2 → (∀ y ∈ l.drop i,y.f0 ≠ e.f0) →
 tidingsref02_Take.l0 k l out true (i : Int) e.f0 e.f1.f0 e.f1.f1 e.f1.f2 e.f2 e.f3 e.f4 = some (out ++ l.drop i):=by
 intro d
 induction d with
 | zero =>
  intro k i out hi hk ho hne
  obtain ⟨k,rfl⟩ : ∃ m,k = m + 1:=⟨k - 1,by omega⟩
  simp only [tidingsref02_Take.l0]
  rw [if_neg (by omega),if_pos (by trivial),List.drop_of_length_le (by omega),List.append_nil]
 | succ d ih =>
  intro k i out hi hk ho hne
  obtain ⟨k,rfl⟩ : ∃ m,k = m + 1 + 1 + 1:=⟨k - 3,by omega⟩
  have hd:=drop_cons l i (by omega)
  have hx:=hne (l.getD i z62) (by rw [hd];simp)
  have hrec:=ih k (i + 1) (out ++ [l.getD i z62]) (by omega) (by omega) (by simp;omega) (fun y hy=>hne y (by rw [hd];simp [hy]))
  simp only [tidingsref02_Take.l0]
  rw [if_pos (by omega),if_pos (by omega),rd_nat]
  simp only [tidingsref02_Take.j1,Bool.not_true,Bool.false_eq_true,if_false]
  rw [refTake_j2 k l out true i (by omega) e (l.getD i z62) (by omega),if_neg hx,hrec,hd]
  simp
theorem refTake_from (l : List S62) (hl : l.length ≤ 1000000) (e : S62) : ∀ d k i : Nat,∀ out : List S62,i + d = l.length → 3 * d < k → out.length ≤ 2 * i → incB (l.drop i) = true →
 tidingsref02_Take.l0 k l out false (i : Int) e.f0 e.f1.f0 e.f1.f1 e.f1.f2 e.f2 e.f3 e.f4 = some (out ++ insE (l.drop i) e):=by
 intro d
 induction d with
 | zero =>
  intro k i out hi hk ho hne
  obtain ⟨k,rfl⟩ : ∃ m,k = m + 1:=⟨k - 1,by omega⟩
  simp only [tidingsref02_Take.l0]
  rw [if_neg (by omega),if_neg (by decide),if_pos (by omega),List.drop_of_length_le (by omega)]
  rfl
 | succ d ih =>
  intro k i out hi hk ho hinc
  obtain ⟨k,rfl⟩ : ∃ m,k = m + 1 + 1 + 1:=⟨k - 3,by omega⟩
  have hd:=drop_cons l i (by omega)
  rw [hd] at hinc ⊢
  generalize hx : l.getD i z62 = x at *
  simp only [incB,Bool.and_eq_true,List.all_eq_true,decide_eq_true_eq] at hinc
  simp only [tidingsref02_Take.l0]
  rw [if_pos (by omega),if_pos (by omega),rd_nat,hx]
  simp only [tidingsref02_Take.j1,insE,Bool.not_false]
  by_cases h1 : x.f0 > e.f0
  ·rw [if_pos h1,if_pos (by trivial),if_pos (by omega),if_neg (by omega),if_neg (by omega)]
   have hj:=refTake_j2 k l (out ++ [e]) true i (by omega) e x (by simp;omega)
   rw [if_neg (by omega)] at hj
   have hrec:=refTake_put l hl e d k (i + 1) (out ++ [e] ++ [x]) (by omega) (by omega) (by simp;omega) (fun y hy=>by have:=hinc.1 y hy;omega)
   rw [hrec] at hj
   refine hj.trans ?_
   simp
  ·rw [if_neg h1]
   simp only [Bool.false_eq_true,if_false]
   rw [refTake_j2 k l out false i (by omega) e x (by omega)]
   by_cases h2 : x.f0 = e.f0
   ·rw [if_pos h2,if_neg (by omega),if_pos h2,refTake_put l hl e d k (i + 1) (out ++ [updE x e]) (by omega) (by omega) (by simp;omega) (fun y hy=>by have:=hinc.1 y hy;omega)]
    simp
   ·rw [if_neg h2,if_pos (by omega),ih k (i + 1) (out ++ [x]) (by omega) (by omega) (by simp;omega) hinc.2]
    simp
theorem refTake_is (l : List S62) (e : S62) (hl : l.length ≤ 1000000) (hr : rightL l = true) (k : Nat) (hk : 3 * l.length < k) :
 tidingsref02_Take.f k l e.f0 e.f1.f0 e.f1.f1 e.f1.f2 e.f2 e.f3 e.f4 = some (insE l e):=by
 unfold tidingsref02_Take.f
 have:=refTake_from l hl e l.length k 0 [] (by omega) hk (by simp) (by simpa using incB_right l hr)
 simpa using this
theorem Same02_from (a : List S62) (hl : a.length ≤ 1000000) : ∀ d k i : Nat,i + d = a.length → d < k → tidingsref02_Same.l0 k a a (i : Int) = some true:=by
 intro d
 induction d with
 | zero =>
  intro k i hi hk
  obtain ⟨k,rfl⟩ : ∃ m,k = m + 1:=⟨k - 1,by omega⟩
  simp only [tidingsref02_Same.l0]
  rw [if_neg (by omega)]
 | succ d ih =>
  intro k i hi hk
  obtain ⟨k,rfl⟩ : ∃ m,k = m + 1:=⟨k - 1,by omega⟩
  simp only [tidingsref02_Same.l0]
  rw [if_pos (by omega),if_pos (by omega),if_pos (by omega),rd_nat,wrap64_nat i (by omega),ih k (i + 1) (by omega) (by omega)]
  generalize a.getD i z62 = x
  simp
theorem Same02_is (a : List S62) (hl : a.length ≤ 1000000) (k : Nat) (hk : a.length < k) : tidingsref02_Same.f k a a = some true:=by
 unfold tidingsref02_Same.f
 rw [if_pos rfl]
 exact Same02_from a hl a.length k 0 (by omega) hk
end Go.Proofs.YtiminjibcafkaaaGreatDoor.X
end
