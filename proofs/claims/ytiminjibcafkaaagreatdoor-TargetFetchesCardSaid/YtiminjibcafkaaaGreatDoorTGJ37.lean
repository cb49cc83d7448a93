/- Texts that this claim's law comes to, joined by wip/slim.py: TFpdrop, TFoffer. -/
import Derived.Test.YtiminjibcafkaaaGreatDoorTGTAJ40
import Derived.Test.YtiminjibcafkaaaGreatDoorTGTFdrop
import Derived.Test.YtiminjibcafkaaaGreatDoorTGTAJ11
import Derived.Test.YtiminjibcafkaaaGreatDoorTGTAJ4
import Derived.Test.YtiminjibcafkaaaGreatDoorTGTAJ5
set_option linter.unusedSimpArgs false
set_option linter.unusedVariables false
section
namespace Go.Proofs.YtiminjibcafkaaaGreatDoor.X
open Go.RowKit Go.Shelf Go.Proofs.YtiminjibcafkaaaGreatDoorW.PrintWords Go.Proofs.YtiminjibcafkaaaGreatDoorW.PrintLast Go.Proofs.YtiminjibcafkaaaGreatDoorW.PrintMore
def dropOne (rep n : Int) (r : S67) : List S67 :=
 if r.f0 = rep ∧ r.f1 ≤ n ∧ n ≤ r.f2 then (if r.f1 < n then [⟨rep,r.f1,n - 1⟩] else []) ++ (if n < r.f2 then [⟨rep,n + 1,r.f2⟩] else []) else [r]
def dropR (rep n : Int) (l : List S67) : List S67:=l.flatMap (dropOne rep n)
theorem dropOne_in (rep n : Int) (r x : S67) (h : x ∈ dropOne rep n r) : x.f0 = r.f0 ∧ r.f1 ≤ x.f1 ∧ x.f2 ≤ r.f2:=by
 unfold dropOne at h;split at h
 ·rename_i hc;rcases List.mem_append.1 h with h | h
  ·split at h
   ·obtain rfl:=List.mem_singleton.1 h;exact ⟨hc.1.symm,by show r.f1 ≤ r.f1;omega,by show n - 1 ≤ r.f2;omega⟩
   ·cases h
  ·split at h
   ·obtain rfl:=List.mem_singleton.1 h;exact ⟨hc.1.symm,by show r.f1 ≤ n + 1;omega,by show r.f2 ≤ r.f2;omega⟩
   ·cases h
 ·obtain rfl:=List.mem_singleton.1 h;exact ⟨rfl,Int.le_refl _,Int.le_refl _⟩
theorem dropOne_canon (rep n : Int) (r : S67) (hr : runB r = true) (hn : 1 ≤ n) : Canon (dropOne rep n r):=by
 have br:=(runB_iff r).1 hr;unfold dropOne;split
 ·rename_i hc;have k1 : r.f1 < n → runB ⟨rep,r.f1,n - 1⟩ = true:=fun h=>(runB_iff _).2 ⟨by show rep < 8;omega,br.2.1,by show r.f1 ≤ n - 1;omega⟩
  have k2 : n < r.f2 → runB ⟨rep,n + 1,r.f2⟩ = true:=fun h=>(runB_iff _).2 ⟨by show rep < 8;omega,by show 1 ≤ n + 1;omega,by show n + 1 ≤ r.f2;omega⟩
  have k3 : apartB ⟨rep,r.f1,n - 1⟩ ⟨rep,n + 1,r.f2⟩ = true:=(apartB_iff _ _).2 (.inr ⟨rfl,by show n - 1 + 1 < n + 1;omega⟩);by_cases h1 : r.f1 < n<;>by_cases h2 : n < r.f2<;>simp only [h1,h2,if_true,if_false,List.nil_append,List.append_nil,List.cons_append]
  ·exact Canon_cons.2 ⟨k1 h1,fun y hy=>by obtain rfl:=List.mem_singleton.1 hy;exact k3,Canon_cons.2 ⟨k2 h2,fun y hy=>(by cases hy),Canon_nil⟩⟩
  ·exact Canon_cons.2 ⟨k1 h1,fun y hy=>(by cases hy),Canon_nil⟩
  ·exact Canon_cons.2 ⟨k2 h2,fun y hy=>(by cases hy),Canon_nil⟩
  ·exact Canon_nil
 ·exact Canon_cons.2 ⟨hr,fun y hy=>(by cases hy),Canon_nil⟩
theorem dropOne_mem (rep n : Int) (r : S67) (a b : Int) : Mem (dropOne rep n r) a b ↔ (r.f0 = a ∧ r.f1 ≤ b ∧ b ≤ r.f2) ∧ ¬ (a = rep ∧ b = n):=by
 unfold dropOne;split
 ·rename_i hc;rw [Mem_append];have m1 : Mem (if r.f1 < n then [⟨rep,r.f1,n - 1⟩] else []) a b ↔ r.f1 < n ∧ (rep = a ∧ r.f1 ≤ b ∧ b ≤ n - 1):=by
   split
   ·rename_i h;rw [Mem_cons];simp [Mem_nil,h]
   ·rename_i h;simp [Mem_nil,h]
  have m2 : Mem (if n < r.f2 then [⟨rep,n + 1,r.f2⟩] else []) a b ↔ n < r.f2 ∧ (rep = a ∧ n + 1 ≤ b ∧ b ≤ r.f2):=by
   split
   ·rename_i h;rw [Mem_cons];simp [Mem_nil,h]
   ·rename_i h;simp [Mem_nil,h]
  rw [m1,m2];omega
 ·rename_i hc;rw [Mem_cons];simp only [Mem_nil,or_false];omega
theorem dropR_spec (rep n : Int) (hn : 1 ≤ n) : ∀ l : List S67,Canon l → Canon (dropR rep n l) ∧ ∀ a b,Mem (dropR rep n l) a b ↔ Mem l a b ∧ ¬ (a = rep ∧ b = n)
 | [],_=>⟨Canon_nil,fun a b=>by simp [dropR,Mem_nil]⟩
 | x :: l,h=>by
  obtain ⟨h1,h2,h3⟩:=Canon_cons.1 h;obtain ⟨k1,k2⟩:=dropR_spec rep n hn l h3;have e : dropR rep n (x :: l) = dropOne rep n x ++ dropR rep n l:=by unfold dropR;rw [List.flatMap_cons]
  rw [e];refine ⟨Canon_append (dropOne_canon rep n x h1 hn) k1 (fun y hy z hz=>?_),fun a b=>?_⟩
  ·obtain ⟨q1,q2,q3⟩:=dropOne_in rep n x y hy;obtain ⟨u,hu,hz⟩:=List.mem_flatMap.1 hz;obtain ⟨r1,r2,r3⟩:=dropOne_in rep n u z hz;have:=h2 u hu;rw [apartB_iff] at this ⊢;omega
  ·rw [Mem_append,dropOne_mem,k2,Mem_cons];constructor
   ·rintro (⟨p,q⟩ | ⟨p,q⟩)
    ·exact ⟨.inl p,q⟩
    ·exact ⟨.inr p,q⟩
   ·rintro ⟨p | p,q⟩
    ·exact .inl ⟨p,q⟩
    ·exact .inr ⟨p,q⟩
theorem know_Drop_from (s : List S67) (hl : s.length ≤ 1000000) (ok : ∀ z ∈ s,Ok_Run z) (rep n : Int) (hn : In32 n) : ∀ d k i : Nat,∀ out : List S67,i + d = s.length → 2 * d < k → out.length ≤ 2 * i →
 know_Drop.l0 k rep n out s (s.length : Int) (i : Int) = some (fin (out ++ dropR rep n (s.drop i))):=by
 unfold In32 at hn;intro d
 induction d with
 | zero =>
  intro k i out hi hk ho;obtain ⟨k,rfl⟩ : ∃ m,k = m + 1:=⟨k - 1,by omega⟩
  simp only [know_Drop.l0];rw [if_neg (by omega),List.drop_of_length_le (by omega)];rw [show out ++ dropR rep n [] = out from List.append_nil _];unfold fin;by_cases hq : (out.length : Int) > 64
  ·rw [if_pos hq,if_pos hq]
  ·rw [if_neg hq,if_neg hq]
 | succ d ih =>
  intro k i out hi hk ho;obtain ⟨k,rfl⟩ : ∃ m,k = m + 1 + 1:=⟨k - 2,by omega⟩
  have okr:=ok _ (getDR s i (by omega));have hd : dropR rep n (s.drop i) = dropOne rep n (s.getD i z67) ++ dropR rep n (s.drop (i + 1)):=by
   rw [dropR_cons s i (by omega)];unfold dropR;rw [List.flatMap_cons]
  have ho1 : out.length < 11728124029610:=by omega
  simp only [know_Drop.l0];rw [if_pos (by omega),if_pos (by omega),if_pos (by omega),rdR,hd];generalize hr : s.getD i z67 = r at *;obtain ⟨hr0,hr1,hr2⟩:=okr;unfold In32 at hr1 hr2;have hrec : ∀ q : List S67,q.length ≤ 2 → know_Drop.l0 k rep n (out ++ q) s (s.length : Int) ((i + 1 : Nat) : Int) = some (fin (out ++ q ++ dropR rep n (s.drop (i + 1)))):=fun q hq=>ih k (i + 1) (out ++ q) (by omega) (by omega) (by simp;omega)
  have hkeep : know_Drop.j2 (k + 1) rep n out s (s.length : Int) (i : Int) true r.f0 r.f1 r.f2 = some (fin (out ++ ([r] ++ dropR rep n (s.drop (i + 1))))):=by
   simp only [know_Drop.j2,if_true];rw [if_pos ho1,wrapN i (by omega),← List.append_assoc];exact hrec [r] (by simp)
  unfold dropOne;by_cases h0 : r.f0 = rep
  ·rw [if_pos h0];by_cases h1 : n < r.f1
   ·rw [if_pos h1,if_neg (by omega),hkeep]
   ·rw [if_neg h1];by_cases h2 : n > r.f2
    ·rw [zE h2,if_neg (by omega),hkeep]
    ·rw [zF h2,if_pos ⟨h0,by omega,by omega⟩];simp only [know_Drop.j2,yC,if_false,zW];rw [wrapN i (by omega)];by_cases h3 : r.f1 < n
     ·have e3 : (n - 1) % 4294967296 = n - 1:=by omega
      rw [if_pos h3,if_pos h3,if_pos ho1,e3];by_cases h4 : n < r.f2
      ·have e4 : (n + 1) % 4294967296 = n + 1:=by omega
       rw [if_pos h4,if_pos h4,if_pos (by simp;omega),e4];have:=hrec [⟨rep,r.f1,n - 1⟩,⟨rep,n + 1,r.f2⟩] (by simp);simpa using this
      ·rw [if_neg h4,if_neg h4];have:=hrec [⟨rep,r.f1,n - 1⟩] (by simp);simpa using this
     ·rw [if_neg h3,if_neg h3];by_cases h4 : n < r.f2
      ·have e4 : (n + 1) % 4294967296 = n + 1:=by omega
       rw [if_pos h4,if_pos h4,if_pos ho1,e4];have:=hrec [⟨rep,n + 1,r.f2⟩] (by simp);simpa using this
      ·rw [if_neg h4,if_neg h4];have:=hrec [] (by simp);simpa using this
  ·rw [if_neg h0,if_neg (fun h=>h0 h.1),hkeep]
theorem DropK_is (l : List S67) (hl : l.length ≤ 400000) (ok : ∀ z ∈ l,Ok_Run z) (r n : Int) (hn : In32 n) (k : Nat) (hk : 2 * l.length + 4 < k) :
 know_Drop.f k l r n = some (if (rightK l && runB ⟨r,n,n⟩) = true then fin (dropR r n l) else ([],some 9)):=by
 obtain ⟨k,rfl⟩ : ∃ m,k = m + 1:=⟨k - 1,by omega⟩
 unfold know_Drop.f;rw [RightK_is l (by omega) ok (k + 1) (by omega),show know_run.f r n n = some (runB ⟨r,n,n⟩) from run_is ⟨r,n,n⟩];simp only [zW];cases rightK l with
 | false=>simp [know_Drop.j0]
 | true =>
  cases runB ⟨r,n,n⟩ with
  | false=>simp [know_Drop.j0]
  | true =>
   simp only [if_true,Bool.not_true,know_Drop.j0,yC,if_false,Bool.and_self];have:=know_Drop_from l (by omega) ok r n hn l.length k 0 [] (by omega) (by omega) (by simp);simpa using this
def itB (rep n r m : Int) : Bool:=decide (r = rep) && decide (m = n)
theorem hasB_iff (l : List S67) (r m : Int) (h : rightK l = true) : hasB l r m = true ↔ Mem l r m:=by
 unfold hasB;rw [h,Bool.true_and,any_iff]
theorem itB_iff (rep n r m : Int) : itB rep n r m = true ↔ r = rep ∧ m = n:=by unfold itB;simp
def dropF (r n : Int) (l : List S67) : List S67 × Option Int:=if (rightK l && runB ⟨r,n,n⟩) = true then fin (dropR r n l) else ([],some 9)
theorem fin_mem (l : List S67) (z : S67) (h : z ∈ (fin l).1) : z ∈ l:=by
 unfold fin at h;split at h
 ·cases h
 ·exact h
theorem drop_facts (l : List S67) (hl : l.length ≤ 400000) (ok : ∀ z ∈ l,Ok_Run z) (r n : Int) (hr : In8 r) (hn : In32 n) (a b : Int) :
 (if (rightK l && runB ⟨r,n,n⟩) = true then fin (dropR r n l) else ([],some 9)).1.length ≤ 900 ∧ (∀ z ∈ (if (rightK l && runB ⟨r,n,n⟩) = true then fin (dropR r n l) else ([],some 9)).1,Ok_Run z) ∧
 ((if (rightK l && runB ⟨r,n,n⟩) = true then fin (dropR r n l) else ([],some 9)).2.isNone = true → rightK (if (rightK l && runB ⟨r,n,n⟩) = true then fin (dropR r n l) else ([],some 9)).1 = true ∧ hasB (if (rightK l && runB ⟨r,n,n⟩) = true then fin (dropR r n l) else ([],some 9)).1 a b = (hasB l a b && !itB r n a b)):=by
 by_cases h : (rightK l && runB ⟨r,n,n⟩) = true
 ·rw [if_pos h];rw [zZ] at h;obtain ⟨h1,h2⟩:=h;have hc:=((rightK_iff l).1 h1).1;have h2':=(runB_iff _).1 h2;obtain ⟨k1,k2⟩:=dropR_spec r n h2'.2.1 l hc;have ho : ∀ z ∈ dropR r n l,Ok_Run z:=canon_ok k1 (fun a b hm=>mem_ok ok a b ((k2 a b).1 hm).1);refine ⟨by have:=fin_length (dropR r n l);omega,fun z hz=>ho z (fin_mem _ z hz),fun he=>?_⟩;obtain ⟨e1,e2⟩:=fin_snd _ he;rw [e1];have h3 : rightK (dropR r n l) = true:=(rightK_iff _).2 ⟨k1,e2⟩;refine ⟨h3,?_⟩;rw [Bool.eq_iff_iff,hasB_iff _ _ _ h3,zZ,hasB_iff _ _ _ h1,k2,Bool.not_eq_true',← Bool.not_eq_true,itB_iff]
 ·rw [if_neg h];exact ⟨by simp,fun z hz=>by simp at hz,fun he=>by simp at he⟩
end Go.Proofs.YtiminjibcafkaaaGreatDoor.X
end
section
namespace Go.Proofs.YtiminjibcafkaaaGreatDoor.X
open Go.RowKit Go.Shelf Go.Proofs.YtiminjibcafkaaaGreatDoorW.PrintWords Go.Proofs.YtiminjibcafkaaaGreatDoorW.PrintLast Go.Proofs.YtiminjibcafkaaaGreatDoorW.PrintMore
attribute [local go_sem] max2_int min2_int max_two min_two max_three min_three max_four min_four
theorem drop_getD {α : Type} (z : α) : ∀ (l : List α) (k : Nat),k < l.length → l.drop k = l.getD k z :: l.drop (k + 1):=by
 intro l
 induction l with
 | nil=>intro k h;simp at h
 | cons x l ih =>
  intro k h;cases k with
  | zero=>rfl
  | succ k=>simpa using ih k (by simpa using h)
def source_offer.l0 (k : Nat) (fil : Int) : List S62 → List S67 → Option (List S67 × Option Int)
 | [],out=>(slices_Clone_Run.f out).bind fun l=>some (l,none)
 | e :: l,out=>(if e.f2 = 2 then item_In.f e.f0 e.f1.f0 e.f1.f1 e.f1.f2 e.f2 e.f3 e.f4 fil else some false).bind fun b =>
  if b = true then (know_Drop.f k out e.f1.f0 e.f1.f1).bind fun p=>match p.2 with
   | some c=>some ([],some c)
   | none=>source_offer.l0 k fil l p.1
  else source_offer.l0 k fil l out
def source_offer.f (k : Nat) (a0_0 : Int) (a0_1 : Int) (a0_2 : Int) (a0_3 : Int) (l0_4 : List (S67)) (l0_5 : List (S62)) (a0_6 : Bool) (a0_7 : Int) (a0_8 : Int) (a0_9 : Int) (a0_10 : Int) (l0_11 : List (S67)) (a0_12 : Int) (a1_0 : Int) (a1_1 : Int) (a1_2 : Int) (a1_3 : Int) (a1_4 : Int) (a1_5 : Int) (l1_6 : List (S67)) (a1_7 : Int) (l1_8 : List (S62)) (a1_9 : Int) (a1_10 : Bool) (l1_11 : List (S67)) : Option (List S67 × Option Int):=source_offer.l0 k a1_5 l0_5 l0_4
set_option maxHeartbeats 8000000 in
set_option maxRecDepth 100000 in
theorem source_offer.calls (k : Nat) (a0_0 : Int) (a0_1 : Int) (a0_2 : Int) (a0_3 : Int) (A0_4 : Option Addr) (c0_4 : Nat) (l0_4 : List (S67)) (A0_5 : Option Addr) (c0_5 : Nat) (l0_5 : List (S62)) (a0_6 : Bool) (a0_7 : Int) (a0_8 : Int) (a0_9 : Int) (a0_10 : Int) (A0_11 : Option Addr) (c0_11 : Nat) (l0_11 : List (S67)) (a0_12 : Int) (a1_0 : Int) (a1_1 : Int) (a1_2 : Int) (a1_3 : Int) (a1_4 : Int) (a1_5 : Int) (A1_6 : Option Addr) (c1_6 : Nat) (l1_6 : List (S67)) (a1_7 : Int) (A1_8 : Option Addr) (c1_8 : Nat) (l1_8 : List (S62)) (a1_9 : Int) (a1_10 : Bool) (A1_11 : Option Addr) (c1_11 : Nat) (l1_11 : List (S67)) (r1 : List (S67)) (r2 : Option Int) (w : World) (hr0_4 : Kd.C k67 w A0_4 l0_4.length l0_4) (hc0_4 : l0_4.length ≤ c0_4) (hr0_5 : Kd.C k62 w A0_5 l0_5.length l0_5) (hc0_5 : l0_5.length ≤ c0_5) (hr0_11 : Kd.C k67 w A0_11 l0_11.length l0_11) (hc0_11 : l0_11.length ≤ c0_11) (hr1_6 : Kd.C k67 w A1_6 l1_6.length l1_6) (hc1_6 : l1_6.length ≤ c1_6) (hr1_8 : Kd.C k62 w A1_8 l1_8.length l1_8) (hc1_8 : l1_8.length ≤ c1_8) (hr1_11 : Kd.C k67 w A1_11 l1_11.length l1_11) (hc1_11 : l1_11.length ≤ c1_11) (h : source_offer.f k a0_0 a0_1 a0_2 a0_3 l0_4 l0_5 a0_6 a0_7 a0_8 a0_9 a0_10 l0_11 a0_12 a1_0 a1_1 a1_2 a1_3 a1_4 a1_5 l1_6 a1_7 l1_8 a1_9 a1_10 l1_11 = some (r1,r2)) :
 Calls Tryz.prog 69 #[.agg #[.int .u8 a0_0,.int .u8 a0_1,.int .u32 a0_2,.int .u32 a0_3,.slice A0_4 l0_4.length c0_4,.slice A0_5 l0_5.length c0_5,.bool a0_6,.int .u32 a0_7,.int .u8 a0_8,.int .u8 a0_9,.int .u32 a0_10,.slice A0_11 l0_11.length c0_11,.int .u32 a0_12],.agg #[.int .i64 a1_0,.int .u8 a1_1,.int .u8 a1_2,.int .u32 a1_3,.int .u8 a1_4,.int .u8 a1_5,.slice A1_6 l1_6.length c1_6,.int .u32 a1_7,.slice A1_8 l1_8.length c1_8,.int .u8 a1_9,.bool a1_10,.slice A1_11 l1_11.length c1_11]] w fun e w'=>∃ v0_ : Value,e = .returned (.tuple #[v0_,errW r2]) ∧ Kd.R k67 67 w' w.heap.size (fun _=>True) v0_ r1 ∧ Below w.heap.size w w':=by
 have hu:=Tryz.underlying28;have hun:=Tryz.underlying30;have hue:=Tryz.underlying62;have hu34:=Tryz.underlying35;have eN:=errW_none;have eS:=errW_some;have HR4:=zA hr0_4;have HR5:=zA hr0_5;have HC4:=zA hc0_4;have HC5:=zA hc0_5;have HL:=zA (show source_offer.l0 k a1_5 l0_5 l0_4 = some (r1,r2) from h);have hmax : l0_5.length ≤ 9223372036854775807:=HR5.out.2.1;clear hr0_4 hr0_5 hr0_11 hc0_4 hc0_5 hc0_11 hr1_6 hr1_8 hr1_11 hc1_6 hc1_8 hc1_11 h;have B1a:=zA (yE (yL w (.cells #[.int .u8 a0_0,.int .u8 a0_1,.int .u32 a0_2,.int .u32 a0_3,.slice A0_4 l0_4.length c0_4,.slice A0_5 l0_5.length c0_5,.bool a0_6,.int .u32 a0_7,.int .u8 a0_8,.int .u8 a0_9,.int .u32 a0_10,.slice A0_11 l0_11.length c0_11,.int .u32 a0_12] 28)) (.cells #[.int .i64 a1_0,.int .u8 a1_1,.int .u8 a1_2,.int .u32 a1_3,.int .u8 a1_4,.int .u8 a1_5,.slice A1_6 l1_6.length c1_6,.int .u32 a1_7,.slice A1_8 l1_8.length c1_8,.int .u8 a1_9,.bool a1_10,.slice A1_11 l1_11.length c1_11] 30));have B2a:=zA (show ((w.alloc (.cells #[.int .u8 a0_0,.int .u8 a0_1,.int .u32 a0_2,.int .u32 a0_3,.slice A0_4 l0_4.length c0_4,.slice A0_5 l0_5.length c0_5,.bool a0_6,.int .u32 a0_7,.int .u8 a0_8,.int .u8 a0_9,.int .u32 a0_10,.slice A0_11 l0_11.length c0_11,.int .u32 a0_12] 28)).alloc (.cells #[.int .i64 a1_0,.int .u8 a1_1,.int .u8 a1_2,.int .u32 a1_3,.int .u8 a1_4,.int .u8 a1_5,.slice A1_6 l1_6.length c1_6,.int .u32 a1_7,.slice A1_8 l1_8.length c1_8,.int .u8 a1_9,.bool a1_10,.slice A1_11 l1_11.length c1_11] 30)).heap[w.heap.size + 1]? = some (.cells #[.int .i64 a1_0,.int .u8 a1_1,.int .u8 a1_2,.int .u32 a1_3,.int .u8 a1_4,.int .u8 a1_5,.slice A1_6 l1_6.length c1_6,.int .u32 a1_7,.slice A1_8 l1_8.length c1_8,.int .u8 a1_9,.bool a1_10,.slice A1_11 l1_11.length c1_11] 30 (0,0)) by simpa using yL (w.alloc (.cells #[.int .u8 a0_0,.int .u8 a0_1,.int .u32 a0_2,.int .u32 a0_3,.slice A0_4 l0_4.length c0_4,.slice A0_5 l0_5.length c0_5,.bool a0_6,.int .u32 a0_7,.int .u8 a0_8,.int .u8 a0_9,.int .u32 a0_10,.slice A0_11 l0_11.length c0_11,.int .u32 a0_12] 28)) (.cells #[.int .i64 a1_0,.int .u8 a1_1,.int .u8 a1_2,.int .u32 a1_3,.int .u8 a1_4,.int .u8 a1_5,.slice A1_6 l1_6.length c1_6,.int .u32 a1_7,.slice A1_8 l1_8.length c1_8,.int .u8 a1_9,.bool a1_10,.slice A1_11 l1_11.length c1_11] 30));have HBa:=zA (((zS _ w).alloc (zM _) (.cells #[.int .u8 a0_0,.int .u8 a0_1,.int .u32 a0_2,.int .u32 a0_3,.slice A0_4 l0_4.length c0_4,.slice A0_5 l0_5.length c0_5,.bool a0_6,.int .u32 a0_7,.int .u8 a0_8,.int .u8 a0_9,.int .u32 a0_10,.slice A0_11 l0_11.length c0_11,.int .u32 a0_12] 28)).alloc (by simp) (.cells #[.int .i64 a1_0,.int .u8 a1_1,.int .u8 a1_2,.int .u32 a1_3,.int .u8 a1_4,.int .u8 a1_5,.slice A1_6 l1_6.length c1_6,.int .u32 a1_7,.slice A1_8 l1_8.length c1_8,.int .u8 a1_9,.bool a1_10,.slice A1_11 l1_11.length c1_11] 30));go_enter Tryz.func69,Tryz.ntmps69;go_wp2_with fail;generalize (w.alloc (.cells #[.int .u8 a0_0,.int .u8 a0_1,.int .u32 a0_2,.int .u32 a0_3,.slice A0_4 l0_4.length c0_4,.slice A0_5 l0_5.length c0_5,.bool a0_6,.int .u32 a0_7,.int .u8 a0_8,.int .u8 a0_9,.int .u32 a0_10,.slice A0_11 l0_11.length c0_11,.int .u32 a0_12] 28)).alloc (.cells #[.int .i64 a1_0,.int .u8 a1_1,.int .u8 a1_2,.int .u32 a1_3,.int .u8 a1_4,.int .u8 a1_5,.slice A1_6 l1_6.length c1_6,.int .u32 a1_7,.slice A1_8 l1_8.length c1_8,.int .u8 a1_9,.bool a1_10,.slice A1_11 l1_11.length c1_11] 30) = w2 at B1a B2a HBa ⊢;go_loopg [6,16] l0_5.length (fun gg s6 s16 wr=>∃ (kk : Nat) (A : Option Addr) (c : Nat) (out : List S67),kk ≤ l0_5.length ∧ l0_5.length - kk ≤ gg ∧ s6 = .slice A out.length c ∧ s16 = .int .i64 kk ∧ Aside0 (Kd.C k67 wr A out.length out) ∧ Aside0 (out.length ≤ c) ∧ Aside0 (Below w2.heap.size w2 wr) ∧ Aside0 (source_offer.l0 k a1_5 (l0_5.drop kk) out = some (r1,r2)))
 case atStart=>exact ⟨0,_,_,l0_4,Nat.zero_le _,by omega,rfl,rfl,⟨zL HR4.out HBa.out⟩,HC4,⟨zS _ _⟩,HL⟩
 case round =>
  obtain ⟨kk,A,c,out,hkk,hgg,rfl,rfl,HO,HOC,BW,HW⟩:=hrel;clear HL;have hLL:=HW.out;clear HW;have B3:=zA (zC B1a.out BW.out);have B4:=zA (zC B2a.out BW.out);have HB3:=zA (zG HBa.out BW.out);by_cases hlt : kk < l0_5.length
  ·have hltz : (kk : Int) < (l0_5.length : Int):=by omega
   have h0k : (0 : Int) ≤ (kk : Int):=by omega
   rw [drop_getD z62 l0_5 kk hlt] at hLL;obtain ⟨ax,rfl,p0,p1,p2,p3,p4,p5,p6⟩:=at_T62 (zL HR5.out HB3.out) (kk : Int) h0k hltz;rw [show rd_T62 l0_5 (kk : Int) = l0_5.getD kk z62 from rfl] at p0 p1 p2 p3 p4 p5 p6;simp only [Int.toNat_natCast] at p0 p1 p2 p3 p4 p5 p6;generalize l0_5.getD kk z62 = X at hLL p0 p1 p2 p3 p4 p5 p6;obtain ⟨b,hb,hLL⟩:=Option.bind_eq_some_iff.mp hLL;have HN:=zA hLL;clear hLL;have B5:=zA (yE B4.out (.cells #[.int .u8 X.f0,.int .u8 X.f1.f0,.int .u32 X.f1.f1,.int .u32 X.f1.f2,.int .i64 X.f2,.int .u8 X.f3,.int .u32 X.f4] 62));have E5:=zA (yL wr (.cells #[.int .u8 X.f0,.int .u8 X.f1.f0,.int .u32 X.f1.f1,.int .u32 X.f1.f2,.int .i64 X.f2,.int .u8 X.f3,.int .u32 X.f4] 62));have HB5:=zA (HB3.out.alloc HB3.out.size (.cells #[.int .u8 X.f0,.int .u8 X.f1.f0,.int .u32 X.f1.f1,.int .u32 X.f1.f2,.int .i64 X.f2,.int .u8 X.f3,.int .u32 X.f4] 62));have BW5:=zA (BW.out.alloc BW.out.size (.cells #[.int .u8 X.f0,.int .u8 X.f1.f0,.int .u32 X.f1.f1,.int .u32 X.f1.f2,.int .i64 X.f2,.int .u8 X.f3,.int .u32 X.f4] 62));have HO5:=zA (Kd.C_alloc HO.out (.cells #[.int .u8 X.f0,.int .u8 X.f1.f0,.int .u32 X.f1.f1,.int .u32 X.f1.f2,.int .i64 X.f2,.int .u8 X.f3,.int .u32 X.f4] 62));have q_:=cells12 B5.out;by_cases hk2 : X.f2 = 2
   ·rw [if_pos hk2] at hb;have HI:=zA hb;have hk2b : (X.f2 != 2) = false:=by simp [hk2]
    clear hb;have HE:=zA hk2;clear hk2;go_wp2_with fail;refine (item_In.calls X.f0 X.f1.f0 X.f1.f1 X.f1.f2 X.f2 X.f3 X.f4 a1_5 b _ HI.out).mono ?_;rintro ev w6 ⟨rfl,hx⟩;have E6:=zA (zC E5.out hx);have HB6:=zA (zG HB5.out hx);have BW6:=zA (zG BW5.out hx);have HO6:=zA (zL HO5.out hx);clear hx E5 HB5 BW5 HO5 B5 p0 p1 p2 p3 p4 p5 p6 q_ HO BW HB3 B3 B4;obtain ⟨s0,s1,s2,s3,s4,s5,s6⟩:=cells7 E6.out;have hLL:=HN.out;clear HN;cases b with
    | false =>
     rw [if_neg (by decide)] at hLL;have HN:=zA hLL;clear hLL;go_wp2_with fail;go_roundg (l0_5.length - (kk + 1))
     case measure=>omega
     case rel=>exact ⟨kk + 1,_,_,out,by omega,zM _,rfl,by go_num,HO6,HOC,BW6,HN⟩
    | true =>
     rw [if_pos rfl] at hLL;obtain ⟨⟨l2,e2⟩,hd,hLL⟩:=Option.bind_eq_some_iff.mp hLL;have HD:=zA hd;clear hd;go_wp2_with fail;refine (know_Drop.calls k _ _ out _ _ l2 e2 _ HO6.out HOC.out HD.out).mono ?_;rintro ev w7 ⟨v7,rfl,hR7,hx⟩;obtain ⟨A7,c7,rfl,hD7,hC7⟩:=Kd.R_reads hR7;have HB7:=zA (zG HB6.out hx);have BW7:=zA (zG BW6.out hx);have HO7:=zA hC7;have HOC7:=zA hD7;clear hx HB6 BW6 HO6 hR7 hC7 hD7 s0 s1 s2 s3 s4 s5 s6;cases e2 with
     | some cc =>
      obtain ⟨rfl,rfl⟩ : ([] : List S67) = r1 ∧ some cc = r2:=by
       have:=zH hLL;exact ⟨congrArg Prod.fst this,congrArg Prod.snd this⟩
      clear hLL;go_wp2_with fail;go_ret2;exact ⟨_,by first | rfl | rw [eS],Kd.R_nil _ _ _ _ _,HB7.out⟩
     | none =>
      have HN:=zA (show source_offer.l0 k a1_5 (l0_5.drop (kk + 1)) l2 = some (r1,r2) from hLL);clear hLL;go_wp2_with fail;go_roundg (l0_5.length - (kk + 1))
      case measure=>omega
      case rel=>exact ⟨kk + 1,_,_,l2,by omega,zM _,rfl,by go_num,HO7,HOC7,BW7,HN⟩
   ·rw [if_neg hk2] at hb;obtain rfl:=zH hb;have hk2b : (X.f2 != 2) = true:=by simp [hk2]
    clear hb hk2;have hLL:=HN.out;clear HN;rw [if_neg (by decide)] at hLL;have HN:=zA hLL;clear hLL;go_wp2_with fail;go_roundg (l0_5.length - (kk + 1))
    case measure=>omega
    case rel=>exact ⟨kk + 1,_,_,out,by omega,zM _,rfl,by go_num,HO5,HOC,BW5,HN⟩
  ·have hltz : ¬ (kk : Int) < (l0_5.length : Int):=by omega
   rw [List.drop_of_length_le (by omega)] at hLL;obtain ⟨l2,hc,hLL⟩:=Option.bind_eq_some_iff.mp hLL;have HD:=zA hc;obtain ⟨rfl,rfl⟩ : l2 = r1 ∧ none = r2:=by
    have:=zH hLL;exact ⟨congrArg Prod.fst this,congrArg Prod.snd this⟩
   clear hLL hc;go_wp2_with fail;refine (slices_Clone_Run.calls _ _ out _ _ HO.out HOC.out HD.out).mono ?_;rintro ev w7 ⟨v7,rfl,hR7,hx⟩;have HB7:=zA (zG HB3.out hx);have HR7:=zA hR7;have hs:=yJ hR7;clear hx hR7;go_wp2_with fail;go_ret2;exact ⟨_,by first | rfl | rw [eN],yK HR7.out HB3.out.size,HB7.out⟩
end Go.Proofs.YtiminjibcafkaaaGreatDoor.X
end
