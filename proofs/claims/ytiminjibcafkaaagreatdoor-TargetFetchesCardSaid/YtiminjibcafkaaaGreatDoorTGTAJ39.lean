/- Texts that this claim's law comes to, joined by wip/slim.py: Xpureruns, Xpureitem. -/
import Derived.Test.YtiminjibcafkaaaGreatDoorTGTAX5
import Derived.Test.YtiminjibcafkaaaGreatDoorTGTAX15
import Derived.Test.YtiminjibcafkaaaGreatDoorTGJ16
import Derived.Test.YtiminjibcafkaaaGreatDoorTGTAXop
import Derived.Sort.AssemblyPlain
import Derived.Test.YtiminjibcafkaaaGreatDoorTGTAJ5
import Derived.Test.YtiminjibcafkaaaGreatDoorTGJ26
import Derived.KernelRfl
set_option linter.unusedSimpArgs false
set_option linter.unusedVariables false
section
namespace Go.Proofs.YtiminjibcafkaaaGreatDoor.X
open RowKit YtiminjibcafkaaaGreatDoorW.PrintWords YtiminjibcafkaaaGreatDoorW.PrintLast YtiminjibcafkaaaGreatDoorW.PrintMore
def runB (x : S67) : Bool:=decide (x.f0 < 8) && (decide (1 ≤ x.f1) && decide (x.f1 ≤ x.f2))
def apartB (a b : S67) : Bool:=decide (a.f0 < b.f0) || (decide (a.f0 = b.f0) && decide (a.f2 + 1 < b.f1))
theorem runB_iff (x : S67) : runB x = true ↔ x.f0 < 8 ∧ 1 ≤ x.f1 ∧ x.f1 ≤ x.f2:=by unfold runB;simp
theorem apartB_iff (a b : S67) : apartB a b = true ↔ a.f0 < b.f0 ∨ (a.f0 = b.f0 ∧ a.f2 + 1 < b.f1):=by unfold apartB;simp
def Canon (l : List S67) : Prop:=(∀ x ∈ l,runB x = true) ∧ l.Pairwise (fun a b=>apartB a b = true)
def Mem (l : List S67) (r n : Int) : Prop:=∃ x ∈ l,x.f0 = r ∧ x.f1 ≤ n ∧ n ≤ x.f2
theorem any_iff (l : List S67) (r n : Int) : l.any (inRun r n) = true ↔ Mem l r n:=by
 rw [List.any_eq_true];unfold Mem inRun;constructor
 ·rintro ⟨x,hx,h⟩;simp only [zZ,yH] at h;exact ⟨x,hx,h⟩
 ·rintro ⟨x,hx,h⟩;refine ⟨x,hx,?_⟩;simp only [zZ,yH];exact h
theorem Mem_nil (r n : Int) : ¬ Mem [] r n:=by rintro ⟨x,hx,_⟩;cases hx
theorem Mem_cons (x : S67) (l : List S67) (r n : Int) : Mem (x :: l) r n ↔ (x.f0 = r ∧ x.f1 ≤ n ∧ n ≤ x.f2) ∨ Mem l r n:=by
 unfold Mem;constructor
 ·rintro ⟨y,hy,h⟩;rcases List.mem_cons.1 hy with rfl | hy
  ·exact .inl h
  ·exact .inr ⟨y,hy,h⟩
 ·rintro (h | ⟨y,hy,h⟩)
  ·exact ⟨x,by simp,h⟩
  ·exact ⟨y,by simp [hy],h⟩
theorem Mem_append (a b : List S67) (r n : Int) : Mem (a ++ b) r n ↔ Mem a r n ∨ Mem b r n:=by
 induction a with
 | nil=>simp [Mem_nil]
 | cons x a ih=>rw [List.cons_append,Mem_cons,Mem_cons,ih,or_assoc]
theorem Mem_perm {a b : List S67} (h : a.Perm b) (r n : Int) : Mem a r n ↔ Mem b r n:=by
 unfold Mem;constructor
 ·rintro ⟨x,hx,k⟩;exact ⟨x,h.mem_iff.1 hx,k⟩
 ·rintro ⟨x,hx,k⟩;exact ⟨x,h.mem_iff.2 hx,k⟩
theorem Canon_nil : Canon []:=⟨fun x hx=>(by cases hx),List.Pairwise.nil⟩
theorem Canon_cons {x : S67} {l : List S67} : Canon (x :: l) ↔ runB x = true ∧ (∀ y ∈ l,apartB x y = true) ∧ Canon l:=by
 unfold Canon;rw [List.pairwise_cons];constructor
 ·rintro ⟨h1,h2,h3⟩;exact ⟨h1 x (by simp),h2,fun y hy=>h1 y (by simp [hy]),h3⟩
 ·rintro ⟨h1,h2,h3,h4⟩;refine ⟨fun y hy=>?_,h2,h4⟩;rcases List.mem_cons.1 hy with rfl | hy
  ·exact h1
  ·exact h3 y hy
theorem apart_trans {a b c : S67} (hb : runB b = true) (h1 : apartB a b = true) (h2 : apartB b c = true) : apartB a c = true:=by
 rw [runB_iff] at hb;rw [apartB_iff] at *;omega
def leR (a b : S67) : Prop:=a.f0 < b.f0 ∨ (a.f0 = b.f0 ∧ a.f1 ≤ b.f1)
def mrgR : S67 → List S67 → List S67
 | c,[]=>[c]
 | c,r :: l=>if apartB c r = true then c :: mrgR r l else if r.f2 ≤ c.f2 then mrgR c l else mrgR ⟨r.f0,c.f1,r.f2⟩ l
theorem mrgR_spec : ∀ (l : List S67) (c : S67),runB c = true → (∀ x ∈ l,runB x = true) → (∀ x ∈ l,leR c x) → l.Pairwise leR →
 Canon (mrgR c l) ∧ (∃ y m,mrgR c l = y :: m ∧ y.f0 = c.f0 ∧ y.f1 = c.f1) ∧ ∀ r n,Mem (mrgR c l) r n ↔ Mem (c :: l) r n
 | [],c,hc,_,_,_=>⟨Canon_cons.2 ⟨hc,fun y hy=>(by cases hy),Canon_nil⟩,⟨c,[],rfl,rfl,rfl⟩,fun r n=>Iff.rfl⟩
 | r :: l,c,hc,hl,hle,hs=>by
  have hr:=hl r (by simp);have hcr:=hle r (by simp);obtain ⟨s1,s2⟩:=List.pairwise_cons.1 hs;have hl' : ∀ x ∈ l,runB x = true:=fun x hx=>hl x (by simp [hx])
  have bc:=(runB_iff c).1 hc;have br:=(runB_iff r).1 hr;unfold leR at hcr;simp only [mrgR];by_cases h1 : apartB c r = true
  ·rw [if_pos h1];obtain ⟨k1,⟨y,m,k2,k3,k4⟩,k5⟩:=mrgR_spec l r hr hl' s1 s2;refine ⟨Canon_cons.2 ⟨hc,fun z hz=>?_,k1⟩,⟨c,_,rfl,rfl,rfl⟩,fun a b=>?_⟩
   ·rw [k2] at hz k1;obtain ⟨c1,c2,_⟩:=Canon_cons.1 k1;have h2 : apartB c y = true:=by rw [apartB_iff] at h1 ⊢;omega
    rcases List.mem_cons.1 hz with rfl | hz
    ·exact h2
    ·exact apart_trans c1 h2 (c2 z hz)
   ·rw [Mem_cons,k5,Mem_cons c (r :: l)]
  ·rw [if_neg h1];rw [apartB_iff] at h1;by_cases h2 : r.f2 ≤ c.f2
   ·rw [if_pos h2];obtain ⟨k1,k2,k5⟩:=mrgR_spec l c hc hl' (fun x hx=>hle x (by simp [hx])) s2;refine ⟨k1,k2,fun a b=>?_⟩;rw [k5,Mem_cons,Mem_cons c (r :: l),Mem_cons r l];constructor
    ·rintro (h | h)
     ·exact .inl h
     ·exact .inr (.inr h)
    ·rintro (h | h | h)
     ·exact .inl h
     ·exact .inl (by omega)
     ·exact .inr h
   ·rw [if_neg h2];obtain ⟨k1,⟨y,m,k2,k3,k4⟩,k5⟩:=mrgR_spec l ⟨r.f0,c.f1,r.f2⟩ ((runB_iff _).2 ⟨br.1,bc.2.1,by show c.f1 ≤ r.f2;omega⟩) hl' (fun x hx=>by
     have:=s1 x hx;unfold leR at this ⊢;show r.f0 < x.f0 ∨ (r.f0 = x.f0 ∧ c.f1 ≤ x.f1)
     omega) s2
    refine ⟨k1,⟨y,m,k2,by rw [k3];show r.f0 = c.f0;omega,k4⟩,fun a b=>?_⟩;rw [k5,Mem_cons,Mem_cons c (r :: l),Mem_cons r l];show (r.f0 = a ∧ c.f1 ≤ b ∧ b ≤ r.f2) ∨ Mem l a b ↔ _;constructor
    ·rintro (h | h)
     ·by_cases h3 : b ≤ c.f2
      ·exact .inl (by omega)
      ·exact .inr (.inl (by omega))
     ·exact .inr (.inr h)
    ·rintro (h | h | h)
     ·exact .inl (by omega)
     ·exact .inl (by omega)
     ·exact .inr h
def sortR (l : List S67) : List S67:=(Sort.pdq (ltOf runCmp) l.toArray 0 l.toArray.size (Lib.bitLen l.toArray.size) true true).toList
theorem sortR_spec (l : List S67) : (sortR l).Perm l ∧ (sortR l).Pairwise leR:=by
 obtain ⟨⟨h1,_,h3⟩,h4⟩:=Sort.pdq_sorts (ltOf runCmp) runCmp_swo l.toArray 0 l.toArray.size (Lib.bitLen l.toArray.size) true true (Nat.zero_le _) (zM _) (.inl rfl);unfold sortR;generalize Sort.pdq (ltOf runCmp) l.toArray 0 l.toArray.size (Lib.bitLen l.toArray.size) true true = d at *;constructor
 ·rw [← h1,Array.extract_size,h1,Array.extract_size] at h3;simpa using h3
 ·rw [List.pairwise_iff_getElem];intro i j hi hj hij;have hs:=h4 i j (Nat.zero_le _) hij (by rw [← h1];simpa using hj);have ei : d[i]! = d.toList[i]:=by rw [getElem!_pos d i (by simpa using hi)];simp
  have ej : d[j]! = d.toList[j]:=by rw [getElem!_pos d j (by simpa using hj)];simp
  rw [ei,ej,runCmp_lt] at hs;simp only [Bool.or_eq_false_iff,Bool.and_eq_false_iff,decide_eq_false_iff_not] at hs;unfold leR;omega
def mergeL (l : List S67) : List S67:=match sortR l with
 | []=>[]
 | c :: m=>mrgR c m
theorem mergeL_spec (l : List S67) (h : ∀ x ∈ l,runB x = true) : Canon (mergeL l) ∧ ∀ r n,Mem (mergeL l) r n ↔ Mem l r n:=by
 obtain ⟨h1,h2⟩:=sortR_spec l;have h3 : ∀ x ∈ sortR l,runB x = true:=fun x hx=>h x (h1.mem_iff.1 hx)
 unfold mergeL;cases hs : sortR l with
 | nil =>
  refine ⟨Canon_nil,fun r n=>?_⟩;rw [hs] at h1;rw [Mem_perm h1.symm]
 | cons c m =>
  rw [hs] at h1 h2 h3;obtain ⟨s1,s2⟩:=List.pairwise_cons.1 h2;obtain ⟨k1,_,k2⟩:=mrgR_spec m c (h3 c (by simp)) (fun x hx=>h3 x (by simp [hx])) s1 s2;exact ⟨k1,fun r n=>by rw [k2,Mem_perm h1.symm]⟩
theorem Canon_append {a b : List S67} (ha : Canon a) (hb : Canon b) (h : ∀ x ∈ a,∀ y ∈ b,apartB x y = true) : Canon (a ++ b):=by
 refine ⟨fun x hx=>?_,List.pairwise_append.2 ⟨ha.2,hb.2,h⟩⟩;rcases List.mem_append.1 hx with hx | hx
 ·exact ha.1 x hx
 ·exact hb.1 x hx
def c3 (x y z : Int) : Int:=if x < y then -1 else if y < x then 1 else z
theorem Compare8_is (x y : Int) : cmp_Compare_uint8.f x y = some (c3 x y 0):=by
 unfold cmp_Compare_uint8.f cmp_isNaN_uint8.f c3;simp;split<;>simp_all;split<;>simp_all
theorem Compare32_is (x y : Int) : cmp_Compare_uint32.f x y = some (c3 x y 0):=by
 unfold cmp_Compare_uint32.f cmp_isNaN_uint32.f c3;simp;split<;>simp_all;split<;>simp_all
def cmpV (a b : S60) : Int:=c3 a.f2 b.f2 (c3 a.f0 b.f0 (c3 a.f1 b.f1 0))
theorem c3_zero (x y z : Int) : c3 x y z = 0 ↔ x = y ∧ z = 0:=by unfold c3;repeat' split<;>omega
theorem cmpV_zero (a b : S60) : cmpV a b = 0 ↔ a.f2 = b.f2 ∧ a.f0 = b.f0 ∧ a.f1 = b.f1:=by unfold cmpV;simp [c3_zero]
def lessV (a b : S60) : Bool:=decide (cmpV a b < 0)
theorem Less_is (a b : S60) : tidingsref02_Less.f a.f0 a.f1 a.f2 b.f0 b.f1 b.f2 = some (lessV a b):=by
 unfold tidingsref02_Less.f lessV cmpV c3
 repeat' split
 all_goals first | rfl | (simp;omega) | omega
end Go.Proofs.YtiminjibcafkaaaGreatDoor.X
end
