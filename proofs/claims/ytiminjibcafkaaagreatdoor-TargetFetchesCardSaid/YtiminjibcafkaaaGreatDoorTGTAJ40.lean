/- Texts that this claim's law comes to, joined by wip/slim.py: Xpureknow, Xpureknow2, Xpureitem2. -/
import Derived.Test.YtiminjibcafkaaaGreatDoorTGTAX5
import Derived.Test.YtiminjibcafkaaaGreatDoorTGTAX15
import Derived.Test.YtiminjibcafkaaaGreatDoorTGJ16
import Derived.Test.YtiminjibcafkaaaGreatDoorTGJ21
import Derived.Test.YtiminjibcafkaaaGreatDoorTGTAX19
import Derived.Test.YtiminjibcafkaaaGreatDoorTGTAX21
import Derived.Test.YtiminjibcafkaaaGreatDoorTGTAJ39
import Derived.Test.YtiminjibcafkaaaGreatDoorTGTAJ6
import Derived.Test.YtiminjibcafkaaaGreatDoorTGTAJ4
import Derived.Test.YtiminjibcafkaaaGreatDoorTGTAX20
import Derived.Test.YtiminjibcafkaaaGreatDoorTGTAJ29
import Derived.Test.YtiminjibcafkaaaGreatDoorTGTAJ5
import Derived.Test.YtiminjibcafkaaaGreatDoorTGJ26
set_option linter.unusedSimpArgs false
set_option linter.unusedVariables false
section
namespace Go.Proofs.YtiminjibcafkaaaGreatDoor.X
open RowKit YtiminjibcafkaaaGreatDoorW.PrintWords YtiminjibcafkaaaGreatDoorW.PrintLast YtiminjibcafkaaaGreatDoorW.PrintMore
theorem wrapN (n : Nat) (h : n ≤ 4611686018427387904) : wrap64 ((n : Int) + 1) = ((n + 1 : Nat) : Int):=by unfold wrap64;omega
theorem wrapNp (n : Nat) (h0 : 0 < n) (h : n ≤ 4611686018427387904) : wrap64 ((n : Int) - 1) = ((n - 1 : Nat) : Int):=by unfold wrap64;omega
theorem rdR (l : List S67) (i : Nat) : rd_T67 l (i : Int) = l.getD i z67:=rfl
theorem getDR (l : List S67) (i : Nat) (h : i < l.length) : l.getD i z67 ∈ l:=by
 rw [yG,zO h];exact List.getElem_mem h
theorem dropR_cons (l : List S67) (i : Nat) (h : i < l.length) : l.drop i = l.getD i z67 :: l.drop (i + 1):=by
 rw [yG,zO h];exact (List.drop_eq_getElem_cons h)
theorem run_is (x : S67) : know_run.f x.f0 x.f1 x.f2 = some (runB x):=by
 unfold know_run.f runB;by_cases h1 : x.f0 < 8<;>by_cases h2 : x.f1 ≥ 1
 ·have h3 : (1 : Int) ≤ x.f1:=h2;simp [h1,h3]
 ·have h3 : ¬ (1 : Int) ≤ x.f1:=h2;simp [h1,h3]
 ·simp [h1]
 ·simp [h1]
theorem apart_is (a b : S67) (ha : Ok_Run a) (hb : Ok_Run b) : know_apart.f a.f0 a.f1 a.f2 b.f0 b.f1 b.f2 = some (apartB a b):=by
 obtain ⟨_,_,h2⟩:=ha;obtain ⟨_,k1,_⟩:=hb;unfold In32 at h2 k1;unfold know_apart.f apartB;by_cases h : a.f0 < b.f0
 ·simp [h]
 ·by_cases h' : a.f0 = b.f0
  ·by_cases h4 : a.f2 < b.f1
   ·have e : (a.f2 + 1) % 4294967296 = a.f2 + 1:=by omega
    simp [h',h4,e]
   ·have e : ¬ a.f2 + 1 < b.f1:=by omega
    simp [h',h4,e]
  ·simp [h,h']
def okK (l : List S67) (i : Nat) : Bool:=runB (l.getD i z67) && (decide (i = 0) || apartB (l.getD (i - 1) z67) (l.getD i z67))
def okKFrom (l : List S67) : Nat → Nat → Bool
 | 0,_=>true
 | d + 1,i=>okK l i && okKFrom l d (i + 1)
theorem okKFrom_iff (l : List S67) : ∀ d i,okKFrom l d i = true ↔ ∀ j,i ≤ j → j < i + d → okK l j = true
 | 0,i=>by simp [okKFrom];intro j h1 h2;omega
 | d + 1,i=>by
  simp only [okKFrom,zZ,okKFrom_iff l d (i + 1)];constructor
  ·rintro ⟨h1,h2⟩ j hj hk;rcases Nat.eq_or_lt_of_le hj with e | e
   ·rw [← e];exact h1
   ·exact h2 j e (by omega)
  ·intro h;exact ⟨h i (zM _) (by omega),fun j hj hk=>h j (by omega) (by omega)⟩
def canonB (l : List S67) : Bool:=okKFrom l l.length 0
theorem canonB_iff' (l : List S67) : canonB l = true ↔ ∀ j,j < l.length → okK l j = true:=by
 unfold canonB;rw [okKFrom_iff];exact ⟨fun h j hj=>h j (Nat.zero_le _) (by omega),fun h j _ hj=>h j (by omega)⟩
theorem okK_tail (x : S67) (l : List S67) (j : Nat) (h : okK (x :: l) (j + 1) = true) : okK l j = true:=by
 unfold okK at h ⊢;simp only [Nat.add_sub_cancel,List.getD_cons_succ,zZ] at h ⊢;refine ⟨h.1,?_⟩;cases j with
 | zero=>rfl
 | succ j=>simpa using h.2
theorem canonB_iff : ∀ l : List S67,canonB l = true ↔ Canon l
 | []=>⟨fun _=>Canon_nil,fun _=>rfl⟩
 | x :: l=>by
  have ih:=canonB_iff l;rw [canonB_iff',Canon_cons];constructor
  ·intro h;have h0:=h 0 (by simp);have hx : runB x = true:=by unfold okK at h0;simpa using h0
   have hl : ∀ j,j < l.length → okK l j = true:=fun j hj=>okK_tail x l j (h (j + 1) (by simpa using hj))
   have hc:=ih.1 ((canonB_iff' l).2 hl);refine ⟨hx,fun y hy=>?_,hc⟩;cases l with
   | nil=>cases hy
   | cons u l =>
    have h1:=h 1 (by simp);unfold okK at h1;simp only [zZ,yM,yH] at h1;have h2 : apartB x u = true:=by
     rcases h1.2 with h3 | h3
     ·omega
     ·exact h3
    obtain ⟨c1,c2,_⟩:=Canon_cons.1 hc;rcases List.mem_cons.1 hy with rfl | hy
    ·exact h2
    ·exact apart_trans c1 h2 (c2 y hy)
  ·rintro ⟨hx,hap,hc⟩ j hj;have hl:=(canonB_iff' l).1 (ih.2 hc);cases j with
   | zero=>unfold okK;simpa using hx
   | succ j =>
    have h1:=hl j (by simpa using hj);unfold okK at h1 ⊢;simp only [Nat.add_sub_cancel,List.getD_cons_succ,zZ] at h1 ⊢;refine ⟨h1.1,?_⟩;cases j with
    | zero =>
     have:=hap (l.getD 0 z67) (getDR l 0 (by simpa using hj));simp only [yM,yH];exact .inr this
    | succ j=>simpa using h1.2
def rightK (l : List S67) : Bool:=canonB l && decide ((l.length : Int) ≤ 64)
theorem rightK_iff (l : List S67) : rightK l = true ↔ Canon l ∧ l.length ≤ 64:=by
 unfold rightK;rw [zZ,canonB_iff,yH];exact ⟨fun h=>⟨h.1,by omega⟩,fun h=>⟨h.1,by omega⟩⟩
theorem know_Right_from (l : List S67) (hl : l.length ≤ 4611686018427387904) (ok : ∀ z ∈ l,Ok_Run z) : ∀ d k i : Nat,i + d = l.length → d < k → know_Right.l0 k l l (l.length : Int) (i : Int) = some (okKFrom l d i && decide ((l.length : Int) ≤ 64)):=by
 intro d
 induction d with
 | zero =>
  intro k i hi hk;obtain ⟨k,rfl⟩ : ∃ m,k = m + 1:=⟨k - 1,by omega⟩
  simp only [know_Right.l0,okKFrom];rw [if_neg (by omega),Bool.true_and]
 | succ d ih =>
  intro k i hi hk;obtain ⟨k,rfl⟩ : ∃ m,k = m + 1:=⟨k - 1,by omega⟩
  simp only [know_Right.l0,okKFrom];rw [if_pos (by omega),if_pos (by omega),if_pos (by omega),rdR,run_is];simp only [zW];have e:=ih k (i + 1) (by omega) (by omega);unfold okK;cases runB (l.getD i z67) with
  | false=>simp
  | true =>
   simp only [if_true,Bool.true_and];rw [wrapN i (by omega),e];by_cases h0 : i = 0
   ·subst h0;simp
   ·rw [if_pos (by omega),wrapNp i (by omega) (by omega),if_pos (by omega),if_pos (by omega),rdR,apart_is _ _ (ok _ (getDR l (i - 1) (by omega))) (ok _ (getDR l i (by omega)))];simp only [zW];rw [zF h0,Bool.false_or];cases apartB (l.getD (i - 1) z67) (l.getD i z67)
    ·rfl
    ·rfl
theorem RightK_is (l : List S67) (hl : l.length ≤ 4611686018427387904) (ok : ∀ z ∈ l,Ok_Run z) (k : Nat) (hk : l.length < k) : know_Right.f k l = some (rightK l):=know_Right_from l hl ok l.length k 0 (by omega) hk
theorem HasK_is (l : List S67) (hl : l.length ≤ 4611686018427387904) (ok : ∀ z ∈ l,Ok_Run z) (r n : Int) (k : Nat) (hk : l.length < k) : know_Has.f k l r n = some (rightK l && l.any (inRun r n)):=by
 unfold know_Has.f;rw [RightK_is l hl ok k hk];rfl
def fin (l : List S67) : List S67 × Option Int:=if (l.length : Int) > 64 then ([],some 5) else (l,none)
theorem merged_from (s : List S67) (hl : s.length ≤ 1000000) (ok : ∀ z ∈ s,Ok_Run z) : ∀ d k i : Nat,∀ (p : List S67) (c : S67),i + d = s.length → 2 * d < k → p.length ≤ i → Ok_Run c →
 know_merged.l0 k (p ++ [c]) s (s.length : Int) (i : Int) = some (fin (p ++ mrgR c (s.drop i))):=by
 intro d
 induction d with
 | zero =>
  intro k i p c hi hk hp hc;obtain ⟨k,rfl⟩ : ∃ m,k = m + 1:=⟨k - 1,by omega⟩
  simp only [know_merged.l0];rw [if_neg (by omega),List.drop_of_length_le (by omega)];show _ = some (fin (p ++ [c]));unfold fin;by_cases hq : ((p ++ [c]).length : Int) > 64
  ·rw [if_pos hq,if_pos hq]
  ·rw [if_neg hq,if_neg hq]
 | succ d ih =>
  intro k i p c hi hk hp hc;obtain ⟨k,rfl⟩ : ∃ m,k = m + 1 + 1:=⟨k - 2,by omega⟩
  have hlen : ((p ++ [c]).length : Int) = ((p.length + 1 : Nat) : Int):=by simp
  have hw : wrap64 (((p ++ [c]).length : Int) - 1) = (p.length : Int):=by rw [hlen];unfold wrap64;omega
  have hlast : rd_T67 (p ++ [c]) (p.length : Int) = c:=by
   rw [rdR,yG,List.getElem?_append_right (zM _)];simp
  have okr:=ok _ (getDR s i (by omega));simp only [know_merged.l0];rw [hw];rw [if_pos (by omega),if_pos (by omega),if_pos (by omega),if_pos (by omega),if_pos (by omega),if_pos (by rw [hlen];omega),hlast,rdR,apart_is c _ hc okr,dropR_cons s i (by omega)];generalize hr : s.getD i z67 = r at *;simp only [zW,know_merged.j1,mrgR];rw [wrapN i (by omega),hlast];cases hap : apartB c r with
  | true =>
   simp only [Bool.not_true,yC,if_false,if_true];rw [if_pos (by simp;omega),ih k (i + 1) (p ++ [c]) r (by omega) (by omega) (by simp;omega) okr];simp
  | false =>
   simp only [Bool.not_false,yC,if_false,if_true];rw [if_pos (by omega),if_pos (by rw [hlen];omega)];by_cases h2 : r.f2 ≤ c.f2
   ·rw [if_pos h2,if_pos h2,ih k (i + 1) p c (by omega) (by omega) (by omega) hc]
   ·rw [if_neg h2,if_neg h2,if_pos (by rw [hlen];omega)];have ht : (p ++ [c]).take (p.length : Int).toNat = p:=by simp
    rw [ht,if_pos (by omega),ih k (i + 1) p ⟨r.f0,c.f1,r.f2⟩ (by omega) (by omega) (by omega) ⟨okr.1,hc.2.1,okr.2.2⟩]
theorem merged_is (l : List S67) (hl : l.length ≤ 1000000) (ok : ∀ z ∈ l,Ok_Run z) (k : Nat) (hk : 2 * l.length < k) : know_merged.f k l = some (fin (mergeL l)):=by
 have h1 : slices_Clone_Run.f l = some l:=by unfold slices_Clone_Run.f;rw [if_pos (by omega)]
 have h2 : slices_SortFunc_Run.f l = some (sortR l):=by unfold slices_SortFunc_Run.f sortR;rw [if_pos (by omega)]
 have hp:=(sortR_spec l).1;have hln:=hp.length_eq;have ok' : ∀ z ∈ sortR l,Ok_Run z:=fun z hz=>ok z (hp.mem_iff.1 hz)
 unfold know_merged.f;rw [h1];simp only [zW];rw [h2];simp only [zW];rw [← hln];unfold mergeL;cases hs : sortR l with
 | nil =>
  obtain ⟨k,rfl⟩ : ∃ m,k = m + 1:=⟨k - 1,by omega⟩
  rfl
 | cons c m =>
  rw [hs] at hln ok';obtain ⟨k,rfl⟩ : ∃ m,k = m + 1 + 1:=⟨k - 2,by simp at hln;omega⟩
  have hf:=merged_from (c :: m) (by omega) ok' m.length k 1 [] c (by simp;omega) (by simp at hln;omega) (by simp) (ok' c (by simp));simp only [know_merged.l0,know_merged.j1];have hw : wrap64 ((([] : List S67).length : Int) - 1) = -1:=by simp [wrap64]
  rw [hw];rw [if_pos (by simp),if_pos (by decide),if_pos (by simp),if_neg (by decide),if_neg (by decide),if_pos (by decide)];have e0 : rd_T67 (c :: m) 0 = c:=rfl;have e1 : wrap64 (0 + 1) = ((1 : Nat) : Int):=by simp [wrap64]
  rw [e0,e1,List.nil_append];simpa using hf
def addR (r n : Int) (l : List S67) : List S67:=mergeL (l ++ [⟨r,n,n⟩])
theorem AddK_is (l : List S67) (hl : l.length ≤ 400000) (ok : ∀ z ∈ l,Ok_Run z) (r n : Int) (hr : In8 r) (hn : In32 n) (k : Nat) (hk : 2 * l.length + 4 < k) :
 know_Add.f k l r n = some (if (rightK l && runB ⟨r,n,n⟩) = true then fin (addR r n l) else ([],some 9)):=by
 obtain ⟨k,rfl⟩ : ∃ m,k = m + 1:=⟨k - 1,by omega⟩
 unfold know_Add.f;rw [RightK_is l (by omega) ok (k + 1) (by omega),show know_run.f r n n = some (runB ⟨r,n,n⟩) from run_is ⟨r,n,n⟩];simp only [zW];cases rightK l with
 | false=>simp [know_Add.j0]
 | true =>
  cases runB ⟨r,n,n⟩ with
  | false=>simp [know_Add.j0]
  | true =>
   have h1 : slices_Clone_Run.f l = some l:=by unfold slices_Clone_Run.f;rw [if_pos (by omega)]
   simp only [if_true,Bool.not_true,know_Add.j0,yC,if_false,h1,zW,Bool.and_self];rw [if_pos (by simp;omega),merged_is (l ++ [(⟨r,n,n⟩ : S67)]) (by simp;omega) (fun z hz=>by
    rcases List.mem_append.1 hz with hz | hz
    ·exact ok z hz
    ·obtain rfl:=List.mem_singleton.1 hz;exact ⟨hr,hn,hn⟩) k (by simp;omega)]
   rfl
theorem UnionK_is (a b : List S67) (ha : a.length ≤ 400000) (hb : b.length ≤ 400000) (oa : ∀ z ∈ a,Ok_Run z) (ob : ∀ z ∈ b,Ok_Run z) (k : Nat) (hk : 2 * (a.length + b.length) + 4 < k) :
 know_Union.f k a b = some (if (rightK a && rightK b) = true then fin (mergeL (a ++ b)) else ([],some 9)):=by
 unfold know_Union.f;rw [RightK_is a (by omega) oa k (by omega),RightK_is b (by omega) ob k (by omega)];simp only [zW];cases rightK a with
 | false=>simp
 | true =>
  cases rightK b with
  | false=>simp
  | true =>
   simp only [if_true,Bool.and_self];rw [if_pos ha,if_pos hb];exact merged_is (a ++ b) (by simp;omega) (fun z hz=>by
    rcases List.mem_append.1 hz with hz | hz
    ·exact oa z hz
    ·exact ob z hz) k (by simp;omega)
theorem canon_ok {l : List S67} (h : Canon l) (hb : ∀ r n,Mem l r n → In8 r ∧ In32 n) : ∀ z ∈ l,Ok_Run z:=by
 intro z hz;have hr:=(runB_iff z).1 (h.1 z hz);have h1:=hb z.f0 z.f1 ⟨z,hz,rfl,by omega,by omega⟩;have h2:=hb z.f0 z.f2 ⟨z,hz,rfl,by omega,by omega⟩;exact ⟨h1.1,h1.2,h2.2⟩
theorem mem_ok {l : List S67} (ok : ∀ z ∈ l,Ok_Run z) (r n : Int) (h : Mem l r n) : In8 r ∧ In32 n:=by
 obtain ⟨z,hz,rfl,h1,h2⟩:=h;obtain ⟨k0,k1,k2⟩:=ok z hz;refine ⟨k0,?_⟩;unfold In32 at *;omega
def hasB (l : List S67) (r m : Int) : Bool:=rightK l && l.any (inRun r m)
def addF (r n : Int) (l : List S67) : List S67 × Option Int:=if (rightK l && runB ⟨r,n,n⟩) = true then fin (addR r n l) else ([],some 9)
def unionF (a b : List S67) : List S67 × Option Int:=if (rightK a && rightK b) = true then fin (mergeL (a ++ b)) else ([],some 9)
theorem fin_length (l : List S67) : (fin l).1.length ≤ 64:=by
 unfold fin;split
 ·simp
 ·show l.length ≤ 64;omega
theorem fin_snd (l : List S67) (h : (fin l).2.isNone = true) : fin l = (l,none) ∧ l.length ≤ 64:=by
 unfold fin at h ⊢;split at h
 ·cases h
 ·rename_i hn;rw [if_neg hn];exact ⟨rfl,by omega⟩
theorem addR_spec (r n : Int) (l : List S67) (h : Canon l) (h1 : runB ⟨r,n,n⟩ = true) : Canon (addR r n l) ∧ ∀ a b,Mem (addR r n l) a b ↔ Mem l a b ∨ (a = r ∧ b = n):=by
 obtain ⟨k1,k2⟩:=mergeL_spec (l ++ [⟨r,n,n⟩]) (fun x hx=>by
  rcases List.mem_append.1 hx with hx | hx
  ·exact h.1 x hx
  ·obtain rfl:=List.mem_singleton.1 hx;exact h1)
 refine ⟨k1,fun a b=>?_⟩;unfold addR;rw [k2,Mem_append,Mem_cons];simp only [Mem_nil,or_false];constructor
 ·rintro (h | h)
  ·exact .inl h
  ·exact .inr (by omega)
 ·rintro (h | h)
  ·exact .inl h
  ·exact .inr (by omega)
theorem wrap64_nat (n : Nat) (h : n ≤ 4611686018427387904) : wrap64 ((n : Int) + 1) = ((n + 1 : Nat) : Int):=by unfold wrap64;omega
theorem wrap64_nat_pred (n : Nat) (h0 : 0 < n) (h : n ≤ 4611686018427387904) : wrap64 ((n : Int) - 1) = ((n - 1 : Nat) : Int):=by unfold wrap64;omega
theorem rd_nat (l : List S62) (i : Nat) : rd_T62 l (i : Int) = l.getD i z62:=rfl
theorem beqd (a b : Int) : (a == b) = decide (a = b):=rfl
theorem getD_mem {α : Type} (l : List α) (i : Nat) (z : α) (h : i < l.length) : l.getD i z ∈ l:=by
 rw [yG,zO h];exact List.getElem_mem h
def rv (v : S60) : Bool:=decide (v.f0 < 8) && (decide (1 ≤ v.f1) && decide (1 ≤ v.f2))
theorem RightVer_is (v : S60) : item_RightVer.f v.f0 v.f1 v.f2 = some (rv v):=by
 unfold item_RightVer.f rv;by_cases h1 : v.f0 < 8<;>by_cases h2 : v.f1 ≥ 1<;>simp [h1,h2]
 all_goals (try simp [show (1 : Int) ≤ v.f1 from h2])
 all_goals omega
theorem RightVer_is' (v : S60) : tidingsref02_RightVer.f v.f0 v.f1 v.f2 = some (rv v):=by
 unfold tidingsref02_RightVer.f rv;by_cases h1 : v.f0 < 8<;>by_cases h2 : v.f1 > 0
 ·have h3 : (1 : Int) ≤ v.f1:=by omega
  simp [h1,h2,h3];omega
 ·have h3 : ¬ (1 : Int) ≤ v.f1:=by omega
  simp [h1,h2,h3]
 ·simp [h1]
 ·simp [h1]
def rightE (x : S62) : Bool:=rv x.f1 && (decide (x.f0 < 64) && (if x.f2 = 1 then decide (x.f3 = x.f4 % 8) else if x.f2 = 2 then decide (x.f3 < 8) && decide (x.f4 = 0) else decide (x.f2 = 3) && (decide (x.f3 = 0) && decide (x.f4 = 0))))
theorem entry_is (x : S62) (h : Ok_Entry x) : item_entry.f x.f0 x.f1.f0 x.f1.f1 x.f1.f2 x.f2 x.f3 x.f4 = some (rightE x):=by
 obtain ⟨h0,h1,h2,h3,h4⟩:=h;unfold In8 at h0 h3;unfold In32 at h4;have e1 : x.f3 % 4294967296 = x.f3:=by omega
 have e2 : Int.tmod x.f4 8 = x.f4 % 8:=Int.tmod_eq_emod_of_nonneg (by omega);unfold item_entry.f rightE;rw [e1,e2,RightVer_is];clear e1 e2;simp only [zW];cases rv x.f1
 ·simp only [Bool.false_and,yC,if_false];repeat' split
  all_goals rfl
 ·simp only [Bool.true_and,if_true]
  repeat' split
  all_goals first | (simp;omega) | (simp_all;done) | (simp_all;omega)
theorem RightEntry_is (k : Nat) (x : S62) (h : Ok_Entry x) : tidingsref02_RightEntry.f (k + 1) x.f0 x.f1.f0 x.f1.f1 x.f1.f2 x.f2 x.f3 x.f4 = some (rightE x):=by
 obtain ⟨h0,h1,h2,h3,h4⟩:=h;unfold In8 at h0 h3;unfold In32 at h4;have e1 : x.f3 % 4294967296 = x.f3:=by omega
 have e2 : Int.tmod x.f4 8 = x.f4 % 8:=Int.tmod_eq_emod_of_nonneg (by omega);unfold tidingsref02_RightEntry.f rightE;rw [RightVer_is'];simp only [zW,tidingsref02_RightEntry.j0];rw [e1,e2];clear e1 e2;cases rv x.f1
 ·simp
 ·simp only [Bool.true_and,if_true];by_cases hi : x.f0 ≥ 64
  ·have hi2 : ¬ x.f0 < 64:=by omega
   simp [hi,hi2]
  ·have hi2 : x.f0 < 64:=by omega
   simp only [zF hi,zE hi2,yC,if_false,Bool.true_and,beqd]
   repeat' split
   all_goals first | (simp;done) | (simp_all;done) | (simp;omega) | (simp_all;omega)
def okB (l : List S62) (i : Nat) : Bool:=rightE (l.getD i z62) && (decide (i = 0) || decide ((l.getD (i - 1) z62).f0 < (l.getD i z62).f0))
def okFrom (l : List S62) : Nat → Nat → Bool
 | 0,_=>true
 | d + 1,i=>okB l i && okFrom l d (i + 1)
theorem okFrom_iff (l : List S62) : ∀ d i,okFrom l d i = true ↔ ∀ j,i ≤ j → j < i + d → okB l j = true
 | 0,i=>by simp [okFrom];intro j h1 h2;omega
 | d + 1,i=>by
  simp only [okFrom,zZ,okFrom_iff l d (i + 1)];constructor
  ·rintro ⟨h1,h2⟩ j hj hk;rcases Nat.eq_or_lt_of_le hj with e | e
   ·rw [← e];exact h1
   ·exact h2 j e (by omega)
  ·intro h;exact ⟨h i (zM _) (by omega),fun j hj hk=>h j (by omega) (by omega)⟩
def rightL (l : List S62) : Bool:=okFrom l l.length 0
theorem rightL_iff (l : List S62) : rightL l = true ↔ ∀ j,j < l.length → okB l j = true:=by
 unfold rightL;rw [okFrom_iff];exact ⟨fun h j hj=>h j (Nat.zero_le _) (by omega),fun h j _ hj=>h j (by omega)⟩
theorem item_Right_from (l : List S62) (hl : l.length ≤ 4611686018427387904) (ok : ∀ z ∈ l,Ok_Entry z) : ∀ d k i : Nat,i + d = l.length → d < k → item_Right.l0 k l l (l.length : Int) (i : Int) = some (okFrom l d i):=by
 intro d
 induction d with
 | zero =>
  intro k i hi hk;obtain ⟨k,rfl⟩ : ∃ m,k = m + 1:=⟨k - 1,by omega⟩
  simp only [item_Right.l0,okFrom];rw [if_neg (by omega)]
 | succ d ih =>
  intro k i hi hk;obtain ⟨k,rfl⟩ : ∃ m,k = m + 1:=⟨k - 1,by omega⟩
  simp only [item_Right.l0,okFrom];rw [if_pos (by omega),if_pos (by omega),if_pos (by omega),rd_nat,entry_is _ (ok _ (getD_mem l i _ (by omega)))];simp only [zW];have e:=ih k (i + 1) (by omega) (by omega);unfold okB;cases rightE (l.getD i z62) with
  | false=>simp
  | true =>
   simp only [if_true,Bool.true_and];rw [wrap64_nat i (by omega),e];by_cases h0 : i = 0
   ·subst h0;simp
   ·rw [if_pos (by omega),wrap64_nat_pred i (by omega) (by omega),if_pos (by omega),if_pos (by omega),rd_nat];by_cases hlt : (l.getD (i - 1) z62).f0 ≥ (l.getD i z62).f0
    ·rw [if_pos hlt];have : ¬ (l.getD (i - 1) z62).f0 < (l.getD i z62).f0:=by omega
     rw [zF h0,zF this];rfl
    ·rw [if_neg hlt];have : (l.getD (i - 1) z62).f0 < (l.getD i z62).f0:=by omega
     rw [zF h0,zE this];rfl
theorem Right_is (l : List S62) (hl : l.length ≤ 4611686018427387904) (ok : ∀ z ∈ l,Ok_Entry z) (k : Nat) (hk : l.length < k) : item_Right.f k l = some (rightL l):=item_Right_from l hl ok l.length k 0 (by omega) hk
theorem ref_Right_from (l : List S62) (hl : l.length ≤ 4611686018427387904) (ok : ∀ z ∈ l,Ok_Entry z) : ∀ d k i : Nat,i + d = l.length → d + 1 < k → tidingsref02_Right.l0 k l (i : Int) = some (okFrom l d i):=by
 intro d
 induction d with
 | zero =>
  intro k i hi hk;obtain ⟨k,rfl⟩ : ∃ m,k = m + 1:=⟨k - 1,by omega⟩
  simp only [tidingsref02_Right.l0,okFrom];rw [if_neg (by omega)]
 | succ d ih =>
  intro k i hi hk;obtain ⟨k,rfl⟩ : ∃ m,k = m + 1 + 1:=⟨k - 2,by omega⟩
  simp only [tidingsref02_Right.l0,okFrom];rw [if_pos (by omega),if_pos (by omega),rd_nat,RightEntry_is k _ (ok _ (getD_mem l i _ (by omega)))];simp only [zW];have e:=ih (k + 1) (i + 1) (by omega) (by omega);simp only [tidingsref02_Right.l0] at e;unfold okB;cases rightE (l.getD i z62) with
  | false=>simp
  | true =>
   simp only [if_true,Bool.true_and];rw [wrap64_nat i (by omega),e];by_cases h0 : i = 0
   ·subst h0;simp
   ·rw [if_pos (by omega),wrap64_nat_pred i (by omega) (by omega),if_pos (by omega),if_pos (by omega),rd_nat];by_cases hlt : (l.getD (i - 1) z62).f0 ≥ (l.getD i z62).f0
    ·rw [if_pos hlt];have : ¬ (l.getD (i - 1) z62).f0 < (l.getD i z62).f0:=by omega
     rw [zF h0,zF this];rfl
    ·rw [if_neg hlt];have : (l.getD (i - 1) z62).f0 < (l.getD i z62).f0:=by omega
     rw [zF h0,zE this];rfl
theorem Right_is' (l : List S62) (hl : l.length ≤ 4611686018427387904) (ok : ∀ z ∈ l,Ok_Entry z) (k : Nat) (hk : l.length + 1 < k) : tidingsref02_Right.f k l = some (rightL l):=ref_Right_from l hl ok l.length k 0 (by omega) hk
def inE (x : S62) (f : Int) : Bool:=if x.f2 = 3 then true else decide (f / 2 ^ x.f3.toNat % 2 = 1)
theorem in_bits : ∀ n : Fin 256,∀ c : Fin 8,(Go.bits .and .u8 (shr .u8 (n.val : Int) (c.val : Int)) 1 == 1) = decide ((n.val : Int) / 2 ^ c.val % 2 = 1):=by decide +kernel
theorem In_is (x : S62) (h : Ok_Entry x) (f : Int) (hf : In8 f) : item_In.f x.f0 x.f1.f0 x.f1.f1 x.f1.f2 x.f2 x.f3 x.f4 f = some (inE x f):=by
 obtain ⟨h0,h1,h2,h3,h4⟩:=h;unfold In8 at h3 hf;unfold item_In.f inE;by_cases hk : x.f2 = 3
 ·rw [if_pos hk,if_pos hk]
 ·rw [if_neg hk,if_neg hk];by_cases hc : x.f3 < 8
  ·rw [if_pos hc,if_pos (by omega)];obtain ⟨n,rfl⟩:=Int.eq_ofNat_of_zero_le hf.1;obtain ⟨c,hc0⟩:=Int.eq_ofNat_of_zero_le h3.1;rw [hc0] at hc ⊢;have:=in_bits ⟨n,by omega⟩ ⟨c,by omega⟩;rw [Int.toNat_natCast,this]
  ·rw [if_neg hc];have hp : (256 : Int) ≤ 2 ^ x.f3.toNat:=by
    have : (2 : Nat) ^ 8 ≤ 2 ^ x.f3.toNat:=Nat.pow_le_pow_right (by decide) (by omega);have h2 : ((2 : Nat) ^ x.f3.toNat : Nat) = ((2 : Int) ^ x.f3.toNat):=by simp
    rw [← h2];omega
   have : f / 2 ^ x.f3.toNat = 0:=Int.ediv_eq_zero_of_lt hf.1 (by omega);rw [this];rfl
theorem ref_In_from (x : S62) (h3 : In8 x.f3) : ∀ d k i : Nat,(i : Int) + d = x.f3 → d < k → ∀ f : Int,In8 f →
 tidingsref02_In.l0 k f (i : Int) x.f0 x.f1.f0 x.f1.f1 x.f1.f2 x.f2 x.f3 x.f4 = some (decide (f / 2 ^ d % 2 = 1)):=by
 unfold In8 at h3;have ew : wrap64 x.f3 = x.f3:=by unfold wrap64;omega
 intro d
 induction d with
 | zero =>
  intro k i hi hk f hf;obtain ⟨k,rfl⟩ : ∃ m,k = m + 1:=⟨k - 1,by omega⟩
  simp only [tidingsref02_In.l0];rw [ew,if_neg (by omega),Int.tmod_eq_emod_of_nonneg hf.1,beqd,Int.pow_zero,Int.ediv_one]
 | succ d ih =>
  intro k i hi hk f hf;obtain ⟨k,rfl⟩ : ∃ m,k = m + 1:=⟨k - 1,by omega⟩
  unfold In8 at hf;simp only [tidingsref02_In.l0];have e1 : wrap64 (Int.tdiv f 2) = f / 2:=by rw [Int.tdiv_eq_ediv_of_nonneg hf.1];unfold wrap64;omega
  rw [ew,if_pos (by omega),e1,wrap64_nat i (by omega),ih k (i + 1) (by omega) (by omega) (f / 2) (by unfold In8;omega)];rw [Int.ediv_ediv_of_nonneg (by omega),Int.pow_succ,Int.mul_comm]
theorem In_is' (x : S62) (h : Ok_Entry x) (f : Int) (hf : In8 f) (k : Nat) (hk : 256 ≤ k) : tidingsref02_In.f k x.f0 x.f1.f0 x.f1.f1 x.f1.f2 x.f2 x.f3 x.f4 f = some (inE x f):=by
 obtain ⟨h0,h1,h2,h3,h4⟩:=h;unfold tidingsref02_In.f inE;by_cases hc : x.f2 = 3
 ·rw [if_pos hc,if_pos hc]
 ·rw [if_neg hc,if_neg hc];have e : wrap64 f = f:=by unfold In8 at hf;unfold wrap64;omega
  have h3':=h3;unfold In8 at h3';rw [e];exact ref_In_from x h3 x.f3.toNat k 0 (by omega) (by omega) f hf
def fadeE (x : S62) : S62:=if x.f2 = 1 then ⟨x.f0,x.f1,2,x.f3,0⟩ else x
theorem Fade_is (x : S62) : item_Fade.f x.f0 x.f1.f0 x.f1.f1 x.f1.f2 x.f2 x.f3 x.f4 = some ((fadeE x).f0,(fadeE x).f1.f0,(fadeE x).f1.f1,(fadeE x).f1.f2,(fadeE x).f2,(fadeE x).f3,(fadeE x).f4):=by
 unfold item_Fade.f fadeE;split<;>rfl
theorem Or3_any (k : Nat) (hk : 4 ≤ k) (a b c : Int) : cmp_Or_int.f k [a,b,c] = some (if a = 0 then if b = 0 then c else b else a):=by
 obtain ⟨k,rfl⟩ : ∃ m,k = m + 4:=⟨k - 4,by omega⟩
 by_cases ha : a = 0
 ·by_cases hb : b = 0
  ·by_cases hc : c = 0
   ·simp [cmp_Or_int.f,cmp_Or_int.l0,rd,wrap64,ha,hb,hc]
   ·simp [cmp_Or_int.f,cmp_Or_int.l0,rd,wrap64,ha,hb,hc]
  ·simp [cmp_Or_int.f,cmp_Or_int.l0,rd,wrap64,ha,hb]
 ·simp [cmp_Or_int.f,cmp_Or_int.l0,rd,ha]
theorem Cmp_any (k : Nat) (hk : 4 ≤ k) (a b : S60) : item_Cmp.f k a.f0 a.f1 a.f2 b.f0 b.f1 b.f2 = some (cmpV a b):=by
 unfold item_Cmp.f cmpV;rw [Compare32_is,Compare8_is,Compare32_is];simp only [zW,Or3_any k hk];unfold c3;congr 1
 repeat' split
 all_goals first | rfl | omega
end Go.Proofs.YtiminjibcafkaaaGreatDoor.X
end
