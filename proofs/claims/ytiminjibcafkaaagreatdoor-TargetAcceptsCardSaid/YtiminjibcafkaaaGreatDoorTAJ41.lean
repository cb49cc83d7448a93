/- Texts that this claim's law comes to, joined by wip/slim.py: Xpuretold, Xpuretold2, Xpuretold3. -/
import Derived.Test.YtiminjibcafkaaaGreatDoorTAX27
import Derived.Test.YtiminjibcafkaaaGreatDoorTAX26
import Derived.Test.YtiminjibcafkaaaGreatDoorTAJ40
import Derived.Test.YtiminjibcafkaaaGreatDoorTAX28
import Derived.Test.YtiminjibcafkaaaGreatDoorTAJ7
import Derived.Test.YtiminjibcafkaaaGreatDoorTAX19
import Derived.Test.YtiminjibcafkaaaGreatDoorTAX21
set_option linter.unusedSimpArgs false
set_option linter.unusedVariables false
section
namespace Go.Proofs.YtiminjibcafkaaaGreatDoor.X
open RowKit YtiminjibcafkaaaGreatDoorW.PrintWords YtiminjibcafkaaaGreatDoorW.PrintLast YtiminjibcafkaaaGreatDoorW.PrintMore
theorem u64_id (n : Int) (h : 0 ≤ n ∧ n ≤ 18446744073709551615) : IntKind.u64.wrap n = n:=by
 have h2 : IntKind.u64.wrap n = n % 18446744073709551616:=by simp [IntKind.wrap,IntKind.signed,IntKind.bits]
 rw [h2];omega
theorem w64_id (n : Int) (h : -9223372036854775808 ≤ n ∧ n ≤ 9223372036854775807) : wrap64 n = n:=by unfold wrap64;omega
theorem in01_from (l : List S67) (hl : l.length ≤ 1000000) (ok : ∀ z ∈ l,Ok_Run z) (r m : Int) : ∀ d k i : Nat,i + d = l.length → d < k → tidingsref01_in.l0 k l r m (i : Int) = some ((l.drop i).any (inRun r m)):=by
 intro d
 induction d with
 | zero =>
  intro k i hi hk;obtain ⟨k,rfl⟩ : ∃ q,k = q + 1:=⟨k - 1,by omega⟩
  simp only [tidingsref01_in.l0];rw [if_neg (by omega),List.drop_of_length_le (by omega)];rfl
 | succ d ih =>
  intro k i hi hk;obtain ⟨k,rfl⟩ : ∃ q,k = q + 1:=⟨k - 1,by omega⟩
  obtain ⟨o0,o1,o2⟩:=ok _ (getDR l i (by omega));unfold In32 at o1 o2;simp only [tidingsref01_in.l0];rw [if_pos (by omega),if_pos (by omega),rdR,u64_id _ (by omega),u64_id _ (by omega),wrapN i (by omega),ih k (i + 1) (by omega) (by omega),dropR_cons l i (by omega),List.any_cons];generalize l.getD i z67 = x;unfold inRun;by_cases h0 : x.f0 = r
  ·rw [if_pos h0];by_cases h1 : m ≥ x.f1
   ·rw [if_pos h1];by_cases h2 : m ≤ x.f2
    ·rw [if_pos h2];simp [h0,h2,show x.f1 ≤ m from h1]
    ·rw [if_neg h2];simp [h2]
   ·rw [if_neg h1];simp [show ¬ x.f1 ≤ m from h1]
  ·rw [if_neg h0];simp [h0]
theorem in01_is (l : List S67) (hl : l.length ≤ 1000000) (ok : ∀ z ∈ l,Ok_Run z) (r m : Int) (k : Nat) (hk : l.length < k) : tidingsref01_in.f k l r m = some (l.any (inRun r m)) :=
 in01_from l hl ok r m l.length k 0 (by omega) hk
def putM (n : Int) : List Int → List Int
 | []=>[n]
 | x :: l=>if x < n then x :: putM n l else if x = n then x :: l else n :: x :: l
theorem putM_mem (n v : Int) : ∀ l,v ∈ putM n l ↔ v = n ∨ v ∈ l
 | []=>by simp [putM]
 | x :: l=>by
  simp only [putM];split
  ·rw [List.mem_cons,putM_mem n v l,List.mem_cons];constructor
   ·rintro (h | h | h)<;>simp [h]
   ·rintro (h | h | h)<;>simp [h]
  ·split
   ·rename_i h;rw [List.mem_cons];constructor
    ·rintro (h2 | h2)<;>simp [h2]
    ·rintro (h2 | h2 | h2)
     ·exact .inl (h2.trans h.symm)
     ·exact .inl h2
     ·exact .inr h2
   ·simp
theorem putM_rise (n : Int) : ∀ l,l.Pairwise (· < ·) → (putM n l).Pairwise (· < ·)
 | [],_=>by simp [putM]
 | x :: l,h=>by
  obtain ⟨h1,h2⟩:=List.pairwise_cons.1 h;simp only [putM];split
  ·rename_i h3;refine List.pairwise_cons.2 ⟨fun y hy=>?_,putM_rise n l h2⟩;rcases (putM_mem n y l).1 hy with rfl | hy
   ·exact h3
   ·exact h1 y hy
  ·split
   ·exact h
   ·rename_i h3 h4;refine List.pairwise_cons.2 ⟨fun y hy=>?_,h⟩;rcases List.mem_cons.1 hy with rfl | hy
    ·omega
    ·have:=h1 y hy;omega
theorem putM_length (n : Int) : ∀ l,(putM n l).length ≤ l.length + 1
 | []=>by simp [putM]
 | x :: l=>by
  simp only [putM];split
  ·have:=putM_length n l;simpa using this
  ·split<;>simp
theorem rd_nat' (l : List Int) (i : Nat) : rd l (i : Int) = l.getD i 0:=rfl
theorem drop_consI (l : List Int) (i : Nat) (h : i < l.length) : l.drop i = l.getD i 0 :: l.drop (i + 1):=by
 rw [yG,zO h];exact (List.drop_eq_getElem_cons h)
theorem take_succI (l : List Int) (i : Nat) (h : i < l.length) : l.take (i + 1) = l.take i ++ [l.getD i 0]:=by
 rw [yG,zO h,List.take_succ_eq_append_getElem h];rfl
theorem put_from (l : List Int) (hl : l.length ≤ 1000000) (n : Int) : ∀ d k i : Nat,i + d = l.length → d < k → tidingsref01_put.l0 k l n (i : Int) = some (l.take i ++ putM n (l.drop i)):=by
 intro d
 induction d with
 | zero =>
  intro k i hi hk;obtain ⟨k,rfl⟩ : ∃ q,k = q + 1:=⟨k - 1,by omega⟩
  have hi' : i = l.length:=by omega
  subst hi';simp only [tidingsref01_put.l0];rw [if_neg (by omega),if_pos (by omega),if_pos (by omega)];simp only [zW,Int.toNat_natCast,List.take_length,List.drop_length,List.nil_append,putM,List.length_nil];rw [if_pos (by omega),if_pos (by omega),if_pos (by simp;omega)];simp
 | succ d ih =>
  intro k i hi hk;obtain ⟨k,rfl⟩ : ∃ q,k = q + 1:=⟨k - 1,by omega⟩
  simp only [tidingsref01_put.l0];rw [if_pos (by omega),if_pos (by omega),rd_nat',wrapN i (by omega),drop_consI l i (by omega)];simp only [putM];by_cases h1 : l.getD i 0 < n
  ·rw [if_pos h1,if_pos h1,ih k (i + 1) (by omega) (by omega),take_succI l i (by omega)];simp
  ·rw [if_neg h1,if_neg h1];have hsame : l.take i ++ l.getD i 0 :: l.drop (i + 1) = l:=by rw [← drop_consI l i (by omega)];exact List.take_append_drop i l
   by_cases h2 : l.getD i 0 = n
   ·rw [if_pos h2,if_pos h2,hsame]
   ·rw [if_neg h2,if_neg h2,if_pos (by omega)];simp only [zW,Int.toNat_natCast,List.nil_append,List.length_nil];have e:=drop_consI l i (by omega);have e1 : (l.take i).length = i:=by rw [List.length_take];omega
    have e2 : (l.drop i).length = d + 1:=by rw [List.length_drop];omega
    rw [if_pos (by omega),if_pos (by omega),if_pos (by rw [List.length_append,e1,e2];simp;omega),e];simp
theorem put_is (l : List Int) (hl : l.length ≤ 1000000) (n : Int) (k : Nat) (hk : l.length < k) : tidingsref01_put.f k l n = some (putM n l):=by
 have:=put_from l hl n l.length k 0 (by omega) hk;unfold tidingsref01_put.f;simpa using this
def isP (l : List S67) (rep wo r m : Int) : Bool:=l.any (inRun r m) && !(decide (rep = r) && (decide (wo > 0) && decide (m = wo)))
def goT (P : Int → Bool) (r : Int) : List Int → Option Int → List S67
 | [],none=>[]
 | [],some s=>[⟨r,s,0⟩]
 | m :: ms,none=>if P m = true then goT P r ms (some m) else goT P r ms none
 | m :: ms,some s=>if P m = true then goT P r ms (some s) else ⟨r,s,m - 1⟩ :: goT P r ms none
theorem still (P : Int → Bool) (lo : Int) (ms : List Int) (hch : ∀ m,lo ≤ m → P m ≠ P (m - 1) → m ∈ ms) (hi : Int) (hms : ∀ m ∈ ms,hi ≤ m) : ∀ d : Nat,lo + d < hi + 1 → P (lo - 1 + d) = P (lo - 1)
 | 0,_=>by simp
 | d + 1,h=>by
  have ih:=still P lo ms hch hi hms d (by omega);rw [← ih];apply Classical.byContradiction;intro hne;have e : lo - 1 + ((d : Nat) : Int) = lo - 1 + ((d + 1 : Nat) : Int) - 1:=by omega
  rw [e] at hne;have:=hms _ (hch (lo - 1 + ((d + 1 : Nat) : Int)) (by omega) hne);omega
theorem still' (P : Int → Bool) (lo : Int) (ms : List Int) (hch : ∀ m,lo ≤ m → P m ≠ P (m - 1) → m ∈ ms) (hi : Int) (hms : ∀ m ∈ ms,hi ≤ m) (n : Int) (h1 : lo - 1 ≤ n) (h2 : n < hi) : P n = P (lo - 1):=by
 have:=still P lo ms hch hi hms (n - (lo - 1)).toNat (by omega);rwa [show lo - 1 + (((n - (lo - 1)).toNat : Nat) : Int) = n by omega] at this
theorem goT_spec (P : Int → Bool) (r : Int) (hr : r < 8) (N : Int) (hN : ∀ n,N ≤ n → P n = false) : ∀ (ms : List Int) (lo : Int),1 ≤ lo → ms.Pairwise (· < ·) → (∀ m ∈ ms,lo ≤ m) → (∀ m,lo ≤ m → P m ≠ P (m - 1) → m ∈ ms) →
 (P (lo - 1) = false → Canon (goT P r ms none) ∧ (∀ x ∈ goT P r ms none,x.f0 = r ∧ lo ≤ x.f1) ∧ ∀ n,lo ≤ n → (Mem (goT P r ms none) r n ↔ P n = true)) ∧
 (∀ s,1 ≤ s → s < lo → (∀ n,s ≤ n → n < lo → P n = true) → Canon (goT P r ms (some s)) ∧ (∀ x ∈ goT P r ms (some s),x.f0 = r ∧ s ≤ x.f1) ∧ ∀ n,s ≤ n → (Mem (goT P r ms (some s)) r n ↔ P n = true))
 | [],lo,h0,h1,h2,h3=>by
  refine ⟨fun hf=>⟨Canon_nil,fun x hx=>(by cases hx),fun n hn=>?_⟩,fun s hs0 hs hp=>?_⟩
  ·have:=still' P lo [] h3 (n + 1) (fun m hm=>(by cases hm)) n (by omega) (by omega);simp [goT,Mem_nil,this,hf]
  ·exfalso;have ht:=hp (lo - 1) (by omega) (by omega);have:=still' P lo [] h3 (max (N + 1) (lo + 1)) (fun m hm=>(by cases hm)) (max N lo) (by omega) (by omega);rw [ht,hN _ (by omega)] at this;cases this
 | m :: ms,lo,h0,h1,h2,h3=>by
  obtain ⟨q1,q2⟩:=List.pairwise_cons.1 h1;have hm:=h2 m (by simp);have hch : ∀ v,m + 1 ≤ v → P v ≠ P (v - 1) → v ∈ ms:=fun v hv hne=>by
   rcases List.mem_cons.1 (h3 v (by omega) hne) with rfl | h
   ·omega
   ·exact h
  obtain ⟨i1,i2⟩:=goT_spec P r hr N hN ms (m + 1) (by omega) q2 (fun v hv=>by have:=q1 v hv;omega) hch;have hbef : ∀ n,lo - 1 ≤ n → n < m → P n = P (lo - 1):=fun n hn hn2=>still' P lo (m :: ms) h3 m (fun v hv=>by
   rcases List.mem_cons.1 hv with rfl | hv
   ·omega
   ·have:=q1 v hv;omega) n hn hn2
  rw [show m + 1 - 1 = m by omega] at i1;refine ⟨fun hf=>?_,fun s hs0 hs hp=>?_⟩
  ·simp only [goT];by_cases hpm : P m = true
   ·rw [if_pos hpm];obtain ⟨k1,k2,k3⟩:=i2 m (by omega) (by omega) (fun n hn hn2=>by rw [show n = m by omega];exact hpm);refine ⟨k1,fun x hx=>⟨(k2 x hx).1,by have:=(k2 x hx).2;omega⟩,fun n hn=>?_⟩;by_cases hnm : m ≤ n
    ·exact k3 n hnm
    ·have hb:=hbef n (by omega) (by omega);rw [hb,hf];constructor
     ·rintro ⟨x,hx,_,g1,g2⟩;have:=(k2 x hx).2;omega
     ·intro h;cases h
   ·rw [if_neg hpm];obtain ⟨k1,k2,k3⟩:=i1 (by simpa using hpm);refine ⟨k1,fun x hx=>⟨(k2 x hx).1,by have:=(k2 x hx).2;omega⟩,fun n hn=>?_⟩;by_cases hnm : m + 1 ≤ n
    ·exact k3 n hnm
    ·have hb : P n = false:=by
      by_cases e : n = m
      ·rw [e];simpa using hpm
      ·rw [hbef n (by omega) (by omega),hf]
     rw [hb];constructor
     ·rintro ⟨x,hx,_,g1,g2⟩;have:=(k2 x hx).2;omega
     ·intro h;cases h
  ·have hlo:=hp (lo - 1) (by omega) (by omega);have hpre : ∀ n,s ≤ n → n < m → P n = true:=fun n hn hn2=>by
    by_cases e : n < lo
    ·exact hp n hn e
    ·rw [hbef n (by omega) hn2,hlo]
   simp only [goT];by_cases hpm : P m = true
   ·rw [if_pos hpm];exact i2 s hs0 (by omega) (fun n hn hn2=>by
     by_cases e : n = m
     ·rw [e];exact hpm
     ·exact hpre n hn (by omega))
   ·rw [if_neg hpm];obtain ⟨k1,k2,k3⟩:=i1 (by simpa using hpm);refine ⟨Canon_cons.2 ⟨(runB_iff _).2 ⟨hr,hs0,by show s ≤ m - 1;omega⟩,fun y hy=>(apartB_iff _ _).2 (.inr ⟨(k2 y hy).1.symm,by show m - 1 + 1 < y.f1;have:=(k2 y hy).2;omega⟩),k1⟩,fun x hx=>?_,fun n hn=>?_⟩
    ·rcases List.mem_cons.1 hx with rfl | hx
     ·exact ⟨rfl,Int.le_refl _⟩
     ·exact ⟨(k2 x hx).1,by have:=(k2 x hx).2;omega⟩
    ·rw [Mem_cons];show (r = r ∧ s ≤ n ∧ n ≤ m - 1) ∨ _ ↔ _;by_cases hnm : n < m
     ·rw [hpre n hn hnm];exact ⟨fun _=>rfl,fun _=>.inl ⟨rfl,hn,by omega⟩⟩
     ·by_cases e : n = m
      ·have hf : P n = false:=by rw [e];simpa using hpm
       rw [hf];constructor
       ·rintro (h | ⟨x,hx,_,g1,g2⟩)
        ·omega
        ·have:=(k2 x hx).2;omega
       ·intro h;cases h
      ·rw [← k3 n (by omega)];constructor
       ·rintro (h | h)
        ·omega
        ·exact h
       ·exact .inr
section
variable (l : List S67) (hl : l.length ≤ 1000) (ok : ∀ z ∈ l,Ok_Run z) (rep wo : Int) (hrep : In8 rep) (hwo : In32 wo)
include hl ok hrep
theorem told_l1 (out : List S67) (r : Int) : ∀ d k i : Nat,∀ M : List Int,i + d = l.length → d + 5000 < k → M.Pairwise (· < ·) → M.length ≤ 2 * i →
 ∃ M',M'.Pairwise (· < ·) ∧ (∀ v,v ∈ M' ↔ v ∈ M ∨ ∃ x ∈ l.drop i,x.f0 = r ∧ (v = x.f1 ∨ v = x.f2 + 1)) ∧ M'.length ≤ 2 * l.length ∧
  tidingsref01_told.l1 k l rep wo out r M (i : Int) = (if rep = r then tidingsref01_told.j2 (k - d - 1) l rep wo out r M' (decide (wo > 0)) else tidingsref01_told.j2 (k - d - 1) l rep wo out r M' false):=by
 have ew : wrap64 rep = rep:=w64_id _ (by unfold In8 at hrep;omega);intro d
 induction d with
 | zero =>
  intro k i M hi hk hM hML;obtain ⟨k,rfl⟩ : ∃ q,k = q + 1:=⟨k - 1,by omega⟩
  refine ⟨M,hM,fun v=>?_,by omega,?_⟩
  ·rw [List.drop_of_length_le (by omega)];simp
  ·simp only [tidingsref01_told.l1];rw [if_neg (by omega),ew];simp
 | succ d ih =>
  intro k i M hi hk hM hML;obtain ⟨k,rfl⟩ : ∃ q,k = q + 1:=⟨k - 1,by omega⟩
  obtain ⟨o0,o1,o2⟩:=ok _ (getDR l i (by omega));unfold In8 at o0;unfold In32 at o1 o2;have hd:=dropR_cons l i (by omega);simp only [tidingsref01_told.l1];rw [if_pos (by omega),if_pos (by omega),rdR,w64_id _ (by omega),wrapN i (by omega),u64_id _ (by omega),u64_id (l.getD i z67).f2 (by omega),u64_id _ (by omega)];generalize l.getD i z67 = x at *;have ek : k + 1 - (d + 1) - 1 = k - d - 1:=by omega
  rw [ek];by_cases h0 : x.f0 = r
  ·rw [if_pos h0,put_is M (by omega) x.f1 k (by omega)];simp only [zW];have l1:=putM_length x.f1 M;have l2:=putM_length (x.f2 + 1) (putM x.f1 M);rw [put_is (putM x.f1 M) (by omega) (x.f2 + 1) k (by omega)];simp only [zW];obtain ⟨M',m1,m2,m3,m4⟩:=ih k (i + 1) (putM (x.f2 + 1) (putM x.f1 M)) (by omega) (by omega) (putM_rise _ _ (putM_rise _ _ hM)) (by omega);refine ⟨M',m1,fun v=>?_,m3,m4⟩;rw [m2,putM_mem,putM_mem,hd];constructor
   ·rintro ((h | h | h) | ⟨y,hy,h⟩)
    ·exact .inr ⟨x,by simp,h0,.inr h⟩
    ·exact .inr ⟨x,by simp,h0,.inl h⟩
    ·exact .inl h
    ·exact .inr ⟨y,by simp [hy],h⟩
   ·rintro (h | ⟨y,hy,h1,h2⟩)
    ·exact .inl (.inr (.inr h))
    ·rcases List.mem_cons.1 hy with rfl | hy
     ·rcases h2 with h2 | h2
      ·exact .inl (.inr (.inl h2))
      ·exact .inl (.inl h2)
     ·exact .inr ⟨y,hy,h1,h2⟩
  ·rw [if_neg h0];obtain ⟨M',m1,m2,m3,m4⟩:=ih k (i + 1) M (by omega) (by omega) hM (by omega);refine ⟨M',m1,fun v=>?_,m3,m4⟩;rw [m2,hd];constructor
   ·rintro (h | ⟨y,hy,h⟩)
    ·exact .inl h
    ·exact .inr ⟨y,by simp [hy],h⟩
   ·rintro (h | ⟨y,hy,h1,h2⟩)
    ·exact .inl h
    ·rcases List.mem_cons.1 hy with rfl | hy
     ·exact absurd h1 h0
     ·exact .inr ⟨y,hy,h1,h2⟩
include hwo
theorem told_marks (out : List S67) (r : Int) (k : Nat) (hk : l.length + 5003 < k) :
 ∃ M,M.Pairwise (· < ·) ∧ (∀ v ∈ M,0 ≤ v ∧ v ≤ 4294967296) ∧ ((∀ x ∈ l,runB x = true) → ∀ v ∈ M,1 ≤ v) ∧ (∀ m,isP l rep wo r m ≠ isP l rep wo r (m - 1) → m ∈ M) ∧ M.length ≤ 2 * l.length + 2 ∧
  tidingsref01_told.l1 k l rep wo out r [] 0 = tidingsref01_told.l2 (k - l.length - 3) l rep wo out r M false 0:=by
 unfold In32 at hwo;obtain ⟨M,m1,m2,m3,m4⟩:=told_l1 l hl ok rep wo hrep out r l.length k 0 [] (by omega) (by omega) List.Pairwise.nil (by simp);have hany : ∀ m,(∀ x ∈ l,x.f0 = r → m ≠ x.f1 ∧ m ≠ x.f2 + 1) → l.any (inRun r m) = l.any (inRun r (m - 1)):=by
  intro m hm;rw [Bool.eq_iff_iff,any_iff,any_iff];constructor
  ·rintro ⟨x,hx,h1,h2,h3⟩;have:=hm x hx h1;exact ⟨x,hx,h1,by omega,by omega⟩
  ·rintro ⟨x,hx,h1,h2,h3⟩;have:=hm x hx h1;exact ⟨x,hx,h1,by omega,by omega⟩
 have m2' : ∀ v,v ∈ M ↔ ∃ x ∈ l,x.f0 = r ∧ (v = x.f1 ∨ v = x.f2 + 1):=fun v=>by rw [m2];simp
 have hin : ∀ v ∈ M,0 ≤ v ∧ v ≤ 4294967296:=fun v hv=>by
  obtain ⟨x,hx,_,h⟩:=(m2' v).1 hv;obtain ⟨_,o1,o2⟩:=ok x hx;unfold In32 at o1 o2;omega
 have hin1 : (∀ x ∈ l,runB x = true) → ∀ v ∈ M,1 ≤ v:=fun hb v hv=>by
  obtain ⟨x,hx,_,h⟩:=(m2' v).1 hv;have:=(runB_iff x).1 (hb x hx);omega
 have e1 : k - l.length - 1 = (k - l.length - 3) + 1 + 1:=by omega
 simp only [Int.natCast_zero,Int.ofNat_zero] at m4;by_cases hr : rep = r ∧ wo > 0
 ·obtain ⟨hr1,hr2⟩:=hr;refine ⟨putM (wo + 1) (putM wo M),putM_rise _ _ (putM_rise _ _ m1),fun v hv=>?_,fun hb v hv=>?_,fun m hm=>?_,?_,?_⟩
  ·rw [putM_mem,putM_mem] at hv;rcases hv with h | h | h
   ·omega
   ·omega
   ·exact hin v h
  ·rw [putM_mem,putM_mem] at hv;rcases hv with h | h | h
   ·omega
   ·omega
   ·exact hin1 hb v h
  ·rw [putM_mem,putM_mem];apply Classical.byContradiction;intro hn;have n1 : m ≠ wo + 1:=fun h=>hn (.inl h)
   have n2 : m ≠ wo:=fun h=>hn (.inr (.inl h))
   have n3 : m ∉ M:=fun h=>hn (.inr (.inr h))
   refine hm ?_;unfold isP;rw [hany m (fun x hx h=>⟨fun h2=>n3 ((m2' m).2 ⟨x,hx,h,.inl h2⟩),fun h2=>n3 ((m2' m).2 ⟨x,hx,h,.inr h2⟩)⟩)];rw [zF n2,zF (show ¬ m - 1 = wo by omega)]
  ·have:=putM_length (wo + 1) (putM wo M);have:=putM_length wo M;omega
  ·have l1:=putM_length wo M;rw [m4,if_pos hr1,e1];simp only [tidingsref01_told.j2];rw [if_pos (zE hr2),u64_id wo (by omega),u64_id (wo + 1) (by omega),put_is M (by omega) wo _ (by omega)];simp only [zW];rw [put_is (putM wo M) (by omega) (wo + 1) _ (by omega)];simp only [zW,tidingsref01_told.j3]
 ·refine ⟨M,m1,hin,hin1,fun m hm=>?_,by omega,?_⟩
  ·apply Classical.byContradiction;intro n3;refine hm ?_;unfold isP;rw [hany m (fun x hx h=>⟨fun h2=>n3 ((m2' m).2 ⟨x,hx,h,.inl h2⟩),fun h2=>n3 ((m2' m).2 ⟨x,hx,h,.inr h2⟩)⟩)];have hz : ∀ v : Int,(decide (rep = r) && (decide (wo > 0) && decide (v = wo))) = false:=fun v=>by
    rw [Bool.eq_false_iff];intro h;simp only [zZ,yH] at h;exact hr ⟨h.1,h.2.1⟩
   rw [hz,hz]
  ·have hj : tidingsref01_told.j2 (k - l.length - 1) l rep wo out r M false = tidingsref01_told.l2 (k - l.length - 3) l rep wo out r M false 0:=by
    rw [e1];simp only [tidingsref01_told.j2,tidingsref01_told.j3,yC,if_false]
   rw [m4];by_cases hr1 : rep = r
   ·rw [if_pos hr1,zF (fun h=>hr ⟨hr1,h⟩),hj]
   ·rw [if_neg hr1,hj]
omit hl hrep hwo in
theorem isP_lt (r m : Int) (h : isP l rep wo r m = true) : 0 ≤ m ∧ m ≤ 4294967295:=by
 unfold isP at h;rw [zZ,any_iff] at h;have:=(mem_ok ok r m h.1).2;unfold In32 at this;exact this
def opn (r : Int) : Option Int → List S67
 | none=>[]
 | some s=>[⟨r,s,0⟩]
theorem told_l2 (r : Int) (hr : 0 ≤ r ∧ r < 8) (M : List Int) (hML : M.length ≤ 2002) (hM : ∀ v ∈ M,1 ≤ v ∧ v ≤ 4294967296) : ∀ d k i : Nat,∀ (o : Option Int) (pre : List S67),i + d = M.length → 3 * d + 5000 < k → pre.length + d ≤ 100000 →
 tidingsref01_told.l2 k l rep wo (pre ++ opn r o) r M o.isSome (i : Int) = tidingsref01_told.l0 (k - 3 * d - 1) l rep wo (pre ++ goT (isP l rep wo r) r (M.drop i) o) (r + 1):=by
 have ew : wrap64 rep = rep:=w64_id _ (by unfold In8 at hrep;omega);have ewo : IntKind.u64.wrap wo = wo:=u64_id _ (by unfold In32 at hwo;omega);have er : r % 256 = r:=by omega
 have er1 : wrap64 (r + 1) = r + 1:=w64_id _ (by omega);intro d
 induction d with
 | zero =>
  intro k i o pre hi hk hp;obtain ⟨k,rfl⟩ : ∃ q,k = q + 1:=⟨k - 1,by omega⟩
  simp only [tidingsref01_told.l2];rw [if_neg (by omega),er1,List.drop_of_length_le (by omega)];cases o<;>rfl
 | succ d ih =>
  intro k i o pre hi hk hp;obtain ⟨k,rfl⟩ : ∃ q,k = q + 1 + 1 + 1:=⟨k - 3,by omega⟩
  have hm:=hM _ (show M.getD i 0 ∈ M by rw [yG,zO (by omega : i < M.length)];exact List.getElem_mem _);have hd:=drop_consI M i (by omega);have ek : k + 1 + 1 + 1 - 3 * (d + 1) - 1 = k - 3 * d - 1:=by omega
  have hj : ∀ b : Bool,b = isP l rep wo r (M.getD i 0) → tidingsref01_told.j5 (k + 1 + 1) l rep wo (pre ++ opn r o) r M o.isSome (i : Int) b = tidingsref01_told.l0 (k - 3 * d - 1) l rep wo (pre ++ goT (isP l rep wo r) r (M.drop i) o) (r + 1):=by
   intro b hb;rw [hd];simp only [tidingsref01_told.j5,tidingsref01_told.j6];rw [wrapN i (by omega)];cases b with
   | true =>
    have hlt:=isP_lt l ok rep wo r _ hb.symm;cases o with
    | none =>
     simp only [if_true,Option.isSome_none,Bool.not_false,opn,List.append_nil,goT,← hb];rw [if_pos (by omega),if_pos (by omega),if_pos (by omega),rd_nat',er,show M.getD i 0 % 4294967296 = M.getD i 0 by omega];simp only [zW];exact ih k (i + 1) (some (M.getD i 0)) pre (by omega) (by omega) (by omega)
    | some s =>
     simp only [if_true,Option.isSome_some,Bool.not_true,yC,if_false,goT,← hb];exact ih k (i + 1) (some s) pre (by omega) (by omega) (by omega)
   | false =>
    cases o with
    | none =>
     simp only [if_true,Option.isSome_none,yC,if_false,goT,← hb];exact ih k (i + 1) none pre (by omega) (by omega) (by omega)
    | some s =>
     have hlen : ((pre ++ opn r (some s)).length : Int) = ((pre.length + 1 : Nat) : Int):=by simp [opn]
     have hw : wrap64 (((pre ++ opn r (some s)).length : Int) - 1) = (pre.length : Int):=by rw [hlen];unfold wrap64;omega
     have hlast : rd_T67 (pre ++ opn r (some s)) (pre.length : Int) = ⟨r,s,0⟩:=by
      rw [rdR,yG,List.getElem?_append_right (zM _)];simp [opn]
     have hset : ∀ v : S67,(pre ++ opn r (some s)).set (pre.length : Int).toNat v = pre ++ [v]:=fun v=>by
      rw [Int.toNat_natCast,List.set_append_right _ _ (zM _)];simp [opn]
     simp only [if_true,Option.isSome_some,yC,if_false,goT,← hb];rw [hw,if_pos (by omega),if_pos (by omega),if_pos (by omega),if_pos (by rw [hlen];omega),hlast,hset,rd_nat',u64_id _ (by omega),show (M.getD i 0 - 1) % 4294967296 = M.getD i 0 - 1 by omega];have:=ih k (i + 1) none (pre ++ [⟨r,s,M.getD i 0 - 1⟩]) (by omega) (by omega) (by simp;omega);simpa [opn] using this
  simp only [tidingsref01_told.l2];rw [if_pos (by omega),if_pos (by omega),rd_nat',er,in01_is l (by omega) ok r _ _ (by omega),ew,ewo,ek];simp only [zW];cases ha : l.any (inRun r (M.getD i 0)) with
  | false =>
   simp only [yC,if_false];exact hj false (by unfold isP;rw [ha];rfl)
  | true =>
   simp only [if_true];by_cases h1 : rep = r
   ·rw [if_pos h1];by_cases h2 : wo > 0
    ·rw [if_pos h2];exact hj _ (by unfold isP;rw [ha,zE h1,zE h2];rfl)
    ·rw [if_neg h2];exact hj _ (by unfold isP;rw [ha,zF h2];simp)
   ·rw [if_neg h1];exact hj _ (by unfold isP;rw [ha,zF h1];simp)
end
def finR (l : List S67) : List S67 × Int:=if (l.length : Int) > 64 then ([],5) else (l,0)
theorem goT_length (P : Int → Bool) (r : Int) : ∀ (ms : List Int) (o : Option Int),(goT P r ms o).length ≤ ms.length + 1
 | [],none=>by simp [goT]
 | [],some s=>by simp [goT]
 | m :: ms,none=>by
  simp only [goT];split
  ·have:=goT_length P r ms (some m);simp;omega
  ·have:=goT_length P r ms none;simp;omega
 | m :: ms,some s=>by
  simp only [goT];split
  ·have:=goT_length P r ms (some s);simp;omega
  ·have:=goT_length P r ms none;simp;omega
set_option maxRecDepth 100000 in
theorem told_l0 (l : List S67) (hl : l.length ≤ 1000) (ok : ∀ z ∈ l,Ok_Run z) (hb : ∀ x ∈ l,runB x = true) (rep wo : Int) (hrep : In8 rep) (hwo : In32 wo) : ∀ d k r : Nat,∀ out : List S67,r + d = 8 → d * 8000 + 6000 < k → out.length ≤ r * 2100 → Canon out →
 (∀ a n,Mem out a n ↔ 0 ≤ a ∧ a < (r : Int) ∧ isP l rep wo a n = true) →
 ∃ L,Canon L ∧ (∀ a n,Mem L a n ↔ 0 ≤ a ∧ a < 8 ∧ isP l rep wo a n = true) ∧ tidingsref01_told.l0 k l rep wo out (r : Int) = some (finR L):=by
 intro d
 induction d with
 | zero =>
  intro k r out hr hk ho hc hm;obtain ⟨k,rfl⟩ : ∃ q,k = q + 1:=⟨k - 1,by omega⟩
  have hr8 : r = 8:=by omega
  subst hr8;refine ⟨out,hc,hm,?_⟩;simp only [tidingsref01_told.l0];rw [if_neg (by decide)];unfold finR;by_cases hq : (out.length : Int) > 64
  ·rw [if_pos hq,if_pos hq]
  ·rw [if_neg hq,if_neg hq]
 | succ d ih =>
  intro k r out hr hk ho hc hm;obtain ⟨k,rfl⟩ : ∃ q,k = q + 1:=⟨k - 1,by omega⟩
  obtain ⟨M,m1,m2,m3,m4,m5,m6⟩:=told_marks l hl ok rep wo hrep hwo out (r : Int) k (by omega);have h2:=told_l2 l hl ok rep wo hrep hwo (r : Int) (by omega) M (by omega) (fun v hv=>⟨m3 hb v hv,(m2 v hv).2⟩) M.length (k - l.length - 3) 0 none out (by omega) (by omega) (by omega);simp only [tidingsref01_told.l0];rw [if_pos (by omega),m6];simp only [opn,List.append_nil,Option.isSome_none,List.drop_zero,Int.natCast_zero,Int.ofNat_zero] at h2;rw [h2];obtain ⟨g1,_⟩:=goT_spec (isP l rep wo r) (r : Int) (by omega) 4294967296 (fun n hn=>by
   rw [Bool.eq_false_iff];intro h;have:=isP_lt l ok rep wo _ _ h;omega) M 1 (by decide) m1 (fun v hv=>m3 hb v hv) (fun m _ h=>m4 m h)
  obtain ⟨c1,c2,c3⟩:=g1 (by
   rw [Bool.eq_false_iff];intro h;unfold isP at h;rw [zZ,any_iff] at h;obtain ⟨x,hx,_,h3,_⟩:=h.1;have:=(runB_iff x).1 (hb x hx);omega)
  have hgl:=goT_length (isP l rep wo r) (r : Int) M none;have hlow : ∀ x ∈ out,0 ≤ x.f0 ∧ x.f0 < (r : Int):=fun x hx=>by
   have hx1:=(runB_iff x).1 (hc.1 x hx);have:=(hm x.f0 x.f1).1 ⟨x,hx,rfl,by omega,by omega⟩;omega
  have hk1 : r + 1 + d = 8:=by omega
  have hk2 : d * 8000 + 6000 < k - l.length - 3 - 3 * M.length - 1:=by omega
  have hk3 : (out ++ goT (isP l rep wo r) (r : Int) M none).length ≤ (r + 1) * 2100:=by rw [List.length_append,Nat.add_mul];omega
  have:=ih (k - l.length - 3 - 3 * M.length - 1) (r + 1) (out ++ goT (isP l rep wo r) r M none) hk1 hk2 hk3
   (Canon_append hc c1 (fun x hx y hy=>(apartB_iff _ _).2 (.inl (by have:=hlow x hx;have:=(c2 y hy).1;omega))))
   (fun a n=>by
    rw [Mem_append,hm];constructor
    ·rintro (⟨q1,q2,q3⟩ | hq)
     ·exact ⟨q1,by omega,q3⟩
     ·obtain ⟨x,hx,e1,e2,e3⟩:=hq;have hx2:=c2 x hx;have ea : a = (r : Int):=by omega
      subst ea;exact ⟨by omega,by omega,(c3 n (by omega)).1 ⟨x,hx,e1,e2,e3⟩⟩
    ·rintro ⟨q1,q2,q3⟩;by_cases ea : a = (r : Int)
     ·subst ea;refine .inr ((c3 n ?_).2 q3);unfold isP at q3;rw [zZ,any_iff] at q3;obtain ⟨x,hx,_,h3,_⟩:=q3.1;have:=(runB_iff x).1 (hb x hx);omega
     ·exact .inl ⟨q1,by omega,q3⟩)
  simpa using this
theorem told_is (l : List S67) (hl : l.length ≤ 1000) (ok : ∀ z ∈ l,Ok_Run z) (hb : ∀ x ∈ l,runB x = true) (rep wo : Int) (hrep : In8 rep) (hwo : In32 wo) (k : Nat) (hk : 70000 < k) :
 ∃ L,Canon L ∧ (∀ a n,Mem L a n ↔ Mem l a n ∧ ¬ (wo > 0 ∧ a = rep ∧ n = wo)) ∧ tidingsref01_told.f k l rep wo = some (finR L):=by
 have hk8 : 8 * 8000 + 6000 < k:=by omega
 have hz : ([] : List S67).length ≤ 0 * 2100:=by simp
 have hm : ∀ a n,Mem [] a n ↔ 0 ≤ a ∧ a < ((0 : Nat) : Int) ∧ isP l rep wo a n = true:=fun a n=>by
  constructor
  ·intro h;exact absurd h (Mem_nil _ _)
  ·rintro ⟨q1,q2,_⟩;exfalso;omega
 obtain ⟨L,h1,h2,h3⟩:=told_l0 l hl ok hb rep wo hrep hwo 8 k 0 [] rfl hk8 hz Canon_nil hm;refine ⟨L,h1,fun a n=>?_,?_⟩
 ·rw [h2];unfold isP;rw [zZ,any_iff];constructor
  ·rintro ⟨q1,q2,q3,q4⟩;refine ⟨q3,?_⟩;rintro ⟨p1,p2,p3⟩;simp [p1,p2,p3] at q4
  ·rintro ⟨q1,q2⟩;have q3 : 0 ≤ a ∧ a < 8:=by
    obtain ⟨x,hx,e1,_⟩:=q1;have h8:=(runB_iff x).1 (hb x hx);have hok:=(ok x hx).1;unfold In8 at hok;omega
   refine ⟨q3.1,q3.2,q1,?_⟩;rw [Bool.not_eq_true',Bool.eq_false_iff];intro hh;simp only [zZ,yH] at hh;exact q2 ⟨hh.2.1,hh.1.symm,hh.2.2⟩
 ·unfold tidingsref01_told.f;simpa using h3
theorem ref01_Right_from (l : List S67) (hl : l.length ≤ 1000000) (ok : ∀ z ∈ l,Ok_Run z) : ∀ d k i : Nat,i + d = l.length → 2 * d < k → tidingsref01_Right.l0 k l (i : Int) = some (okKFrom l d i && decide ((l.length : Int) ≤ 64)):=by
 intro d
 induction d with
 | zero =>
  intro k i hi hk;obtain ⟨k,rfl⟩ : ∃ m,k = m + 1:=⟨k - 1,by omega⟩
  simp only [tidingsref01_Right.l0,okKFrom];rw [if_neg (by omega),Bool.true_and]
 | succ d ih =>
  intro k i hi hk;obtain ⟨k,rfl⟩ : ∃ m,k = m + 1 + 1:=⟨k - 2,by omega⟩
  obtain ⟨o0,o1,o2⟩:=ok _ (getDR l i (by omega));unfold In32 at o1 o2;have e:=ih k (i + 1) (by omega) (by omega);have hj : ∀ b : Bool,b = !runB (l.getD i z67) → tidingsref01_Right.j1 (k + 1) l (i : Int) b = some (okKFrom l (d + 1) i && decide ((l.length : Int) ≤ 64)):=by
   intro b hb;simp only [tidingsref01_Right.j1,okKFrom,okK];cases hr : runB (l.getD i z67) with
   | false=>rw [hr] at hb;subst hb;simp
   | true =>
    rw [hr] at hb;subst hb;simp only [Bool.not_true,yC,if_false,Bool.true_and];rw [wrapN i (by omega),e];by_cases h0 : i = 0
    ·subst h0;simp
    ·obtain ⟨_,_,p2⟩:=ok _ (getDR l (i - 1) (by omega));unfold In32 at p2;rw [if_pos (by omega),wrapNp i (by omega) (by omega),if_pos (by omega),if_pos (by omega),if_pos (by omega),if_pos (by omega),rdR,rdR,u64_id (l.getD (i - 1) z67).f2 (by omega),u64_id _ (by omega),u64_id _ (by omega),zF h0,Bool.false_or];unfold apartB;generalize l.getD (i - 1) z67 = a at *;generalize l.getD i z67 = b at *;by_cases h1 : a.f0 > b.f0
     ·rw [if_pos h1,zF (show ¬ a.f0 < b.f0 by omega),zF (show ¬ a.f0 = b.f0 by omega)];rfl
     ·rw [if_neg h1];by_cases h2 : a.f0 = b.f0
      ·rw [if_pos h2,zE h2,zF (show ¬ a.f0 < b.f0 by omega)];by_cases h3 : a.f2 + 1 ≥ b.f1
       ·rw [if_pos h3,zF (show ¬ a.f2 + 1 < b.f1 by omega)];rfl
       ·rw [if_neg h3,zE (show a.f2 + 1 < b.f1 by omega)];rfl
      ·rw [if_neg h2,zE (show a.f0 < b.f0 by omega)];rfl
  simp only [tidingsref01_Right.l0];rw [if_pos (by omega),if_pos (by omega),rdR];by_cases h1 : (l.getD i z67).f0 ≥ 8
  ·rw [if_pos h1];exact hj true (by unfold runB;rw [zF (by omega)];rfl)
  ·rw [if_neg h1];by_cases h2 : (l.getD i z67).f1 = 0
   ·rw [if_pos h2];exact hj true (by unfold runB;rw [zF (show ¬ 1 ≤ (l.getD i z67).f1 by omega)];simp)
   ·rw [if_neg h2];refine hj _ ?_;unfold runB;rw [zE (show (l.getD i z67).f0 < 8 by omega),zE (show 1 ≤ (l.getD i z67).f1 by omega),Bool.true_and,Bool.true_and,← decide_not];exact decide_eq_decide.2 (by omega)
theorem ref01_Right_is (l : List S67) (hl : l.length ≤ 1000000) (ok : ∀ z ∈ l,Ok_Run z) (k : Nat) (hk : 2 * l.length < k) : tidingsref01_Right.f k l = some (rightK l):=ref01_Right_from l hl ok l.length k 0 (by omega) hk
theorem ref01_Has_from (l : List S67) (hl : l.length ≤ 1000000) (r m : Int) : ∀ d k i : Nat,i + d = l.length → d < k → tidingsref01_Has.l0 k l r m (i : Int) = some ((l.drop i).any (inRun r m)):=by
 intro d
 induction d with
 | zero =>
  intro k i hi hk;obtain ⟨k,rfl⟩ : ∃ q,k = q + 1:=⟨k - 1,by omega⟩
  simp only [tidingsref01_Has.l0];rw [if_neg (by omega),List.drop_of_length_le (by omega)];rfl
 | succ d ih =>
  intro k i hi hk;obtain ⟨k,rfl⟩ : ∃ q,k = q + 1:=⟨k - 1,by omega⟩
  simp only [tidingsref01_Has.l0];rw [if_pos (by omega),if_pos (by omega),rdR,wrapN i (by omega),ih k (i + 1) (by omega) (by omega),dropR_cons l i (by omega),List.any_cons];generalize l.getD i z67 = x;unfold inRun;by_cases h0 : x.f0 = r
  ·rw [if_pos h0];by_cases h1 : m ≥ x.f1
   ·rw [if_pos h1];by_cases h2 : m ≤ x.f2
    ·rw [if_pos h2];simp [h0,h2,show x.f1 ≤ m from h1]
    ·rw [if_neg h2];simp [h2]
   ·rw [if_neg h1];simp [show ¬ x.f1 ≤ m from h1]
  ·rw [if_neg h0];simp [h0]
theorem ref01_Has_is (l : List S67) (hl : l.length ≤ 1000000) (ok : ∀ z ∈ l,Ok_Run z) (r m : Int) (k : Nat) (hk : 2 * l.length < k) : tidingsref01_Has.f k l r m = some (hasB l r m):=by
 unfold tidingsref01_Has.f hasB;rw [ref01_Right_is l hl ok k hk];simp only [zW];cases rightK l with
 | false=>simp
 | true =>
  simp only [if_true,Bool.true_and];have:=ref01_Has_from l hl r m l.length k 0 (by omega) (by omega);simpa using this
def num (p : List S67 × Option Int) : List S67 × Int:=(p.1,p.2.getD 0)
theorem num_fin (l : List S67) : num (fin l) = finR l:=by
 unfold num fin finR;split<;>rfl
theorem ref01_Add_is (l : List S67) (hl : l.length ≤ 900) (ok : ∀ z ∈ l,Ok_Run z) (r n : Int) (hr : In8 r) (hn : In32 n) (k : Nat) (hk : 80000 < k) : tidingsref01_Add.f k l r n = some (num (addF r n l)):=by
 unfold tidingsref01_Add.f addF;rw [ref01_Right_is l (by omega) ok k (by omega)];simp only [zW,List.nil_append,List.length_nil];unfold In8 at hr;unfold In32 at hn;cases hR : rightK l with
 | false=>simp [num]
 | true =>
  have hc:=((rightK_iff l).1 hR).1;simp only [if_true,Bool.true_and];by_cases h8 : r ≥ 8
  ·rw [if_pos h8,if_neg (by rw [runB_iff];intro h;have:=h.1;simp only at this;omega)];rfl
  ·rw [if_neg h8];by_cases h0 : n = 0
   ·rw [if_pos h0,if_neg (by rw [runB_iff];intro h;have:=h.2.1;simp only at this;omega)];rfl
   ·have h1 : runB ⟨r,n,n⟩ = true:=(runB_iff _).2 ⟨by show r < 8;omega,by show 1 ≤ n;omega,Int.le_refl _⟩;have hb : ∀ x ∈ l ++ [(⟨r,n,n⟩ : S67)],runB x = true:=fun x hx=>by
     rcases List.mem_append.1 hx with hx | hx
     ·exact hc.1 x hx
     ·obtain rfl:=List.mem_singleton.1 hx;exact h1
    have ho : ∀ x ∈ l ++ [(⟨r,n,n⟩ : S67)],Ok_Run x:=fun x hx=>by
     rcases List.mem_append.1 hx with hx | hx
     ·exact ok x hx
     ·obtain rfl:=List.mem_singleton.1 hx;exact one_ok (by unfold In8;omega) (by unfold In32;omega)
    obtain ⟨L,c1,c2,c3⟩:=told_is (l ++ [⟨r,n,n⟩]) (by simp;omega) ho hb 0 0 (by unfold In8;omega) (by unfold In32;omega) k (by omega);obtain ⟨a1,a2⟩:=mergeL_spec _ hb;have e : L = addR r n l:=Canon_uniq _ _ c1 a1 (fun a b=>by
     rw [c2];unfold addR;rw [a2];constructor
     ·exact fun h=>h.1
     ·exact fun h=>⟨h,by rintro ⟨h,_⟩;omega⟩)
    rw [if_neg h0,if_pos (by omega),if_pos (by omega),c3,if_pos h1,e,num_fin];rfl
theorem ref01_Union_is (x y : List S67) (hx : x.length ≤ 450) (hy : y.length ≤ 450) (ox : ∀ z ∈ x,Ok_Run z) (oy : ∀ z ∈ y,Ok_Run z) (k : Nat) (hk : 80000 < k) : tidingsref01_Union.f k x y = some (num (unionF x y)):=by
 unfold tidingsref01_Union.f unionF;rw [ref01_Right_is x (by omega) ox k (by omega),ref01_Right_is y (by omega) oy k (by omega)];simp only [zW,List.nil_append,List.length_nil];cases hR : rightK x with
 | false=>simp [num]
 | true =>
  cases hR2 : rightK y with
  | false=>simp [num]
  | true =>
   have hc:=((rightK_iff x).1 hR).1;have hc2:=((rightK_iff y).1 hR2).1;simp only [if_true,Bool.and_self];have hb : ∀ z ∈ x ++ y,runB z = true:=fun z hz=>by
    rcases List.mem_append.1 hz with hz | hz
    ·exact hc.1 z hz
    ·exact hc2.1 z hz
   have ho : ∀ z ∈ x ++ y,Ok_Run z:=fun z hz=>by
    rcases List.mem_append.1 hz with hz | hz
    ·exact ox z hz
    ·exact oy z hz
   obtain ⟨L,c1,c2,c3⟩:=told_is (x ++ y) (by simp;omega) ho hb 0 0 (by unfold In8;omega) (by unfold In32;omega) k (by omega);obtain ⟨a1,a2⟩:=mergeL_spec _ hb;have e : L = mergeL (x ++ y):=Canon_uniq _ _ c1 a1 (fun a b=>by
    rw [c2,a2];constructor
    ·exact fun h=>h.1
    ·exact fun h=>⟨h,by rintro ⟨h,_⟩;omega⟩)
   rw [if_pos (by omega),if_pos (by omega),c3,e,num_fin];rfl
theorem Same01_from (a : List S67) (hl : a.length ≤ 1000000) : ∀ d k i : Nat,i + d = a.length → d < k → tidingsref01_Same.l0 k a a (i : Int) = some true:=by
 intro d
 induction d with
 | zero =>
  intro k i hi hk;obtain ⟨k,rfl⟩ : ∃ m,k = m + 1:=⟨k - 1,by omega⟩
  simp only [tidingsref01_Same.l0];rw [if_neg (by omega)]
 | succ d ih =>
  intro k i hi hk;obtain ⟨k,rfl⟩ : ∃ m,k = m + 1:=⟨k - 1,by omega⟩
  simp only [tidingsref01_Same.l0];rw [if_pos (by omega),if_pos (by omega),if_pos (by omega),rdR,wrapN i (by omega),ih k (i + 1) (by omega) (by omega)];generalize a.getD i z67 = x;simp
theorem Same01_is (a : List S67) (hl : a.length ≤ 1000000) (k : Nat) (hk : a.length < k) : tidingsref01_Same.f k a a = some true:=by
 unfold tidingsref01_Same.f;rw [if_pos rfl];exact Same01_from a hl a.length k 0 (by omega) hk
end Go.Proofs.YtiminjibcafkaaaGreatDoor.X
end
