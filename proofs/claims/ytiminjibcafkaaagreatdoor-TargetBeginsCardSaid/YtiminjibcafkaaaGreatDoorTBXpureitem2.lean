/- What the functions of layer 2 compute, in plain Lean: entries and lists that are right, filters, ghosts, and what is found. -/
import Derived.Test.YtiminjibcafkaaaGreatDoorTBJ6
import Derived.Test.YtiminjibcafkaaaGreatDoorTBJ4
import Derived.Test.YtiminjibcafkaaaGreatDoorTBX7
import Derived.Test.YtiminjibcafkaaaGreatDoorTBX19
import Derived.Test.YtiminjibcafkaaaGreatDoorTBX20
import Derived.Test.YtiminjibcafkaaaGreatDoorTBJ29
import Derived.Test.YtiminjibcafkaaaGreatDoorTBX21
import Derived.Test.YtiminjibcafkaaaGreatDoorTBJ7
import Derived.Test.YtiminjibcafkaaaGreatDoorTBJ20
import Derived.Test.YtiminjibcafkaaaGreatDoorTBXpureitem
namespace Go.Proofs.YtiminjibcafkaaaGreatDoor.X
open Go.RowKit Go.Proofs.YtiminjibcafkaaaGreatDoorW.PrintWords Go.Proofs.YtiminjibcafkaaaGreatDoorW.PrintLast Go.Proofs.YtiminjibcafkaaaGreatDoorW.PrintMore
set_option linter.unusedVariables false
set_option linter.unusedSimpArgs false
theorem wrap64_nat (n : Nat) (h : n ≤ 4611686018427387904) : wrap64 ((n : Int) + 1) = ((n + 1 : Nat) : Int):=by unfold wrap64;omega
theorem wrap64_nat_pred (n : Nat) (h0 : 0 < n) (h : n ≤ 4611686018427387904) : wrap64 ((n : Int) - 1) = ((n - 1 : Nat) : Int):=by unfold wrap64;omega
theorem rd_nat (l : List S62) (i : Nat) : rd_T62 l (i : Int) = l.getD i z62:=rfl
theorem beqd (a b : Int) : (a == b) = decide (a = b):=rfl
theorem getD_mem {α : Type} (l : List α) (i : Nat) (z : α) (h : i < l.length) : l.getD i z ∈ l:=by
 rw [List.getD_eq_getElem?_getD,List.getElem?_eq_getElem h];exact List.getElem_mem h
def rv (v : S60) : Bool:=decide (v.f0 < 8) && (decide (1 ≤ v.f1) && decide (1 ≤ v.f2))
theorem RightVer_is (v : S60) : item_RightVer.f v.f0 v.f1 v.f2 = some (rv v):=by
 unfold item_RightVer.f rv
 by_cases h1 : v.f0 < 8<;>by_cases h2 : v.f1 ≥ 1<;>simp [h1,h2]
 all_goals (try simp [show (1 : Int) ≤ v.f1 from h2])
 all_goals omega
theorem RightVer_is' (v : S60) : tidingsref02_RightVer.f v.f0 v.f1 v.f2 = some (rv v):=by
 unfold tidingsref02_RightVer.f rv
 by_cases h1 : v.f0 < 8<;>by_cases h2 : v.f1 > 0
 ·have h3 : (1 : Int) ≤ v.f1:=by omega
  simp [h1,h2,h3]
  omega
 ·have h3 : ¬ (1 : Int) ≤ v.f1:=by omega
  simp [h1,h2,h3]
 ·simp [h1]
 ·simp [h1]
/-- Is an entry right? -/
def rightE (x : S62) : Bool:=rv x.f1 && (decide (x.f0 < 64) && (if x.f2 = 1 then decide (x.f3 = x.f4 % 8) else if x.f2 = 2 then decide (x.f3 < 8) && decide (x.f4 = 0) else decide (x.f2 = 3) && (decide (x.f3 = 0) && decide (x.f4 = 0))))
theorem entry_is (x : S62) (h : Ok_Entry x) : item_entry.f x.f0 x.f1.f0 x.f1.f1 x.f1.f2 x.f2 x.f3 x.f4 = some (rightE x):=by
 obtain ⟨h0,h1,h2,h3,h4⟩:=h
 unfold In8 at h0 h3
 unfold In32 at h4
 have e1 : x.f3 % 4294967296 = x.f3:=by omega
 have e2 : Int.tmod x.f4 8 = x.f4 % 8:=Int.tmod_eq_emod_of_nonneg (by omega)
 unfold item_entry.f rightE
 rw [e1,e2,RightVer_is]
 clear e1 e2
 simp only [Option.bind_some]
 cases rv x.f1
 ·simp only [Bool.false_and,Bool.false_eq_true,if_false];repeat' split
  all_goals rfl
 ·simp only [Bool.true_and,if_true]
  repeat' split
  all_goals first | (simp;omega) | (simp_all;done) | (simp_all;omega)
theorem RightEntry_is (k : Nat) (x : S62) (h : Ok_Entry x) : tidingsref02_RightEntry.f (k + 1) x.f0 x.f1.f0 x.f1.f1 x.f1.f2 x.f2 x.f3 x.f4 = some (rightE x):=by
 obtain ⟨h0,h1,h2,h3,h4⟩:=h
 unfold In8 at h0 h3
 unfold In32 at h4
 have e1 : x.f3 % 4294967296 = x.f3:=by omega
 have e2 : Int.tmod x.f4 8 = x.f4 % 8:=Int.tmod_eq_emod_of_nonneg (by omega)
 unfold tidingsref02_RightEntry.f rightE
 rw [RightVer_is']
 simp only [Option.bind_some,tidingsref02_RightEntry.j0]
 rw [e1,e2]
 clear e1 e2
 cases rv x.f1
 ·simp
 ·simp only [Bool.true_and,if_true]
  by_cases hi : x.f0 ≥ 64
  ·have hi2 : ¬ x.f0 < 64:=by omega
   simp [hi,hi2]
  ·have hi2 : x.f0 < 64:=by omega
   simp only [decide_eq_false hi,decide_eq_true hi2,Bool.false_eq_true,if_false,Bool.true_and,beqd]
   repeat' split
   all_goals first | (simp;done) | (simp_all;done) | (simp;omega) | (simp_all;omega)
/-- Number i of a list is right, and behind the one ahead. -/
def okB (l : List S62) (i : Nat) : Bool:=rightE (l.getD i z62) && (decide (i = 0) || decide ((l.getD (i - 1) z62).f0 < (l.getD i z62).f0))
def okFrom (l : List S62) : Nat → Nat → Bool
 | 0,_=>true
 | d + 1,i=>okB l i && okFrom l d (i + 1)
theorem okFrom_iff (l : List S62) : ∀ d i,okFrom l d i = true ↔ ∀ j,i ≤ j → j < i + d → okB l j = true
 | 0,i=>by simp [okFrom];intro j h1 h2;omega
 | d + 1,i=>by
  simp only [okFrom,Bool.and_eq_true,okFrom_iff l d (i + 1)]
  constructor
  ·rintro ⟨h1,h2⟩ j hj hk
   rcases Nat.eq_or_lt_of_le hj with e | e
   ·rw [← e];exact h1
   ·exact h2 j e (by omega)
  ·intro h
   exact ⟨h i (Nat.le_refl _) (by omega),fun j hj hk=>h j (by omega) (by omega)⟩
/-- Are entries right? -/
def rightL (l : List S62) : Bool:=okFrom l l.length 0
theorem rightL_iff (l : List S62) : rightL l = true ↔ ∀ j,j < l.length → okB l j = true:=by
 unfold rightL
 rw [okFrom_iff]
 exact ⟨fun h j hj=>h j (Nat.zero_le _) (by omega),fun h j _ hj=>h j (by omega)⟩
theorem item_Right_from (l : List S62) (hl : l.length ≤ 4611686018427387904) (ok : ∀ z ∈ l,Ok_Entry z) : ∀ d k i : Nat,i + d = l.length → d < k → item_Right.l0 k l l (l.length : Int) (i : Int) = some (okFrom l d i):=by
 intro d
 induction d with
 | zero =>
  intro k i hi hk
  obtain ⟨k,rfl⟩ : ∃ m,k = m + 1:=⟨k - 1,by omega⟩
  simp only [item_Right.l0,okFrom]
  rw [if_neg (by omega)]
 | succ d ih =>
  intro k i hi hk
  obtain ⟨k,rfl⟩ : ∃ m,k = m + 1:=⟨k - 1,by omega⟩
  simp only [item_Right.l0,okFrom]
  rw [if_pos (by omega),if_pos (by omega),if_pos (by omega),rd_nat,entry_is _ (ok _ (getD_mem l i _ (by omega)))]
  simp only [Option.bind_some]
  have e:=ih k (i + 1) (by omega) (by omega)
  unfold okB
  cases rightE (l.getD i z62) with
  | false=>simp
  | true =>
   simp only [if_true,Bool.true_and]
   rw [wrap64_nat i (by omega),e]
   by_cases h0 : i = 0
   ·subst h0;simp
   ·rw [if_pos (by omega),wrap64_nat_pred i (by omega) (by omega),if_pos (by omega),if_pos (by omega),rd_nat]
    by_cases hlt : (l.getD (i - 1) z62).f0 ≥ (l.getD i z62).f0
    ·rw [if_pos hlt]
     have : ¬ (l.getD (i - 1) z62).f0 < (l.getD i z62).f0:=by omega
     rw [decide_eq_false h0,decide_eq_false this]
     rfl
    ·rw [if_neg hlt]
     have : (l.getD (i - 1) z62).f0 < (l.getD i z62).f0:=by omega
     rw [decide_eq_false h0,decide_eq_true this]
     rfl
theorem Right_is (l : List S62) (hl : l.length ≤ 4611686018427387904) (ok : ∀ z ∈ l,Ok_Entry z) (k : Nat) (hk : l.length < k) : item_Right.f k l = some (rightL l):=item_Right_from l hl ok l.length k 0 (by omega) hk
theorem ref_Right_from (l : List S62) (hl : l.length ≤ 4611686018427387904) (ok : ∀ z ∈ l,Ok_Entry z) : ∀ d k i : Nat,i + d = l.length → d + 1 < k → tidingsref02_Right.l0 k l (i : Int) = some (okFrom l d i):=by
 intro d
 induction d with
 | zero =>
  intro k i hi hk
  obtain ⟨k,rfl⟩ : ∃ m,k = m + 1:=⟨k - 1,by omega⟩
  simp only [tidingsref02_Right.l0,okFrom]
  rw [if_neg (by omega)]
 | succ d ih =>
  intro k i hi hk
  obtain ⟨k,rfl⟩ : ∃ m,k = m + 1 + 1:=⟨k - 2,by omega⟩
  simp only [tidingsref02_Right.l0,okFrom]
  rw [if_pos (by omega),if_pos (by omega),rd_nat,RightEntry_is k _ (ok _ (getD_mem l i _ (by omega)))]
  simp only [Option.bind_some]
  have e:=ih (k + 1) (i + 1) (by omega) (by omega)
  simp only [tidingsref02_Right.l0] at e
  unfold okB
  cases rightE (l.getD i z62) with
  | false=>simp
  | true =>
   simp only [if_true,Bool.true_and]
   rw [wrap64_nat i (by omega),e]
   by_cases h0 : i = 0
   ·subst h0;simp
   ·rw [if_pos (by omega),wrap64_nat_pred i (by omega) (by omega),if_pos (by omega),if_pos (by omega),rd_nat]
    by_cases hlt : (l.getD (i - 1) z62).f0 ≥ (l.getD i z62).f0
    ·rw [if_pos hlt]
     have : ¬ (l.getD (i - 1) z62).f0 < (l.getD i z62).f0:=by omega
     rw [decide_eq_false h0,decide_eq_false this]
     rfl
    ·rw [if_neg hlt]
     have : (l.getD (i - 1) z62).f0 < (l.getD i z62).f0:=by omega
     rw [decide_eq_false h0,decide_eq_true this]
     rfl
theorem Right_is' (l : List S62) (hl : l.length ≤ 4611686018427387904) (ok : ∀ z ∈ l,Ok_Entry z) (k : Nat) (hk : l.length + 1 < k) : tidingsref02_Right.f k l = some (rightL l):=ref_Right_from l hl ok l.length k 0 (by omega) hk
/-- Is an entry in a filter? -/
def inE (x : S62) (f : Int) : Bool:=if x.f2 = 3 then true else decide (f / 2 ^ x.f3.toNat % 2 = 1)
theorem in_bits : ∀ n : Fin 256,∀ c : Fin 8,(Go.bits .and .u8 (shr .u8 (n.val : Int) (c.val : Int)) 1 == 1) = decide ((n.val : Int) / 2 ^ c.val % 2 = 1):=by decide +kernel
theorem In_is (x : S62) (h : Ok_Entry x) (f : Int) (hf : In8 f) : item_In.f x.f0 x.f1.f0 x.f1.f1 x.f1.f2 x.f2 x.f3 x.f4 f = some (inE x f):=by
 obtain ⟨h0,h1,h2,h3,h4⟩:=h
 unfold In8 at h3 hf
 unfold item_In.f inE
 by_cases hk : x.f2 = 3
 ·rw [if_pos hk,if_pos hk]
 ·rw [if_neg hk,if_neg hk]
  by_cases hc : x.f3 < 8
  ·rw [if_pos hc,if_pos (by omega)]
   obtain ⟨n,rfl⟩:=Int.eq_ofNat_of_zero_le hf.1
   obtain ⟨c,hc0⟩:=Int.eq_ofNat_of_zero_le h3.1
   rw [hc0] at hc ⊢
   have:=in_bits ⟨n,by omega⟩ ⟨c,by omega⟩
   rw [Int.toNat_natCast,this]
  ·rw [if_neg hc]
   have hp : (256 : Int) ≤ 2 ^ x.f3.toNat:=by
    have : (2 : Nat) ^ 8 ≤ 2 ^ x.f3.toNat:=Nat.pow_le_pow_right (by decide) (by omega)
    have h2 : ((2 : Nat) ^ x.f3.toNat : Nat) = ((2 : Int) ^ x.f3.toNat):=by simp
    rw [← h2];omega
   have : f / 2 ^ x.f3.toNat = 0:=Int.ediv_eq_zero_of_lt hf.1 (by omega)
   rw [this]
   rfl
theorem ref_In_from (x : S62) (h3 : In8 x.f3) : ∀ d k i : Nat,(i : Int) + d = x.f3 → d < k → ∀ f : Int,In8 f →
 tidingsref02_In.l0 k f (i : Int) x.f0 x.f1.f0 x.f1.f1 x.f1.f2 x.f2 x.f3 x.f4 = some (decide (f / 2 ^ d % 2 = 1)):=by
 unfold In8 at h3
 have ew : wrap64 x.f3 = x.f3:=by unfold wrap64;omega
 intro d
 induction d with
 | zero =>
  intro k i hi hk f hf
  obtain ⟨k,rfl⟩ : ∃ m,k = m + 1:=⟨k - 1,by omega⟩
  simp only [tidingsref02_In.l0]
  rw [ew,if_neg (by omega),Int.tmod_eq_emod_of_nonneg hf.1,beqd,Int.pow_zero,Int.ediv_one]
 | succ d ih =>
  intro k i hi hk f hf
  obtain ⟨k,rfl⟩ : ∃ m,k = m + 1:=⟨k - 1,by omega⟩
  unfold In8 at hf
  simp only [tidingsref02_In.l0]
  have e1 : wrap64 (Int.tdiv f 2) = f / 2:=by rw [Int.tdiv_eq_ediv_of_nonneg hf.1];unfold wrap64;omega
  rw [ew,if_pos (by omega),e1,wrap64_nat i (by omega),ih k (i + 1) (by omega) (by omega) (f / 2) (by unfold In8;omega)]
  rw [Int.ediv_ediv_of_nonneg (by omega),Int.pow_succ,Int.mul_comm]
theorem In_is' (x : S62) (h : Ok_Entry x) (f : Int) (hf : In8 f) (k : Nat) (hk : 256 ≤ k) : tidingsref02_In.f k x.f0 x.f1.f0 x.f1.f1 x.f1.f2 x.f2 x.f3 x.f4 f = some (inE x f):=by
 obtain ⟨h0,h1,h2,h3,h4⟩:=h
 unfold tidingsref02_In.f inE
 by_cases hc : x.f2 = 3
 ·rw [if_pos hc,if_pos hc]
 ·rw [if_neg hc,if_neg hc]
  have e : wrap64 f = f:=by unfold In8 at hf;unfold wrap64;omega
  have h3':=h3
  unfold In8 at h3'
  rw [e]
  exact ref_In_from x h3 x.f3.toNat k 0 (by omega) (by omega) f hf
end Go.Proofs.YtiminjibcafkaaaGreatDoor.X
