/- A part of the proof. -/
import Derived.Test.YtiminjibcafkaaaGreatDoorTGTAJ4
import Derived.Shelf.Abstract
set_option linter.unusedSimpArgs false
set_option linter.unusedVariables false
namespace Go.Proofs.YtiminjibcafkaaaGreatDoor.X
open RowKit YtiminjibcafkaaaGreatDoorW.PrintWords YtiminjibcafkaaaGreatDoorW.PrintLast YtiminjibcafkaaaGreatDoorW.PrintMore
attribute [local go_sem] max2_int min2_int max_two min_two max_three min_three max_four min_four
def cmpI (a b : Int) : Int:=if a < b then -1 else if a > b then 1 else 0
theorem cmp_Compare_uint8.is (a b : Int) : cmp_Compare_uint8.f a b = some (cmpI a b):=by
 simp only [cmp_Compare_uint8.f,cmp_isNaN_uint8.f,cmpI,bne_self_eq_false,zW,yC,if_false];by_cases h1 : a < b
 ·simp [h1]
 ·by_cases h2 : a > b<;>simp [h1,h2]
def incB : List S62 → Bool
 | []=>true
 | x :: l=>l.all (fun y=>decide (x.f0 < y.f0)) && incB l
theorem incB_get : ∀ (l : List S62),incB l = true → ∀ i j,i < j → j < l.length → (l.getD i z62).f0 < (l.getD j z62).f0:=by
 intro l
 induction l with
 | nil=>intro _ i j _ hj;simp at hj
 | cons x l ih =>
  intro h i j hij hj;simp only [incB,zZ,List.all_eq_true,yH] at h;cases j with
  | zero=>omega
  | succ j =>
   have hj' : j < l.length:=by simpa using hj
   cases i with
   | zero =>
    have:=h.1 (l.getD j z62) (by rw [yG,zO hj'];exact List.getElem_mem hj');simpa using this
   | succ i=>simpa using ih h.2 i j (by omega) hj'
theorem countP_at {α : Type} (p : α → Bool) (z : α) : ∀ (l : List α) (i : Nat),i ≤ l.length → (∀ t,t < i → p (l.getD t z) = true) → (∀ t,i ≤ t → t < l.length → p (l.getD t z) = false) → l.countP p = i:=by
 intro l
 induction l with
 | nil=>intro i hi _ _;simp at hi;simp [hi]
 | cons x l ih =>
  intro i hi h1 h2;cases i with
  | zero =>
   rw [List.countP_eq_zero];intro y hy;obtain ⟨t,ht,rfl⟩:=List.getElem_of_mem hy;have:=h2 t (Nat.zero_le _) ht;rw [yG,zO ht] at this;simpa using this
  | succ i =>
   have hx : p x = true:=by simpa using h1 0 (by omega)
   rw [List.countP_cons_of_pos hx,ih i (by simpa using hi) (fun t ht=>by simpa using h1 (t + 1) (by omega)) (fun t h3 h4=>by simpa using h2 (t + 1) (by omega) (by simpa using h4))]
def lowB (t : Int) (l : List S62) : Nat:=l.countP fun x=>decide (x.f0 < t)
def slices_BinarySearchFunc_Entry_uint8.f (l0 : List (S62)) (a1 : Int) : Option (Int × Bool) :=
 if incB l0 = true then (if l0.length < 4611686018427387904 then some ((lowB a1 l0 : Int),decide (lowB a1 l0 < l0.length) && decide ((l0.getD (lowB a1 l0) z62).f0 = a1)) else none) else none
theorem item_Take_1.calls (x : S62) (t : Int) (W : World) :
 Calls Tryz.prog 99 #[.agg #[.int .u8 x.f0,.int .u8 x.f1.f0,.int .u32 x.f1.f1,.int .u32 x.f1.f2,.int .i64 x.f2,.int .u8 x.f3,.int .u32 x.f4],.int .u8 t] W fun e w'=>e = .returned (.int .i64 (cmpI x.f0 t)) ∧ Below W.heap.size W w':=by
 have hc:=fun W=>cmp_Compare_uint8.calls x.f0 t (cmpI x.f0 t) W (cmp_Compare_uint8.is x.f0 t)
 have hu:=Tryz.underlying62;generalize cmpI x.f0 t = r at hc ⊢;go_enter Tryz.func99,Tryz.ntmps99;go_wp2_with (go_at_call 100;refine (hc _).mono ?_;rintro e w' ⟨rfl,⟨nd,rfl⟩⟩)
 go_ret;exact ⟨rfl,pw_below_drewN ((zS _ _).alloc (zM _) _) _⟩
set_option maxHeartbeats 8000000 in
set_option maxRecDepth 100000 in
theorem slices_BinarySearchFunc_Entry_uint8.calls (A0 : Option Addr) (c0 : Nat) (l0 : List (S62)) (a1 : Int) (r1 : Int) (r2 : Bool) (w : World) (hr0 : Kd.C k62 w A0 l0.length l0) (hc0 : l0.length ≤ c0) (h : slices_BinarySearchFunc_Entry_uint8.f l0 a1 = some (r1,r2)) :
 Calls Tryz.prog 98 #[.slice A0 l0.length c0,.int .u8 a1,.func (.func 99) #[] #[]] w fun e w'=>e = .returned (.tuple #[.int .i64 r1,.bool r2]) ∧ Below w.heap.size w w':=by
 have eg : ∀ args w,(callFunc 99 args).run Tryz.prog w = .ok (.enter 99 args) w:=enters_of Tryz.func99 (by kernel_rfl) rfl;have hu:=Tryz.underlying62;unfold slices_BinarySearchFunc_Entry_uint8.f at h;by_cases hinc : incB l0 = true
 case neg=>rw [if_neg hinc] at h;cases h
 rw [if_pos hinc] at h;by_cases hsz : l0.length < 4611686018427387904
 case neg=>rw [if_neg hsz] at h;cases h
 rw [if_pos hsz] at h;simp only [Option.some.injEq,Prod.mk.injEq] at h;obtain ⟨rfl,h2⟩:=h;have M:=zA (incB_get l0 hinc);have HR:=zA hr0;clear hr0 hc0 hinc;generalize hcnt : lowB a1 l0 = cnt at h2 ⊢;have CN:=zA hcnt;have FIN:=zA h2;clear hcnt h2;go_enter Tryz.func98,Tryz.ntmps98;go_wp2;go_loopg [9,10] l0.length (fun kx s9 s10 wr=>∃ lo hi : Nat,s9 = .int .i64 lo ∧ s10 = .int .i64 hi ∧ lo ≤ hi ∧ hi ≤ l0.length ∧ hi - lo ≤ kx ∧ Aside0 (Below w.heap.size w wr) ∧
  Aside0 ((∀ t,t < lo → (l0.getD t z62).f0 < a1) ∧ (∀ t,hi ≤ t → t < l0.length → a1 ≤ (l0.getD t z62).f0)))
 case atStart=>exact ⟨0,l0.length,rfl,rfl,Nat.zero_le _,zM _,by omega,⟨zS _ _⟩,⟨⟨fun t ht=>absurd ht (Nat.not_lt_zero _),fun t h1 h2=>by omega⟩⟩⟩
 case round =>
  obtain ⟨lo,hi,rfl,rfl,hlh,hin,hg,BW,I⟩:=hrel;by_cases hlt : lo < hi
  ·have hltz : (((lo + hi) / 2 : Nat) : Int) < (l0.length : Int):=by omega
   obtain ⟨ad,rfl,h0,h1,h2,h3,h4,h5,h6⟩:=at_T62 (zL HR.out BW.out) (((lo + hi) / 2 : Nat) : Int) (by omega) hltz;have E0 : rd_T62 l0 (((lo + hi) / 2 : Nat) : Int) = l0.getD ((lo + hi) / 2) z62:=rfl;have E:=zA E0;clear E0 hltz;simp only [Int.toNat_natCast] at h0 h1 h2 h3 h4 h5 h6;generalize rd_T62 l0 (((lo + hi) / 2 : Nat) : Int) = y at h0 h1 h2 h3 h4 h5 h6 E;have hc:=item_Take_1.calls y a1;by_cases hyx : y.f0 < a1
   ·rw [show cmpI y.f0 a1 = -1 by simp [cmpI,hyx]] at hc;have Y:=zA hyx;clear hyx;go_wp2_with (go_at_fn 99;refine (hc _).mono ?_;rintro e w' ⟨rfl,hb'⟩)
    go_roundg (hi - ((lo + hi) / 2 + 1))
    case measure=>omega
    case rel =>
     refine ⟨(lo + hi) / 2 + 1,hi,by rw [show ((lo : Int) + (hi : Int)) / 2 + 1 = (((lo + hi) / 2 + 1 : Nat) : Int) by omega],rfl,by omega,hin,zM _,⟨BW.out.trans (hb'.mono BW.out.size)⟩,⟨⟨fun t ht=>?_,I.out.2⟩⟩⟩;rcases Nat.lt_or_ge t ((lo + hi) / 2) with hh | hh
     ·have:=M.out t ((lo + hi) / 2) hh (by omega);have:=Y.out;rw [E.out] at this;omega
     ·obtain rfl : t = (lo + hi) / 2:=by omega
      rw [← E.out];exact Y.out
   ·have hcv : cmpI y.f0 a1 = 0 ∨ cmpI y.f0 a1 = 1:=by simp only [cmpI,if_neg hyx];split<;>simp
    have Y:=zA hyx;clear hyx;have hcn : ¬ cmpI y.f0 a1 < 0:=by omega
    generalize cmpI y.f0 a1 = cv at hc hcn;clear hcv;go_wp2_with (go_at_fn 99;refine (hc _).mono ?_;rintro e w' ⟨rfl,hb'⟩)
    go_roundg ((lo + hi) / 2 - lo)
    case measure=>omega
    case rel =>
     refine ⟨lo,(lo + hi) / 2,rfl,by rw [show ((lo : Int) + (hi : Int)) / 2 = (((lo + hi) / 2 : Nat) : Int) by omega],by omega,by omega,zM _,⟨BW.out.trans (hb'.mono BW.out.size)⟩,⟨⟨I.out.1,fun t h3 h4=>?_⟩⟩⟩;rcases Nat.lt_or_ge ((lo + hi) / 2) t with hh | hh
     ·have:=M.out ((lo + hi) / 2) t hh h4;have:=Y.out;rw [E.out] at this;omega
     ·obtain rfl : t = (lo + hi) / 2:=by omega
      rw [← E.out];have:=Y.out;omega
  ·obtain rfl : hi = lo:=by omega
   have ecnt : cnt = hi:=by
    rw [← CN.out];exact countP_at _ z62 l0 hi hin (fun t ht=>zE (I.out.1 t ht)) (fun t h3 h4=>zF (by have:=I.out.2 t h3 h4;omega))
   subst ecnt;by_cases hn : cnt < l0.length
   ·have hltz : (cnt : Int) < (l0.length : Int):=by omega
    obtain ⟨ad,rfl,h0,h1,h2,h3,h4,h5,h6⟩:=at_T62 (zL HR.out BW.out) (cnt : Int) (by omega) hltz;have E0 : rd_T62 l0 (cnt : Int) = l0.getD cnt z62:=rfl;have E:=zA E0;clear E0;simp only [Int.toNat_natCast] at h0 h1 h2 h3 h4 h5 h6;generalize rd_T62 l0 (cnt : Int) = y at h0 h1 h2 h3 h4 h5 h6 E;have hc:=item_Take_1.calls y a1;by_cases hyx : y.f0 = a1
    ·rw [show cmpI y.f0 a1 = 0 by simp [cmpI,hyx]] at hc;have hr : r2 = true:=by rw [← FIN.out,← E.out];simp [hn,hyx]
     subst hr;clear hyx FIN;go_wp2_with (go_at_fn 99;refine (hc _).mono ?_;rintro e w' ⟨rfl,hb'⟩)
     go_ret2;exact ⟨by simp,BW.out.trans (hb'.mono BW.out.size)⟩
    ·have hr : r2 = false:=by rw [← FIN.out,← E.out];simp [hyx]
     subst hr;have hcn : (cmpI y.f0 a1 == 0) = false:=by
      simp only [cmpI];by_cases hq : y.f0 < a1
      ·simp [hq]
      ·have : y.f0 > a1:=by omega
       simp [hq,this]
     generalize cmpI y.f0 a1 = cv at hc hcn;clear hyx FIN;go_wp2_with (go_at_fn 99;refine (hc _).mono ?_;rintro e w' ⟨rfl,hb'⟩)
     go_ret2;exact ⟨by simp,BW.out.trans (hb'.mono BW.out.size)⟩
   ·have hr : r2 = false:=by rw [← FIN.out];simp [hn]
    subst hr;clear FIN;go_wp2;go_ret2;exact ⟨by simp,BW.out⟩
end Go.Proofs.YtiminjibcafkaaaGreatDoor.X
