/- A part of the proof. -/
import Derived.Test.YtiminjibcafkaaaGreatDoorTGTAJ4
import Derived.Test.YtiminjibcafkaaaGreatDoorTGTAJ5
import Derived.Test.YtiminjibcafkaaaGreatDoorTGTAJ6
import Derived.Test.YtiminjibcafkaaaGreatDoorTGTAX19
import Derived.Test.YtiminjibcafkaaaGreatDoorTGTAX20
import Derived.Test.YtiminjibcafkaaaGreatDoorTGTAX21
set_option linter.unusedSimpArgs false
set_option linter.unusedVariables false
namespace Go.Proofs.YtiminjibcafkaaaGreatDoor.X
open RowKit YtiminjibcafkaaaGreatDoorW.PrintWords YtiminjibcafkaaaGreatDoorW.PrintLast YtiminjibcafkaaaGreatDoorW.PrintMore
attribute [local go_sem] max2_int min2_int max_two min_two max_three min_three max_four min_four
def anyB {α : Type} (p : α → Bool) (z : α) (l : List α) : Nat → Nat → Bool
 | 0,_=>false
 | d + 1,i=>p (l.getD i z) || anyB p z l d (i + 1)
def bey5 (rep seq x n : Int) : Bool:=decide (x = rep) && decide (seq < n)
def twin5 (g0 g1 : Int) (x : S62) : Bool:=decide (x.f1.f0 = g0) && decide (x.f1.f1 = g1)
def tidingsref05_Right.l2 (k : Nat) (rep filter seq : Int) (kn : List S67) (l : List S62) : Nat → Nat → Option Bool
 | 0,_=>some true
 | d + 1,i=>if bey5 rep seq (l.getD i z62).f1.f0 (l.getD i z62).f1.f1 = true then some false else
  if anyB (twin5 (l.getD i z62).f1.f0 (l.getD i z62).f1.f1) z62 l i 0 = true then some false else
  (tidingsref02_In.f k (l.getD i z62).f0 (l.getD i z62).f1.f0 (l.getD i z62).f1.f1 (l.getD i z62).f1.f2 (l.getD i z62).f2 (l.getD i z62).f3 (l.getD i z62).f4 filter).bind fun c=>(tidingsref01_Has.f k kn (l.getD i z62).f1.f0 (l.getD i z62).f1.f1).bind fun b =>
  if ((decide ((l.getD i z62).f2 = 1) && !c) || (decide ((l.getD i z62).f2 ≠ 2) && !b)) = true then some false else tidingsref05_Right.l2 k rep filter seq kn l d (i + 1)
def tidingsref05_Right.f (k : Nat) (a0_0 a0_1 a0_2 a0_3 : Int) (l0_4 : List S67) (l0_5 : List S62) (a0_6 : Bool) (a0_7 a0_8 a0_9 a0_10 : Int) (l0_11 : List S67) (a0_12 : Int) : Option Bool :=
 if 7 < a0_0 then some false else
 (tidingsref01_Right.f k l0_4).bind fun b1=>if b1 = false then some false else
 (tidingsref02_Right.f k l0_5).bind fun b2=>if b2 = false then some false else
 (tidingsref05_session.f k a0_6 a0_7 a0_8 a0_9 a0_10 l0_11 a0_12 a0_0).bind fun b3=>if b3 = false then some false else
 if anyB (fun x : S67=>bey5 a0_0 a0_3 x.f0 x.f2) z67 l0_4 l0_4.length 0 = true then some false else
 if anyB (fun x : S67=>bey5 a0_0 a0_3 x.f0 x.f2) z67 l0_11 l0_11.length 0 = true then some false else
 tidingsref05_Right.l2 k a0_0 a0_1 a0_3 l0_4 l0_5 l0_5.length 0
set_option maxHeartbeats 8000000 in
set_option maxRecDepth 100000 in
theorem tidingsref05_Right.calls (k : Nat) (a0_0 : Int) (a0_1 : Int) (a0_2 : Int) (a0_3 : Int) (A0_4 : Option Addr) (c0_4 : Nat) (l0_4 : List (S67)) (A0_5 : Option Addr) (c0_5 : Nat) (l0_5 : List (S62)) (a0_6 : Bool) (a0_7 : Int) (a0_8 : Int) (a0_9 : Int) (a0_10 : Int) (A0_11 : Option Addr) (c0_11 : Nat) (l0_11 : List (S67)) (a0_12 : Int) (r : Bool) (w : World) (hr0_4 : Kd.C k67 w A0_4 l0_4.length l0_4) (hc0_4 : l0_4.length ≤ c0_4) (hr0_5 : Kd.C k62 w A0_5 l0_5.length l0_5) (hc0_5 : l0_5.length ≤ c0_5) (hr0_11 : Kd.C k67 w A0_11 l0_11.length l0_11) (hc0_11 : l0_11.length ≤ c0_11) (h : tidingsref05_Right.f k a0_0 a0_1 a0_2 a0_3 l0_4 l0_5 a0_6 a0_7 a0_8 a0_9 a0_10 l0_11 a0_12 = some r) :
 Calls Tryz.prog 23 #[.agg #[.int .u8 a0_0,.int .u8 a0_1,.int .u32 a0_2,.int .u32 a0_3,.slice A0_4 l0_4.length c0_4,.slice A0_5 l0_5.length c0_5,.bool a0_6,.int .u32 a0_7,.int .u8 a0_8,.int .u8 a0_9,.int .u32 a0_10,.slice A0_11 l0_11.length c0_11,.int .u32 a0_12]] w fun e w'=>e = .returned (.bool r) ∧ Below w.heap.size w w':=by
 have hu:=Tryz.underlying28;have hus:=Tryz.underlying26;have hue:=Tryz.underlying62;have huv:=Tryz.underlying60;have hur:=Tryz.underlying67;have HR4:=zA hr0_4;have HC4:=zA hc0_4;have HR5:=zA hr0_5;have HC5:=zA hc0_5;have HR11:=zA hr0_11;have HC11:=zA hc0_11;clear hr0_4 hr0_5 hr0_11 hc0_4 hc0_5 hc0_11;unfold tidingsref05_Right.f at h;by_cases p0 : 7 < a0_0
 ·rw [if_pos p0] at h;obtain rfl:=zH h;clear h;have p1 : decide (a0_0 > 7) = true:=zE p0;have p2 : decide (7 < a0_0) = true:=zE p0;go_enter Tryz.func23,Tryz.ntmps23;go_wp2;go_ret;exact ⟨rfl,(zS _ w).alloc (zM _) _⟩
 rw [if_neg p0] at h;have p1 : decide (a0_0 > 7) = false:=zF p0;have p2 : decide (7 < a0_0) = false:=zF p0;have H:=zA h;clear h;go_enter Tryz.func23,Tryz.ntmps23;go_wp2_with fail;generalize hW : World.alloc w _ = w0;have Br0:=zA (al1_0 hW);have HB0:=zA (al1B hW);clear hW;have GG:=zA (show w.heap.size + 1 ≤ w0.heap.size by have:=blk_lt Br0.out;omega);clear GG;have h:=H.out;clear H;have r_:=cells13 Br0.out;obtain ⟨b,hb,h⟩:=zJ.mp h;have HQ:=zA hb;have H:=zA h;clear hb h;go_wp2_with fail;refine (tidingsref01_Right.calls k _ _ l0_4 b _ (zL HR4.out HB0.out) HC4.out HQ.out).mono ?_;rintro ev w1 ⟨rfl,hx⟩;replace hx:=hx.below;have Br1:=zA (zC Br0.out hx);have HB1:=zA (zG HB0.out hx);clear r_;clear hx HQ Br0 HB0;have h:=H.out;clear H;cases b
 ·obtain rfl:=zH (show some false = some r from h);go_wp2_with fail;go_ret;exact ⟨rfl,HB1.out⟩
 rw [if_neg (by decide)] at h;have r_:=cells13 Br1.out;obtain ⟨b,hb,h⟩:=zJ.mp h;have HQ:=zA hb;have H:=zA h;clear hb h;go_wp2_with fail;refine (tidingsref02_Right.calls k _ _ l0_5 b _ (zL HR5.out HB1.out) HC5.out HQ.out).mono ?_;rintro ev w2 ⟨rfl,hx⟩;have Br2:=zA (zC Br1.out hx);have HB2:=zA (zG HB1.out hx);clear r_;clear hx HQ Br1 HB1;have h:=H.out;clear H;cases b
 ·obtain rfl:=zH (show some false = some r from h);go_wp2_with fail;go_ret;exact ⟨rfl,HB2.out⟩
 rw [if_neg (by decide)] at h;have r_:=cells13 Br2.out;obtain ⟨b,hb,h⟩:=zJ.mp h;have HQ:=zA hb;have H:=zA h;clear hb h;go_wp2_with fail;refine (tidingsref05_session.calls k a0_6 a0_7 a0_8 a0_9 a0_10 _ _ l0_11 a0_12 a0_0 b _ (zL HR11.out HB2.out) HC11.out HQ.out).mono ?_;rintro ev w3 ⟨rfl,hx⟩;have Br3:=zA (zC Br2.out hx);have HB3:=zA (zG HB2.out hx);clear r_;clear hx HQ Br2 HB2;have h:=H.out;clear H;cases b
 ·obtain rfl:=zH (show some false = some r from h);go_wp2_with fail;go_ret;exact ⟨rfl,HB3.out⟩
 rw [if_neg (by decide)] at h;have r_:=cells13 Br3.out;obtain ⟨R,hR⟩ : ∃ x,x = (if anyB (fun x : S67=>bey5 a0_0 a0_3 x.f0 x.f2) z67 l0_11 l0_11.length 0 = true then some false else tidingsref05_Right.l2 k a0_0 a0_1 a0_3 l0_4 l0_5 l0_5.length 0):=⟨_,rfl⟩
 rw [← hR] at h;have DR:=zA hR;have Ha:=zA h;clear h hR;go_wp2_with fail;clear r_;go_loopg [3] l0_4.length (fun gg ss wr=>∃ kk : Nat,kk ≤ l0_4.length ∧ l0_4.length - kk ≤ gg ∧ ss = .int .i64 kk ∧ Aside0 (Below w3.heap.size w3 wr) ∧ Aside0 ((if anyB (fun x : S67=>bey5 a0_0 a0_3 x.f0 x.f2) z67 l0_4 (l0_4.length - kk) kk = true then some false else R) = some r))
 case atStart=>exact ⟨0,Nat.zero_le _,by omega,rfl,⟨zS _ _⟩,Ha⟩
 case round =>
 obtain ⟨kk,hkk,hgg,rfl,BW,HW⟩:=hrel;clear Ha;obtain ⟨w4,hwn⟩ : ∃ x,x = wr:=⟨_,rfl⟩
 subst hwn;have Br4:=zA (zC Br3.out (BW.out));have HB4:=zA (zG HB3.out (BW.out));have hmax : l0_4.length ≤ 9223372036854775807:=HR4.out.2.1;have F:=HW.out;clear HW;have r_:=cells13 Br4.out;by_cases hlt : kk < l0_4.length
 ·have hltz : (kk : Int) < (l0_4.length : Int):=by omega
  have h0k : (0 : Int) ≤ (kk : Int):=by omega
  rw [show l0_4.length - kk = (l0_4.length - (kk + 1)) + 1 by omega] at F;obtain ⟨ax,e⟩:=run_some HR4.out hlt;subst e;have HP:=zA (fun (W : World) (hb : Below w4.heap.size w4 W)=>run_at (zL HR4.out (zG HB4.out hb)) hlt);obtain ⟨c0,hc0⟩ : ∃ x,x = bey5 a0_0 a0_3 (l0_4.getD kk z67).f0 (l0_4.getD kk z67).f2:=⟨_,rfl⟩
  replace F : (if (c0 || anyB (fun x : S67=>bey5 a0_0 a0_3 x.f0 x.f2) z67 l0_4 (l0_4.length - (kk + 1)) (kk + 1)) = true then some false else R) = some r:=by rw [hc0];exact F
  generalize l0_4.getD kk z67 = X at HP hc0;have HN:=zA F;have HC:=zA hc0;clear F hc0;go_upto_region 6 with fail;clear r_;go_cut [57] from 31 to 57 (fun s wc=>s = .bool c0 ∧ Aside0 (Below w4.heap.size w4 wc))
  case first =>
   have hc0:=HC.out;unfold bey5 at hc0;clear HN HC;by_cases e1 : X.f0 = a0_0
   ·have k1 : decide (X.f0 = a0_0) = true:=zE e1;have l1 : (X.f0 == a0_0) = true:=yB.mpr e1;clear e1;by_cases e2 : a0_3 < X.f2
    ·have k2 : decide (a0_3 < X.f2) = true:=zE e2;have l2 : decide (X.f2 > a0_3) = true:=zE e2;clear e2;refine region_qc (by kernel_rfl) (by kernel_rfl) ?_
     iterate 20 (refine @wpQuiet_step _ _ _ _ _ _ _ ?_;intro K hK;go_simp;first | (refine hK _ ?_;clear hK K) | (apply Exists.intro;refine ⟨fun w' hw0=>?_,hK _ ?_⟩;have hw':=Qc.out hw0;clear hw0;(first | (with_reducible rfl) | (have rc_:=cells13 (zC Br4.out hw');go_simp;with_reducible rfl) | (obtain ⟨p0,p1,p2⟩:=HP.out w' hw';go_simp;with_reducible rfl));clear hK K))
     refine wpQuiet_nil ?_;intro wq hq;have e0 : c0 = true:=by rw [hc0,k1,k2];rfl
     clear hc0;subst e0;go_wp2_with fail;go_meet;exact ⟨rfl,⟨hq⟩⟩
    ·have k2 : decide (a0_3 < X.f2) = false:=zF e2;have l2 : decide (X.f2 > a0_3) = false:=zF e2;clear e2;refine region_qc (by kernel_rfl) (by kernel_rfl) ?_
     iterate 20 (refine @wpQuiet_step _ _ _ _ _ _ _ ?_;intro K hK;go_simp;first | (refine hK _ ?_;clear hK K) | (apply Exists.intro;refine ⟨fun w' hw0=>?_,hK _ ?_⟩;have hw':=Qc.out hw0;clear hw0;(first | (with_reducible rfl) | (have rc_:=cells13 (zC Br4.out hw');go_simp;with_reducible rfl) | (obtain ⟨p0,p1,p2⟩:=HP.out w' hw';go_simp;with_reducible rfl));clear hK K))
     refine wpQuiet_nil ?_;intro wq hq;have e0 : c0 = false:=by rw [hc0,k1,k2];rfl
     clear hc0;subst e0;go_wp2_with fail;go_meet;exact ⟨rfl,⟨hq⟩⟩
   ·have k1 : decide (X.f0 = a0_0) = false:=zF e1;have l1 : (X.f0 == a0_0) = false:=zR.mpr e1;clear e1;refine region_qc (by kernel_rfl) (by kernel_rfl) ?_
    iterate 20 (refine @wpQuiet_step _ _ _ _ _ _ _ ?_;intro K hK;go_simp;first | (refine hK _ ?_;clear hK K) | (apply Exists.intro;refine ⟨fun w' hw0=>?_,hK _ ?_⟩;have hw':=Qc.out hw0;clear hw0;(first | (with_reducible rfl) | (have rc_:=cells13 (zC Br4.out hw');go_simp;with_reducible rfl) | (obtain ⟨p0,p1,p2⟩:=HP.out w' hw';go_simp;with_reducible rfl));clear hK K))
    refine wpQuiet_nil ?_;intro wq hq;have e0 : c0 = false:=by rw [hc0,k1];rfl
    clear hc0;subst e0;go_wp2_with fail;go_meet;exact ⟨rfl,⟨hq⟩⟩
  case rest =>
  obtain ⟨rfl,BC4⟩:=hcut;obtain ⟨w5,hwn⟩ : ∃ x,x = wc:=⟨_,rfl⟩
  subst hwn;have Br5:=zA (zC Br4.out (BC4.out));have HB5:=zA (zG HB4.out (BC4.out));clear HB4 Br4;clear HC;have F:=HN.out;clear HN;cases c0;rotate_left
  ·obtain rfl:=zH (show some false = some r from F);go_wp2_with fail;go_ret;exact ⟨rfl,HB5.out⟩
  rw [Bool.false_or] at F;have HM:=zA F;clear F;go_wp2_with fail;go_roundg (l0_4.length - (kk + 1))
  case measure=>omega
  case rel=>exact ⟨kk + 1,by omega,zM _,by go_num,⟨zG BW.out BC4.out⟩,HM⟩
 have hltz : ¬ (kk : Int) < (l0_4.length : Int):=by omega
 rw [show l0_4.length - kk = 0 by omega] at F;replace F : R = some r:=F;rw [DR.out] at F;have h:=F;clear F DR BW HB3 Br3;obtain ⟨R,hR⟩ : ∃ x,x = (tidingsref05_Right.l2 k a0_0 a0_1 a0_3 l0_4 l0_5 l0_5.length 0):=⟨_,rfl⟩
 rw [← hR] at h;have DR:=zA hR;have Ha:=zA h;clear h hR;go_wp2_with fail;clear r_;go_loopg [4] l0_11.length (fun gg ss wr=>∃ kk : Nat,kk ≤ l0_11.length ∧ l0_11.length - kk ≤ gg ∧ ss = .int .i64 kk ∧ Aside0 (Below w4.heap.size w4 wr) ∧ Aside0 ((if anyB (fun x : S67=>bey5 a0_0 a0_3 x.f0 x.f2) z67 l0_11 (l0_11.length - kk) kk = true then some false else R) = some r))
 case atStart=>exact ⟨0,Nat.zero_le _,by omega,rfl,⟨zS _ _⟩,Ha⟩
 case round =>
 obtain ⟨kk,hkk,hgg,rfl,BW,HW⟩:=hrel;clear Ha;obtain ⟨w5,hwn⟩ : ∃ x,x = wr:=⟨_,rfl⟩
 subst hwn;have Br5:=zA (zC Br4.out (BW.out));have HB5:=zA (zG HB4.out (BW.out));have hmax : l0_11.length ≤ 9223372036854775807:=HR11.out.2.1;have F:=HW.out;clear HW;have r_:=cells13 Br5.out;by_cases hlt : kk < l0_11.length
 ·have hltz : (kk : Int) < (l0_11.length : Int):=by omega
  have h0k : (0 : Int) ≤ (kk : Int):=by omega
  rw [show l0_11.length - kk = (l0_11.length - (kk + 1)) + 1 by omega] at F;obtain ⟨ax,e⟩:=run_some HR11.out hlt;subst e;have HP:=zA (fun (W : World) (hb : Below w5.heap.size w5 W)=>run_at (zL HR11.out (zG HB5.out hb)) hlt);obtain ⟨c0,hc0⟩ : ∃ x,x = bey5 a0_0 a0_3 (l0_11.getD kk z67).f0 (l0_11.getD kk z67).f2:=⟨_,rfl⟩
  replace F : (if (c0 || anyB (fun x : S67=>bey5 a0_0 a0_3 x.f0 x.f2) z67 l0_11 (l0_11.length - (kk + 1)) (kk + 1)) = true then some false else R) = some r:=by rw [hc0];exact F
  generalize l0_11.getD kk z67 = X at HP hc0;have HN:=zA F;have HC:=zA hc0;clear F hc0;go_upto_region 11 with fail;clear r_;go_cut [87] from 58 to 87 (fun s wc=>s = .bool c0 ∧ Aside0 (Below w5.heap.size w5 wc))
  case first =>
   have hc0:=HC.out;unfold bey5 at hc0;clear HN HC;by_cases e1 : X.f0 = a0_0
   ·have k1 : decide (X.f0 = a0_0) = true:=zE e1;have l1 : (X.f0 == a0_0) = true:=yB.mpr e1;clear e1;by_cases e2 : a0_3 < X.f2
    ·have k2 : decide (a0_3 < X.f2) = true:=zE e2;have l2 : decide (X.f2 > a0_3) = true:=zE e2;clear e2;refine region_qc (by kernel_rfl) (by kernel_rfl) ?_
     iterate 22 (refine @wpQuiet_step _ _ _ _ _ _ _ ?_;intro K hK;go_simp;first | (refine hK _ ?_;clear hK K) | (apply Exists.intro;refine ⟨fun w' hw0=>?_,hK _ ?_⟩;have hw':=Qc.out hw0;clear hw0;(first | (with_reducible rfl) | (have rc_:=cells13 (zC Br5.out hw');go_simp;with_reducible rfl) | (obtain ⟨p0,p1,p2⟩:=HP.out w' hw';go_simp;with_reducible rfl));clear hK K))
     refine wpQuiet_nil ?_;intro wq hq;have e0 : c0 = true:=by rw [hc0,k1,k2];rfl
     clear hc0;subst e0;go_wp2_with fail;go_meet;exact ⟨rfl,⟨hq⟩⟩
    ·have k2 : decide (a0_3 < X.f2) = false:=zF e2;have l2 : decide (X.f2 > a0_3) = false:=zF e2;clear e2;refine region_qc (by kernel_rfl) (by kernel_rfl) ?_
     iterate 22 (refine @wpQuiet_step _ _ _ _ _ _ _ ?_;intro K hK;go_simp;first | (refine hK _ ?_;clear hK K) | (apply Exists.intro;refine ⟨fun w' hw0=>?_,hK _ ?_⟩;have hw':=Qc.out hw0;clear hw0;(first | (with_reducible rfl) | (have rc_:=cells13 (zC Br5.out hw');go_simp;with_reducible rfl) | (obtain ⟨p0,p1,p2⟩:=HP.out w' hw';go_simp;with_reducible rfl));clear hK K))
     refine wpQuiet_nil ?_;intro wq hq;have e0 : c0 = false:=by rw [hc0,k1,k2];rfl
     clear hc0;subst e0;go_wp2_with fail;go_meet;exact ⟨rfl,⟨hq⟩⟩
   ·have k1 : decide (X.f0 = a0_0) = false:=zF e1;have l1 : (X.f0 == a0_0) = false:=zR.mpr e1;clear e1;refine region_qc (by kernel_rfl) (by kernel_rfl) ?_
    iterate 22 (refine @wpQuiet_step _ _ _ _ _ _ _ ?_;intro K hK;go_simp;first | (refine hK _ ?_;clear hK K) | (apply Exists.intro;refine ⟨fun w' hw0=>?_,hK _ ?_⟩;have hw':=Qc.out hw0;clear hw0;(first | (with_reducible rfl) | (have rc_:=cells13 (zC Br5.out hw');go_simp;with_reducible rfl) | (obtain ⟨p0,p1,p2⟩:=HP.out w' hw';go_simp;with_reducible rfl));clear hK K))
    refine wpQuiet_nil ?_;intro wq hq;have e0 : c0 = false:=by rw [hc0,k1];rfl
    clear hc0;subst e0;go_wp2_with fail;go_meet;exact ⟨rfl,⟨hq⟩⟩
  case rest =>
  obtain ⟨rfl,BC5⟩:=hcut;obtain ⟨w6,hwn⟩ : ∃ x,x = wc:=⟨_,rfl⟩
  subst hwn;have Br6:=zA (zC Br5.out (BC5.out));have HB6:=zA (zG HB5.out (BC5.out));clear HB5 Br5;clear HC;have F:=HN.out;clear HN;cases c0;rotate_left
  ·obtain rfl:=zH (show some false = some r from F);go_wp2_with fail;go_ret;exact ⟨rfl,HB6.out⟩
  rw [Bool.false_or] at F;have HM:=zA F;clear F;go_wp2_with fail;go_roundg (l0_11.length - (kk + 1))
  case measure=>omega
  case rel=>exact ⟨kk + 1,by omega,zM _,by go_num,⟨zG BW.out BC5.out⟩,HM⟩
 have hltz : ¬ (kk : Int) < (l0_11.length : Int):=by omega
 rw [show l0_11.length - kk = 0 by omega] at F;replace F : R = some r:=F;rw [DR.out] at F;have h:=F;clear F DR BW HB4 Br4;have Ha:=zA h;clear h;go_wp2_with fail;clear r_;go_loopg [5] l0_5.length (fun gg ss wr=>∃ kk : Nat,kk ≤ l0_5.length ∧ l0_5.length - kk ≤ gg ∧ ss = .int .i64 kk ∧ Aside0 (Below w5.heap.size w5 wr) ∧ Aside0 (tidingsref05_Right.l2 k a0_0 a0_1 a0_3 l0_4 l0_5 (l0_5.length - kk) kk = some r))
 case atStart=>exact ⟨0,Nat.zero_le _,by omega,rfl,⟨zS _ _⟩,Ha⟩
 case round =>
 clear hltz hlt hkk hgg hmax;obtain ⟨kk,hkk,hgg,rfl,BW,HW⟩:=hrel;clear Ha;obtain ⟨w6,hwn⟩ : ∃ x,x = wr:=⟨_,rfl⟩
 subst hwn;have Br6:=zA (zC Br5.out (BW.out));have HB6:=zA (zG HB5.out (BW.out));have hmax : l0_5.length ≤ 9223372036854775807:=HR5.out.2.1;have F:=HW.out;clear HW;have r_:=cells13 Br6.out;by_cases hlt : kk < l0_5.length
 ·have hltz : (kk : Int) < (l0_5.length : Int):=by omega
  have h0k : (0 : Int) ≤ (kk : Int):=by omega
  rw [show l0_5.length - kk = (l0_5.length - (kk + 1)) + 1 by omega] at F;unfold tidingsref05_Right.l2 at F;obtain ⟨ax,e⟩:=ent_some HR5.out hlt;subst e;obtain ⟨y0,y1,y2,y3,y4,y5,y6⟩:=ent_at (zL HR5.out HB6.out) hlt;generalize l0_5.getD kk z62 = X at F y0 y1 y2 y3 y4 y5 y6;have HF:=zA F;clear F;go_upto_region 17 with fail;clear r_;clear y0 y1 y2 y3 y4 y5 y6;generalize hW : World.alloc w6 _ = w7;have BA:=zA (al1B hW);have Be7:=zA (al1_0 hW);clear hW;have Br7:=zA (zC Br6.out (BA.out));have HB7:=zA (zG HB6.out (BA.out));have BWA:=zA (zG BW.out BA.out);clear BA HB6 Br6 BW;have F:=HF.out;clear HF;obtain ⟨c0,hc0⟩ : ∃ x,x = bey5 a0_0 a0_3 X.f1.f0 X.f1.f1:=⟨_,rfl⟩
  rw [← hc0] at F;have HN:=zA F;have HC:=zA hc0;clear F hc0;go_upto_region 17 with fail;go_cut [113] from 88 to 163 (fun s wc=>s = .bool c0 ∧ Aside0 (Below w7.heap.size w7 wc))
  case first =>
   have hc0:=HC.out;unfold bey5 at hc0;clear HN HC;have r_:=cells13 Br7.out;have e_:=cells7 Be7.out;by_cases e1 : X.f1.f0 = a0_0
   ·have k1 : decide (X.f1.f0 = a0_0) = true:=zE e1;have l1 : (X.f1.f0 == a0_0) = true:=yB.mpr e1;clear e1;by_cases e2 : a0_3 < X.f1.f1
    ·have k2 : decide (a0_3 < X.f1.f1) = true:=zE e2;have l2 : decide (X.f1.f1 > a0_3) = true:=zE e2;clear e2;have e0 : c0 = true:=by rw [hc0,k1,k2];rfl
     clear hc0;subst e0;go_wp2_with fail;go_meet;exact ⟨rfl,⟨zS _ _⟩⟩
    ·have k2 : decide (a0_3 < X.f1.f1) = false:=zF e2;have l2 : decide (X.f1.f1 > a0_3) = false:=zF e2;clear e2;have e0 : c0 = false:=by rw [hc0,k1,k2];rfl
     clear hc0;subst e0;go_wp2_with fail;go_meet;exact ⟨rfl,⟨zS _ _⟩⟩
   ·have k1 : decide (X.f1.f0 = a0_0) = false:=zF e1;have l1 : (X.f1.f0 == a0_0) = false:=zR.mpr e1;clear e1;have e0 : c0 = false:=by rw [hc0,k1];rfl
    clear hc0;subst e0;go_wp2_with fail;go_meet;exact ⟨rfl,⟨zS _ _⟩⟩
  case rest =>
  obtain ⟨rfl,BC7⟩:=hcut;obtain ⟨w8,hwn⟩ : ∃ x,x = wc:=⟨_,rfl⟩
  subst hwn;have Br8:=zA (zC Br7.out (BC7.out));have Be8:=zA (zC Be7.out (BC7.out));have HB8:=zA (zG HB7.out (BC7.out));clear HB7 Br7 Be7;clear HC;have F:=HN.out;clear HN;cases c0;rotate_left
  ·obtain rfl:=zH (show some false = some r from F);go_wp2_with fail;go_ret;exact ⟨rfl,HB8.out⟩
  have BWB:=zA (zG BWA.out BC7.out);clear BWA BC7;rw [if_neg (by decide)] at F;obtain ⟨R3,hR3⟩ : ∃ x,x = ((tidingsref02_In.f k X.f0 X.f1.f0 X.f1.f1 X.f1.f2 X.f2 X.f3 X.f4 a0_1).bind fun c=>(tidingsref01_Has.f k l0_4 X.f1.f0 X.f1.f1).bind fun b=>if ((decide (X.f2 = 1) && !c) || (decide (X.f2 ≠ 2) && !b)) = true then some false else tidingsref05_Right.l2 k a0_0 a0_1 a0_3 l0_4 l0_5 (l0_5.length - (kk + 1)) (kk + 1)):=⟨_,rfl⟩
  replace F : (if anyB (twin5 X.f1.f0 X.f1.f1) z62 l0_5 (kk - 0) 0 = true then some false else R3) = some r:=by rw [hR3];exact F
  have DR3:=zA hR3;have HJ:=zA F;clear F hR3;go_wp2_with fail;go_loopg [7] kk (fun gg ss wr=>∃ jj : Nat,jj ≤ kk ∧ kk - jj ≤ gg ∧ ss = .int .i64 jj ∧ Aside0 (Below w8.heap.size w8 wr) ∧ Aside0 ((if anyB (twin5 X.f1.f0 X.f1.f1) z62 l0_5 (kk - jj) jj = true then some false else R3) = some r))
  case atStart=>exact ⟨0,Nat.zero_le _,by omega,rfl,⟨zS _ _⟩,HJ⟩
  case round =>
  obtain ⟨jj,hjj,hgj,rfl,BJ,HW⟩:=hrel;clear HJ;obtain ⟨w9,hwn⟩ : ∃ x,x = wr:=⟨_,rfl⟩
  subst hwn;have Br9:=zA (zC Br8.out (BJ.out));have Be9:=zA (zC Be8.out (BJ.out));have HB9:=zA (zG HB8.out (BJ.out));have F:=HW.out;clear HW;by_cases hlj : jj < kk
  ·have hljz : (jj : Int) < (kk : Int):=by omega
   have hl5 : jj < l0_5.length:=by omega
   have hljl : (jj : Int) < (l0_5.length : Int):=by omega
   have h0j : (0 : Int) ≤ (jj : Int):=by omega
   rw [show kk - jj = (kk - (jj + 1)) + 1 by omega] at F;have HQ:=zA (fun (W : World) (hb : Below w9.heap.size w9 W)=>ent_at (zL HR5.out (zG HB9.out hb)) hl5);obtain ⟨c1,hc1⟩ : ∃ x,x = twin5 X.f1.f0 X.f1.f1 (l0_5.getD jj z62):=⟨_,rfl⟩
   replace F : (if (c1 || anyB (twin5 X.f1.f0 X.f1.f1) z62 l0_5 (kk - (jj + 1)) (jj + 1)) = true then some false else R3) = some r:=by rw [hc1];exact F
   generalize l0_5.getD jj z62 = Y at HQ hc1;have HN:=zA F;have HC:=zA hc1;clear F hc1;have r_:=cells13 Br9.out;have e_:=cells7 Be9.out;go_upto_region 22 with fail;clear r_ e_;go_cut [142] from 114 to 142 (fun s wc=>s = .bool c1 ∧ Aside0 (Below w9.heap.size w9 wc))
   case first =>
    have hc1:=HC.out;unfold twin5 at hc1;clear HN HC;by_cases e1 : Y.f1.f0 = X.f1.f0
    ·have k1 : decide (Y.f1.f0 = X.f1.f0) = true:=zE e1;have l1 : (Y.f1.f0 == X.f1.f0) = true:=yB.mpr e1;clear e1;by_cases e2 : Y.f1.f1 = X.f1.f1
     ·have k2 : decide (Y.f1.f1 = X.f1.f1) = true:=zE e2;have l2 : (Y.f1.f1 == X.f1.f1) = true:=yB.mpr e2;clear e2;refine region_qc (by kernel_rfl) (by kernel_rfl) ?_
      iterate 24 (refine @wpQuiet_step _ _ _ _ _ _ _ ?_;intro K hK;go_simp;first | (refine hK _ ?_;clear hK K) | (apply Exists.intro;refine ⟨fun w' hw0=>?_,hK _ ?_⟩;have hw':=Qc.out hw0;clear hw0;(first | (with_reducible rfl) | (have rc_:=cells13 (zC Br9.out hw');go_simp;with_reducible rfl) | (obtain ⟨p0,p1,p2,p3,p4,p5,p6⟩:=HQ.out w' hw';go_simp;with_reducible rfl) | (have ec_:=cells7 (zC Be9.out hw');go_simp;with_reducible rfl));clear hK K))
      refine wpQuiet_nil ?_;intro wq hq;have e0 : c1 = true:=by rw [hc1,k1,k2];rfl
      clear hc1;subst e0;go_wp2_with fail;go_meet;exact ⟨rfl,⟨hq⟩⟩
     ·have k2 : decide (Y.f1.f1 = X.f1.f1) = false:=zF e2;have l2 : (Y.f1.f1 == X.f1.f1) = false:=zR.mpr e2;clear e2;refine region_qc (by kernel_rfl) (by kernel_rfl) ?_
      iterate 24 (refine @wpQuiet_step _ _ _ _ _ _ _ ?_;intro K hK;go_simp;first | (refine hK _ ?_;clear hK K) | (apply Exists.intro;refine ⟨fun w' hw0=>?_,hK _ ?_⟩;have hw':=Qc.out hw0;clear hw0;(first | (with_reducible rfl) | (have rc_:=cells13 (zC Br9.out hw');go_simp;with_reducible rfl) | (obtain ⟨p0,p1,p2,p3,p4,p5,p6⟩:=HQ.out w' hw';go_simp;with_reducible rfl) | (have ec_:=cells7 (zC Be9.out hw');go_simp;with_reducible rfl));clear hK K))
      refine wpQuiet_nil ?_;intro wq hq;have e0 : c1 = false:=by rw [hc1,k1,k2];rfl
      clear hc1;subst e0;go_wp2_with fail;go_meet;exact ⟨rfl,⟨hq⟩⟩
    ·have k1 : decide (Y.f1.f0 = X.f1.f0) = false:=zF e1;have l1 : (Y.f1.f0 == X.f1.f0) = false:=zR.mpr e1;clear e1;refine region_qc (by kernel_rfl) (by kernel_rfl) ?_
     iterate 24 (refine @wpQuiet_step _ _ _ _ _ _ _ ?_;intro K hK;go_simp;first | (refine hK _ ?_;clear hK K) | (apply Exists.intro;refine ⟨fun w' hw0=>?_,hK _ ?_⟩;have hw':=Qc.out hw0;clear hw0;(first | (with_reducible rfl) | (have rc_:=cells13 (zC Br9.out hw');go_simp;with_reducible rfl) | (obtain ⟨p0,p1,p2,p3,p4,p5,p6⟩:=HQ.out w' hw';go_simp;with_reducible rfl) | (have ec_:=cells7 (zC Be9.out hw');go_simp;with_reducible rfl));clear hK K))
     refine wpQuiet_nil ?_;intro wq hq;have e0 : c1 = false:=by rw [hc1,k1];rfl
     clear hc1;subst e0;go_wp2_with fail;go_meet;exact ⟨rfl,⟨hq⟩⟩
   case rest =>
   obtain ⟨rfl,BC9⟩:=hcut;obtain ⟨w10,hwn⟩ : ∃ x,x = wc:=⟨_,rfl⟩
   subst hwn;have Br10:=zA (zC Br9.out (BC9.out));have Be10:=zA (zC Be9.out (BC9.out));have HB10:=zA (zG HB9.out (BC9.out));clear HB9 Br9 Be9;clear HC;have F:=HN.out;clear HN;cases c1;rotate_left
   ·obtain rfl:=zH (show some false = some r from F);go_wp2_with fail;go_ret;exact ⟨rfl,HB10.out⟩
   rw [Bool.false_or] at F;have HM:=zA F;clear F;go_wp2_with fail;go_roundg (kk - (jj + 1))
   case measure=>omega
   case rel=>exact ⟨jj + 1,by omega,zM _,by go_num,⟨zG BJ.out BC9.out⟩,HM⟩
  have hljz : ¬ (jj : Int) < (kk : Int):=by omega
  rw [show kk - jj = 0 by omega] at F;replace F : R3 = some r:=F;rw [DR3.out] at F;clear DR3;obtain ⟨cI,hcI,F⟩:=zJ.mp F;obtain ⟨bH,hbH,F⟩:=zJ.mp F;have HI:=zA hcI;have HK:=zA (show tidingsref05_Known.f k a0_0 a0_1 a0_2 a0_3 l0_4 l0_5 a0_6 a0_7 a0_8 a0_9 a0_10 l0_11 a0_12 X.f0 X.f1.f0 X.f1.f1 X.f1.f2 X.f2 X.f3 X.f4 = some bH by unfold tidingsref05_Known.f;rw [hbH];rfl);obtain ⟨bad,hbad⟩ : ∃ x,x = ((decide (X.f2 = 1) && !cI) || (decide (X.f2 ≠ 2) && !bH)):=⟨_,rfl⟩
  rw [← hbad] at F;have HN:=zA F;have HC:=zA hbad;clear hcI hbH F hbad;go_upto_region 24 with fail;go_cut [163] from 88 to 163 (fun s wc=>s = .bool bad ∧ Aside0 (Below w9.heap.size w9 wc))
  case first =>
   have hb:=HC.out;clear HN HC;have BD9:=zA (zS w9.heap.size w9);have r_:=cells13 Br9.out;have e_:=cells7 Be9.out;by_cases e1 : X.f2 = 1
   ·have e2 : ¬ X.f2 = 2:=by omega
    have k1 : decide (X.f2 = 1) = true:=zE e1;have l1 : (X.f2 == 1) = true:=yB.mpr e1;have k2 : decide (X.f2 ≠ 2) = true:=zE e2;have l2 : (X.f2 != 2) = true:=yF.mpr e2;have l3 : decide (X.f2 = 2) = false:=zF e2;clear e1 e2;go_wp2_with fail;refine (tidingsref02_In.calls k X.f0 X.f1.f0 X.f1.f1 X.f1.f2 X.f2 X.f3 X.f4 a0_1 cI _ HI.out).mono ?_;rintro ev w10 ⟨rfl,hx⟩;have Br10:=zA (zC Br9.out hx);have Be10:=zA (zC Be9.out hx);have HB10:=zA (zG HB9.out hx);have BD10:=zA (zG BD9.out hx);clear r_ e_;clear hx HB9 BD9 Br9 Be9;have r_:=cells13 Br10.out;have e_:=cells7 Be10.out;cases cI
    ·have e0 : bad = true:=by rw [hb,k1];rfl
     clear hb;subst e0;go_wp2_with fail;go_meet;exact ⟨rfl,BD10⟩
    ·go_wp2_with fail;refine (tidingsref05_Known.calls k a0_0 a0_1 a0_2 a0_3 _ _ l0_4 _ _ l0_5 a0_6 a0_7 a0_8 a0_9 a0_10 _ _ l0_11 a0_12 X.f0 X.f1.f0 X.f1.f1 X.f1.f2 X.f2 X.f3 X.f4 bH _ (zL HR4.out HB10.out) HC4.out (zL HR5.out HB10.out) HC5.out (zL HR11.out HB10.out) HC11.out HK.out).mono ?_;rintro ev w11 ⟨rfl,hx⟩;have Br11:=zA (zC Br10.out hx);have Be11:=zA (zC Be10.out hx);have HB11:=zA (zG HB10.out hx);have BD11:=zA (zG BD10.out hx);clear r_ e_;clear hx HB10 BD10 Br10 Be10;have e0 : bad = (!bH):=by rw [hb,k1,k2];rfl
     clear hb;subst e0;go_wp2_with fail;go_meet;exact ⟨rfl,BD11⟩
   ·by_cases e2 : X.f2 = 2
    ·have k1 : decide (X.f2 = 1) = false:=zF e1;have l1 : (X.f2 == 1) = false:=zR.mpr e1;have k2 : decide (X.f2 ≠ 2) = false:=zF (fun h=>h e2);have l2 : (X.f2 != 2) = false:=zU.mpr e2;have l3 : decide (X.f2 = 2) = true:=zE e2;clear e1 e2;have e0 : bad = false:=by rw [hb,k1,k2];rfl
     clear hb;subst e0;go_wp2_with fail;go_meet;exact ⟨rfl,BD9⟩
    ·have k1 : decide (X.f2 = 1) = false:=zF e1;have l1 : (X.f2 == 1) = false:=zR.mpr e1;have k2 : decide (X.f2 ≠ 2) = true:=zE e2;have l2 : (X.f2 != 2) = true:=yF.mpr e2;have l3 : decide (X.f2 = 2) = false:=zF e2;clear e1 e2;go_wp2_with fail;refine (tidingsref05_Known.calls k a0_0 a0_1 a0_2 a0_3 _ _ l0_4 _ _ l0_5 a0_6 a0_7 a0_8 a0_9 a0_10 _ _ l0_11 a0_12 X.f0 X.f1.f0 X.f1.f1 X.f1.f2 X.f2 X.f3 X.f4 bH _ (zL HR4.out HB9.out) HC4.out (zL HR5.out HB9.out) HC5.out (zL HR11.out HB9.out) HC11.out HK.out).mono ?_;rintro ev w10 ⟨rfl,hx⟩;have Br10:=zA (zC Br9.out hx);have Be10:=zA (zC Be9.out hx);have HB10:=zA (zG HB9.out hx);have BD10:=zA (zG BD9.out hx);clear r_ e_;clear hx HB9 BD9 Br9 Be9;have e0 : bad = (!bH):=by rw [hb,k1,k2];rfl
     clear hb;subst e0;go_wp2_with fail;go_meet;exact ⟨rfl,BD10⟩
  case rest =>
  obtain ⟨rfl,BC9⟩:=hcut;obtain ⟨w10,hwn⟩ : ∃ x,x = wc:=⟨_,rfl⟩
  subst hwn;have Br10:=zA (zC Br9.out (BC9.out));have Be10:=zA (zC Be9.out (BC9.out));have HB10:=zA (zG HB9.out (BC9.out));clear HB9 Br9 Be9;clear HC;have F:=HN.out;clear HN;cases bad;rotate_left
  ·obtain rfl:=zH (show some false = some r from F);go_wp2_with fail;go_ret;exact ⟨rfl,HB10.out⟩
  rw [if_neg (by decide)] at F;have HM:=zA F;clear F;go_wp2_with fail;go_roundg (l0_5.length - (kk + 1))
  case measure=>omega
  case rel=>exact ⟨kk + 1,by omega,zM _,by go_num,⟨zG (zG BWB.out BJ.out) BC9.out⟩,HM⟩
 have hltz : ¬ (kk : Int) < (l0_5.length : Int):=by omega
 rw [show l0_5.length - kk = 0 by omega] at F;obtain rfl : true = r:=zH F;go_wp2_with fail;go_ret;exact ⟨rfl,HB6.out⟩
end Go.Proofs.YtiminjibcafkaaaGreatDoor.X
