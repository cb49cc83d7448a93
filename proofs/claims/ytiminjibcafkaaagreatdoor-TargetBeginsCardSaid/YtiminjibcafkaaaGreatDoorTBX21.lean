-- MADE BY wip/prx.py (the kit's printer, with contracts proved by hand). Not trusted: Lean checks it.
import Derived.Test.YtiminjibcafkaaaGreatDoorTBJ5
import Derived.Test.YtiminjibcafkaaaGreatDoorTBJ4
import Derived.Test.YtiminjibcafkaaaGreatDoorTBX19
namespace Go.Proofs.YtiminjibcafkaaaGreatDoor.X
open Go.RowKit Go.Proofs.YtiminjibcafkaaaGreatDoorW.PrintWords Go.Proofs.YtiminjibcafkaaaGreatDoorW.PrintLast Go.Proofs.YtiminjibcafkaaaGreatDoorW.PrintMore
attribute [local go_sem] max2_int min2_int max_two min_two max_three min_three max_four min_four   -- for this text's walks alone
set_option linter.unusedVariables false
set_option linter.unusedSimpArgs false
/-! ### tidingsref05_session: function 63 -/
def tidingsref05_session.f (k : Nat) (a0_0 : Bool) (a0_1 : Int) (a0_2 : Int) (a0_3 : Int) (a0_4 : Int) (l0_5 : List (S67)) (a0_6 : Int) (a1 : Int) : Option (Bool):=if a0_0 = true then (if a0_3 > 0 then ((tidingsref01_Right.f k l0_5).bind fun t267=>(if t267 = true then (if a0_1 > 0 then (if a0_1 ≤ a0_6 then (if a0_2 < 8 then (if a0_2 = a1 then (some false) else (if a0_3 < 64 then (some true) else (some false))) else (some false)) else (some false)) else (some false)) else (some false))) else (if a0_4 = 0 then ((tidingsref01_Right.f k l0_5).bind fun t268=>(if t268 = true then (if a0_1 > 0 then (if a0_1 ≤ a0_6 then (if a0_2 < 8 then (if a0_2 = a1 then (some false) else (if a0_3 < 64 then (some ((l0_5.length : Int) == 0)) else (some false))) else (some false)) else (some false)) else (some false)) else (some false))) else ((tidingsref01_Right.f k l0_5).bind fun t269=>(if t269 = true then (if a0_1 > 0 then (if a0_1 ≤ a0_6 then (if a0_2 < 8 then (if a0_2 = a1 then (some false) else (if a0_3 < 64 then (some false) else (some false))) else (some false)) else (some false)) else (some false)) else (some false))))) else (if a0_1 = 0 then (if a0_2 = 0 then (if a0_3 = 0 then (if a0_4 = 0 then (some ((l0_5.length : Int) == 0)) else (some false)) else (some false)) else (some false)) else (some false))
set_option maxHeartbeats 8000000 in
set_option maxRecDepth 100000 in
theorem tidingsref05_session.calls (k : Nat) (a0_0 : Bool) (a0_1 : Int) (a0_2 : Int) (a0_3 : Int) (a0_4 : Int) (A0_5 : Option Addr) (c0_5 : Nat) (l0_5 : List (S67)) (a0_6 : Int) (a1 : Int) (r : Bool) (w : World) (hr0_5 : Kd.C k67 w A0_5 l0_5.length l0_5) (hc0_5 : l0_5.length ≤ c0_5) (h : tidingsref05_session.f k a0_0 a0_1 a0_2 a0_3 a0_4 l0_5 a0_6 a1 = some r) :
 Calls Tryz.prog 63 #[.agg #[.bool a0_0,.int .u32 a0_1,.int .u8 a0_2,.int .u8 a0_3,.int .u32 a0_4,.slice A0_5 l0_5.length c0_5,.int .u32 a0_6],.int .u8 a1] w fun e w'=>e = .returned (.bool r) ∧ Below w.heap.size w w':=by
 have hu26:=Tryz.underlying26
 have HR0_5':=Aside0.mk hr0_5
 have HC0_5':=Aside0.mk hc0_5
 clear hr0_5 hc0_5
 have H:=Aside0.mk h
 clear h
 go_enter Tryz.func63,Tryz.ntmps63
 go_wp2_with ((go_at_call 61;rcases hv0 : tidingsref01_Right.f k l0_5 with _ | v_;(exfalso;have h_:=H.out;first | (simp [*,tidingsref05_session.f] at h_;done) | ((simp only [tidingsref05_session.f,hv0,Option.bind_none] at h_;repeat' (split at h_))<;>first | (exfalso;omega) | (simp at h_;done)));(refine (tidingsref01_Right.calls k _ _ l0_5 v_ _ (Kd.C_below HR0_5'.out (by repeat (first | exact Below.refl _ _ | refine Below.alloc ?_ (by first | exact Nat.le_refl _) _))) HC0_5'.out hv0).mono ?_);rintro e w1_ ⟨rfl,hx_⟩;have hx:=hx_.below;have B0_:=blk_below (blk_new _ _) hx;obtain ⟨u0_0,u0_1,u0_2,u0_3,u0_4,u0_5,u0_6⟩:=cells7 B0_;cases v_))
 all_goals (try go_ret)
 all_goals (have h:=H.out;clear H;simp only [tidingsref05_session.f] at h)
 all_goals (refine ⟨?_,by first | ((repeat (first | exact Below.refl _ _ | refine Below.alloc ?_ (by first | exact Nat.le_refl _) _));done) | (refine below_step ?_ hx;(repeat (first | exact Below.refl _ _ | refine Below.alloc ?_ (by first | exact Nat.le_refl _) _));done)⟩)
 all_goals ((try simp only [hv0,Option.bind_some] at h);first | (simp [*] at h;simp [*];done) | (simp [*] at h;simp [← h];done) | (simp [*] at h;subst h;fail) | (simp [*] at h ⊢;done) | (simp [*] at h;rw [← h];fail) | (simp [*] at h;simp [h];done) | ((repeat' (split at h))<;>first | (exfalso;omega) | (exfalso;simp_all;done) | (simp [*] at h;subst h;simp [*];done)))
/-! ### tidingsref01_Has: function 92 -/
def tidingsref01_Has.l0 : Nat → List (S67) → Int → Int → Int → Option (Bool)
 | 0,_,_,_,_=>none
 | k + 1,x0,x1,x2,x7=>if x7 < (x0.length : Int) then (if 0 ≤ x7 then (if ((rd_T67 x0 x7).f0) = x1 then (if x2 ≥ ((rd_T67 x0 x7).f1) then (if x2 ≤ ((rd_T67 x0 x7).f2) then (some true) else (tidingsref01_Has.l0 k x0 x1 x2 (wrap64 (x7 + 1)))) else (tidingsref01_Has.l0 k x0 x1 x2 (wrap64 (x7 + 1)))) else (tidingsref01_Has.l0 k x0 x1 x2 (wrap64 (x7 + 1)))) else (none)) else (some false)
def tidingsref01_Has.f (k : Nat) (l0 : List (S67)) (a1 : Int) (a2 : Int) : Option (Bool):=(tidingsref01_Right.f k l0).bind fun t270=>(if t270 = true then (tidingsref01_Has.l0 k l0 a1 a2 0) else (some false))
set_option maxHeartbeats 8000000 in
set_option maxRecDepth 100000 in
theorem tidingsref01_Has.calls (k : Nat) (A0 : Option Addr) (c0 : Nat) (l0 : List (S67)) (a1 : Int) (a2 : Int) (r : Bool) (w : World) (hr0 : Kd.C k67 w A0 l0.length l0) (hc0 : l0.length ≤ c0) (h : tidingsref01_Has.f k l0 a1 a2 = some r) :
 Calls Tryz.prog 92 #[.slice A0 l0.length c0,.int .u8 a1,.int .u32 a2] w fun e w'=>e = .returned (.bool r) ∧ Drawn0 w w':=by
 have HR0:=Aside0.mk hr0
 have HC0:=Aside0.mk hc0
 clear hr0 hc0
 have H : ((tidingsref01_Right.f k l0).bind fun t270=>(if t270 = true then (tidingsref01_Has.l0 k l0 a1 a2 0) else (some false))) = some r:=h
 clear h
 replace H:=Option.bind_eq_some_iff.mp H
 obtain ⟨t270,A40,H⟩:=H
 have A4:=Aside0.mk A40
 clear A40
 by_cases c5 : t270 = true
 ·subst c5
  rw [if_pos rfl] at H
  have H':=Aside0.mk H
  clear H
  go_enter Tryz.func92,Tryz.ntmps92
  go_wp2_with (((with_reducible refine gate_callee (f:=61) rfl ?_);refine goesL_ (some 9) rfl rfl Tryz.func61 (by kernel_rfl) rfl #[.slice A0 l0.length c0] rfl (by (try simp only [List.map_toArray,List.map_cons,List.map_nil]);first | done | rfl) ?_;(with_reducible refine (tidingsref01_Right.calls k _ _ l0 true _ ?side1 ?side2 A4.out).mono ?_);(case side1=>repeat (first | exact HR0.out | (with_reducible refine Kd.C_alloc ?_ _) | (with_reducible refine Kd.C_drewN ?_ _) | (with_reducible refine Kd.C_drew ?_)));(case side2=>exact HC0.out);rintro e w' ⟨rfl,⟨nd,rfl⟩⟩;refine ⟨_,rfl,?_⟩))
  go_loopg [7] k (fun kq v7 w'=>∃ (x7_1 : Int),v7 = .int .i64 x7_1 ∧ Aside0 (tidingsref01_Has.l0 kq l0 a1 a2 x7_1 = some r) ∧ Aside0 (kq ≤ k) ∧ Drawn0 w w')
  case atStart=>exact ⟨(0),(by first | rfl),H',⟨Nat.le_refl _⟩,by repeat (first | exact Drawn0.refl _ | apply Drawn0.step)⟩
  case round =>
   clear H'
   try clear p2
   try clear c5
   obtain ⟨x7_1,rfl,HA,HK1,⟨m1,rfl⟩⟩:=hrel
   cases gk with
   | zero=>exact absurd HA.out (by simp [tidingsref01_Has.l0])
   | succ k1 =>
    have H:=HA.out
    clear HA
    simp only [tidingsref01_Has.l0] at H
    by_cases c6 : x7_1 < (l0.length : Int)
    ·rw [if_pos c6] at H
     have c6b0 : decide (x7_1 < (l0.length : Int)) = true:=decide_eq_true c6
     clear c6
     by_cases c7 : 0 ≤ x7_1
     ·rw [if_pos c7] at H
      have c7b0 : decide (0 ≤ x7_1) = true:=decide_eq_true c7
      clear c7
      by_cases c8 : ((rd_T67 l0 x7_1).f0) = a1
      ·rw [if_pos c8] at H
       have c8b0 : (((rd_T67 l0 x7_1).f0) == a1) = true:=beq_iff_eq.mpr c8
       have c8b1 : (((rd_T67 l0 x7_1).f0) != a1) = false:=bne_eq_false_iff_eq.mpr c8
       clear c8
       by_cases c9 : a2 ≥ ((rd_T67 l0 x7_1).f1)
       ·rw [if_pos c9] at H
        have c9b0 : decide (((rd_T67 l0 x7_1).f1) ≤ a2) = true:=decide_eq_true c9
        clear c9
        by_cases c10 : a2 ≤ ((rd_T67 l0 x7_1).f2)
        ·rw [if_pos c10] at H
         have c10b0 : decide (a2 ≤ ((rd_T67 l0 x7_1).f2)) = true:=decide_eq_true c10
         clear c10
         obtain rfl:=Option.some.inj H
         have p271 : 0 ≤ (x7_1 : Int):=of_decide_eq_true (by (with_reducible assumption))
         have q271 : x7_1 < (l0.length : Int):=of_decide_eq_true (by (with_reducible assumption))
         obtain ⟨ad271,e271,hx271_0,hx271_1,hx271_2⟩:=at_T67 HR0.out x7_1 p271 q271
         cases e271
         replace p271:=eq_true p271
         replace q271:=eq_true q271
         have p272 : 0 ≤ (x7_1 : Int):=of_decide_eq_true (by (with_reducible assumption))
         have q272 : x7_1 < (l0.length : Int):=of_decide_eq_true (by (with_reducible assumption))
         obtain ⟨ad272,e272,hx272_0,hx272_1,hx272_2⟩:=at_T67 HR0.out x7_1 p272 q272
         obtain rfl : ad271 = ad272:=(by injection e272)
         replace p272:=eq_true p272
         replace q272:=eq_true q272
         have p273 : 0 ≤ (x7_1 : Int):=of_decide_eq_true (by (with_reducible assumption))
         have q273 : x7_1 < (l0.length : Int):=of_decide_eq_true (by (with_reducible assumption))
         obtain ⟨ad273,e273,hx273_0,hx273_1,hx273_2⟩:=at_T67 HR0.out x7_1 p273 q273
         obtain rfl : ad271 = ad273:=(by injection e273)
         replace p273:=eq_true p273
         replace q273:=eq_true q273
         go_wp2
         go_ret
         exact ⟨by first | rfl,by repeat (first | exact Drawn0.refl _ | apply Drawn0.step)⟩
        ·rw [if_neg c10] at H
         have c10b0 : decide (a2 ≤ ((rd_T67 l0 x7_1).f2)) = false:=decide_eq_false c10
         clear c10
         have H':=Aside0.mk H
         clear H
         have p271 : 0 ≤ (x7_1 : Int):=of_decide_eq_true (by (with_reducible assumption))
         have q271 : x7_1 < (l0.length : Int):=of_decide_eq_true (by (with_reducible assumption))
         obtain ⟨ad271,e271,hx271_0,hx271_1,hx271_2⟩:=at_T67 HR0.out x7_1 p271 q271
         cases e271
         replace p271:=eq_true p271
         replace q271:=eq_true q271
         have p272 : 0 ≤ (x7_1 : Int):=of_decide_eq_true (by (with_reducible assumption))
         have q272 : x7_1 < (l0.length : Int):=of_decide_eq_true (by (with_reducible assumption))
         obtain ⟨ad272,e272,hx272_0,hx272_1,hx272_2⟩:=at_T67 HR0.out x7_1 p272 q272
         obtain rfl : ad271 = ad272:=(by injection e272)
         replace p272:=eq_true p272
         replace q272:=eq_true q272
         have p273 : 0 ≤ (x7_1 : Int):=of_decide_eq_true (by (with_reducible assumption))
         have q273 : x7_1 < (l0.length : Int):=of_decide_eq_true (by (with_reducible assumption))
         obtain ⟨ad273,e273,hx273_0,hx273_1,hx273_2⟩:=at_T67 HR0.out x7_1 p273 q273
         obtain rfl : ad271 = ad273:=(by injection e273)
         replace p273:=eq_true p273
         replace q273:=eq_true q273
         go_wp2
         go_roundg k1
         case measure=>have:=HK1.out;omega
         case rel=>exact ⟨(wrap64 (x7_1 + 1)),(by first | rfl),H',⟨by have:=HK1.out;omega⟩,by repeat (first | exact Drawn0.refl _ | apply Drawn0.step)⟩
       ·rw [if_neg c9] at H
        have c9b0 : decide (((rd_T67 l0 x7_1).f1) ≤ a2) = false:=decide_eq_false c9
        clear c9
        have H':=Aside0.mk H
        clear H
        have p271 : 0 ≤ (x7_1 : Int):=of_decide_eq_true (by (with_reducible assumption))
        have q271 : x7_1 < (l0.length : Int):=of_decide_eq_true (by (with_reducible assumption))
        obtain ⟨ad271,e271,hx271_0,hx271_1,hx271_2⟩:=at_T67 HR0.out x7_1 p271 q271
        cases e271
        replace p271:=eq_true p271
        replace q271:=eq_true q271
        have p272 : 0 ≤ (x7_1 : Int):=of_decide_eq_true (by (with_reducible assumption))
        have q272 : x7_1 < (l0.length : Int):=of_decide_eq_true (by (with_reducible assumption))
        obtain ⟨ad272,e272,hx272_0,hx272_1,hx272_2⟩:=at_T67 HR0.out x7_1 p272 q272
        obtain rfl : ad271 = ad272:=(by injection e272)
        replace p272:=eq_true p272
        replace q272:=eq_true q272
        go_wp2
        go_roundg k1
        case measure=>have:=HK1.out;omega
        case rel=>exact ⟨(wrap64 (x7_1 + 1)),(by first | rfl),H',⟨by have:=HK1.out;omega⟩,by repeat (first | exact Drawn0.refl _ | apply Drawn0.step)⟩
      ·rw [if_neg c8] at H
       have c8b0 : (((rd_T67 l0 x7_1).f0) == a1) = false:=beq_eq_false_iff_ne.mpr c8
       have c8b1 : (((rd_T67 l0 x7_1).f0) != a1) = true:=bne_iff_ne.mpr c8
       have H':=Aside0.mk H
       clear H
       have p271 : 0 ≤ (x7_1 : Int):=of_decide_eq_true (by (with_reducible assumption))
       have q271 : x7_1 < (l0.length : Int):=of_decide_eq_true (by (with_reducible assumption))
       obtain ⟨ad271,e271,hx271_0,hx271_1,hx271_2⟩:=at_T67 HR0.out x7_1 p271 q271
       cases e271
       replace p271:=eq_true p271
       replace q271:=eq_true q271
       go_wp2
       go_roundg k1
       case measure=>have:=HK1.out;omega
       case rel=>exact ⟨(wrap64 (x7_1 + 1)),(by first | rfl),H',⟨by have:=HK1.out;omega⟩,by repeat (first | exact Drawn0.refl _ | apply Drawn0.step)⟩
     ·rw [if_neg c7] at H
      exact absurd H (by simp)
    ·rw [if_neg c6] at H
     have c6b0 : decide (x7_1 < (l0.length : Int)) = false:=decide_eq_false c6
     clear c6
     obtain rfl:=Option.some.inj H
     go_wp2
     go_ret
     exact ⟨by first | rfl,by repeat (first | exact Drawn0.refl _ | apply Drawn0.step)⟩
 ·replace c5:=Bool.eq_false_iff.mpr c5
  subst c5
  rw [if_neg (show ¬ (false = true) by decide)] at H
  obtain rfl:=Option.some.inj H
  go_enter Tryz.func92,Tryz.ntmps92
  go_wp2_with (((with_reducible refine gate_callee (f:=61) rfl ?_);refine goesL_ (some 9) rfl rfl Tryz.func61 (by kernel_rfl) rfl #[.slice A0 l0.length c0] rfl (by (try simp only [List.map_toArray,List.map_cons,List.map_nil]);first | done | rfl) ?_;(with_reducible refine (tidingsref01_Right.calls k _ _ l0 false _ ?side1 ?side2 A4.out).mono ?_);(case side1=>repeat (first | exact HR0.out | (with_reducible refine Kd.C_alloc ?_ _) | (with_reducible refine Kd.C_drewN ?_ _) | (with_reducible refine Kd.C_drew ?_)));(case side2=>exact HC0.out);rintro e w' ⟨rfl,⟨nd,rfl⟩⟩;refine ⟨_,rfl,?_⟩))
  go_ret
  exact ⟨by first | rfl,by repeat (first | exact Drawn0.refl _ | apply Drawn0.step)⟩
/-! ### tidingsref05_Known: function 64 -/
def tidingsref05_Known.f (k : Nat) (a0_0 : Int) (a0_1 : Int) (a0_2 : Int) (a0_3 : Int) (l0_4 : List (S67)) (l0_5 : List (S62)) (a0_6 : Bool) (a0_7 : Int) (a0_8 : Int) (a0_9 : Int) (a0_10 : Int) (l0_11 : List (S67)) (a0_12 : Int) (a1_0 : Int) (a1_1 : Int) (a1_2 : Int) (a1_3 : Int) (a1_4 : Int) (a1_5 : Int) (a1_6 : Int) : Option (Bool):=(tidingsref01_Has.f k l0_4 a1_1 a1_2).bind fun t276=>(some t276)
set_option maxHeartbeats 8000000 in
set_option maxRecDepth 100000 in
theorem tidingsref05_Known.calls (k : Nat) (a0_0 : Int) (a0_1 : Int) (a0_2 : Int) (a0_3 : Int) (A0_4 : Option Addr) (c0_4 : Nat) (l0_4 : List (S67)) (A0_5 : Option Addr) (c0_5 : Nat) (l0_5 : List (S62)) (a0_6 : Bool) (a0_7 : Int) (a0_8 : Int) (a0_9 : Int) (a0_10 : Int) (A0_11 : Option Addr) (c0_11 : Nat) (l0_11 : List (S67)) (a0_12 : Int) (a1_0 : Int) (a1_1 : Int) (a1_2 : Int) (a1_3 : Int) (a1_4 : Int) (a1_5 : Int) (a1_6 : Int) (r : Bool) (w : World) (hr0_4 : Kd.C k67 w A0_4 l0_4.length l0_4) (hc0_4 : l0_4.length ≤ c0_4) (hr0_5 : Kd.C k62 w A0_5 l0_5.length l0_5) (hc0_5 : l0_5.length ≤ c0_5) (hr0_11 : Kd.C k67 w A0_11 l0_11.length l0_11) (hc0_11 : l0_11.length ≤ c0_11) (h : tidingsref05_Known.f k a0_0 a0_1 a0_2 a0_3 l0_4 l0_5 a0_6 a0_7 a0_8 a0_9 a0_10 l0_11 a0_12 a1_0 a1_1 a1_2 a1_3 a1_4 a1_5 a1_6 = some r) :
 Calls Tryz.prog 64 #[.agg #[.int .u8 a0_0,.int .u8 a0_1,.int .u32 a0_2,.int .u32 a0_3,.slice A0_4 l0_4.length c0_4,.slice A0_5 l0_5.length c0_5,.bool a0_6,.int .u32 a0_7,.int .u8 a0_8,.int .u8 a0_9,.int .u32 a0_10,.slice A0_11 l0_11.length c0_11,.int .u32 a0_12],.agg #[.int .u8 a1_0,.int .u8 a1_1,.int .u32 a1_2,.int .u32 a1_3,.int .i64 a1_4,.int .u8 a1_5,.int .u32 a1_6]] w fun e w'=>e = .returned (.bool r) ∧ Below w.heap.size w w':=by
 have hu28:=Tryz.underlying28
 have hu62:=Tryz.underlying62
 have HR0_4:=Aside0.mk hr0_4
 have HC0_4:=Aside0.mk hc0_4
 clear hr0_4 hc0_4
 have HR0_5:=Aside0.mk hr0_5
 have HC0_5:=Aside0.mk hc0_5
 clear hr0_5 hc0_5
 have HR0_11:=Aside0.mk hr0_11
 have HC0_11:=Aside0.mk hc0_11
 clear hr0_11 hc0_11
 have HB:=Aside0.mk (Below.refl w.heap.size w)
 have H : ((tidingsref01_Has.f k l0_4 a1_1 a1_2).bind fun t276=>(some t276)) = some r:=h
 clear h
 replace H:=Option.bind_eq_some_iff.mp H
 obtain ⟨t276,A30,H⟩:=H
 have A3:=Aside0.mk A30
 clear A30
 obtain rfl:=Option.some.inj H
 go_enter Tryz.func64,Tryz.ntmps64
 go_wp2_with (first | ((with_reducible refine gate_dst (N:=2) rfl ?_);refine box_event ?hg (N:=2) ?hd (cs:=#[.int .u8 a0_0,.int .u8 a0_1,.int .u32 a0_2,.int .u32 a0_3,.slice A0_4 l0_4.length c0_4,.slice A0_5 l0_5.length c0_5,.bool a0_6,.int .u32 a0_7,.int .u8 a0_8,.int .u8 a0_9,.int .u32 a0_10,.slice A0_11 l0_11.length c0_11,.int .u32 a0_12]) (t:=28) ?hr ?_;(case hd=>rfl);(case hg=>rfl);(case hr=>(go_simp;done));intro gb274 hg w4 hbox hb;have n0_:=Aside0.mk (below_step (by repeat (first | (with_reducible first | exact HB.out | apply below_alloc | apply pw_below_drewN | apply below_drew1) | exact HB.out)) hb);have n1_:=Aside0.mk (hbox);have n2_:=Aside0.mk ((by rw [hg];exact (below_size (by repeat (first | (with_reducible first | exact HB.out | apply below_alloc | apply pw_below_drewN | apply below_drew1) | exact HB.out))) : w.heap.size ≤ gb274));have n3_:=Aside0.mk ((by rw [hg];exact (below_size (by repeat (first | (with_reducible first | exact HB.out | apply below_alloc | apply pw_below_drewN | apply below_drew1) | exact HB.out))) : w.heap.size ≤ gb274));clear HB;have HB:=n0_;have BK274:=n1_;have GW274:=n2_;have GE274:=n3_;clear n0_ n1_ n2_ n3_;clear hb hbox hg) | ((with_reducible refine gate_dst (N:=3) rfl ?_);refine box_event ?hg (N:=3) ?hd (cs:=#[.int .u8 a1_0,.int .u8 a1_1,.int .u32 a1_2,.int .u32 a1_3,.int .i64 a1_4,.int .u8 a1_5,.int .u32 a1_6]) (t:=62) ?hr ?_;(case hd=>rfl);(case hg=>rfl);(case hr=>(go_simp;done));intro gb275 hg w5 hbox hb;have n0_:=Aside0.mk (blk_below (g:=gb274) (o:=.cells #[.int .u8 a0_0,.int .u8 a0_1,.int .u32 a0_2,.int .u32 a0_3,.slice A0_4 l0_4.length c0_4,.slice A0_5 l0_5.length c0_5,.bool a0_6,.int .u32 a0_7,.int .u8 a0_8,.int .u8 a0_9,.int .u32 a0_10,.slice A0_11 l0_11.length c0_11,.int .u32 a0_12] 28 (0,0)) (by (with_reducible repeat (first | refine blk_drewN ?_ _ | refine blk_drew ?_ | refine blk_alloc ?_ _));exact BK274.out) hb);have n1_:=Aside0.mk (below_step (by repeat (first | (with_reducible first | exact HB.out | apply below_alloc | apply pw_below_drewN | apply below_drew1 | refine below_set ?_ GE274.out) | exact HB.out)) hb);have n2_:=Aside0.mk (hbox);have n3_:=Aside0.mk ((by rw [hg];exact (below_size (by repeat (first | (with_reducible first | exact HB.out | apply below_alloc | apply pw_below_drewN | apply below_drew1 | refine below_set ?_ GE274.out) | exact HB.out))) : w.heap.size ≤ gb275));have n4_:=Aside0.mk ((by rw [hg];exact (below_size (by repeat (first | (with_reducible first | exact HB.out | apply below_alloc | apply pw_below_drewN | apply below_drew1 | refine below_set ?_ GE274.out) | exact HB.out))) : w.heap.size ≤ gb275));have n5_:=Aside0.mk ((by rw [hg];exact Nat.ne_of_lt (blk_lt (g:=gb274) (o:=.cells #[.int .u8 a0_0,.int .u8 a0_1,.int .u32 a0_2,.int .u32 a0_3,.slice A0_4 l0_4.length c0_4,.slice A0_5 l0_5.length c0_5,.bool a0_6,.int .u32 a0_7,.int .u8 a0_8,.int .u8 a0_9,.int .u32 a0_10,.slice A0_11 l0_11.length c0_11,.int .u32 a0_12] 28 (0,0)) (by (with_reducible repeat (first | refine blk_drewN ?_ _ | refine blk_drew ?_ | refine blk_alloc ?_ _));exact BK274.out)) : gb274 ≠ gb275));have n6_:=Aside0.mk ((by rw [hg];exact Nat.ne_of_gt (blk_lt (g:=gb274) (o:=.cells #[.int .u8 a0_0,.int .u8 a0_1,.int .u32 a0_2,.int .u32 a0_3,.slice A0_4 l0_4.length c0_4,.slice A0_5 l0_5.length c0_5,.bool a0_6,.int .u32 a0_7,.int .u8 a0_8,.int .u8 a0_9,.int .u32 a0_10,.slice A0_11 l0_11.length c0_11,.int .u32 a0_12] 28 (0,0)) (by (with_reducible repeat (first | refine blk_drewN ?_ _ | refine blk_drew ?_ | refine blk_alloc ?_ _));exact BK274.out)) : gb275 ≠ gb274));clear BK274;clear HB;have BK274:=n0_;have HB:=n1_;have BK275:=n2_;have GW275:=n3_;have GE275:=n4_;have NB274_275:=n5_;have NB275_274:=n6_;clear n0_ n1_ n2_ n3_ n4_ n5_ n6_;clear hb hbox hg;have hnb6:=NB274_275.out;have hnc6:=NB275_274.out;have hcz7_0 : w5.cell? ⟨gb274,0,none⟩ = some (.int .u8 a0_0):=(blk_cell BK274.out 0).trans rfl;have hcz7_1 : w5.cell? ⟨gb274,1,none⟩ = some (.int .u8 a0_1):=(blk_cell BK274.out 1).trans rfl;have hcz7_2 : w5.cell? ⟨gb274,2,none⟩ = some (.int .u32 a0_2):=(blk_cell BK274.out 2).trans rfl;have hcz7_3 : w5.cell? ⟨gb274,3,none⟩ = some (.int .u32 a0_3):=(blk_cell BK274.out 3).trans rfl;have hcz7_4 : w5.cell? ⟨gb274,4,none⟩ = some (.slice A0_4 l0_4.length c0_4):=(blk_cell BK274.out 4).trans rfl;have hcz7_5 : w5.cell? ⟨gb274,5,none⟩ = some (.slice A0_5 l0_5.length c0_5):=(blk_cell BK274.out 5).trans rfl;have hcz7_6 : w5.cell? ⟨gb274,6,none⟩ = some (.bool a0_6):=(blk_cell BK274.out 6).trans rfl;have hcz7_7 : w5.cell? ⟨gb274,7,none⟩ = some (.int .u32 a0_7):=(blk_cell BK274.out 7).trans rfl;have hcz7_8 : w5.cell? ⟨gb274,8,none⟩ = some (.int .u8 a0_8):=(blk_cell BK274.out 8).trans rfl;have hcz7_9 : w5.cell? ⟨gb274,9,none⟩ = some (.int .u8 a0_9):=(blk_cell BK274.out 9).trans rfl;have hcz7_10 : w5.cell? ⟨gb274,10,none⟩ = some (.int .u32 a0_10):=(blk_cell BK274.out 10).trans rfl;have hcz7_11 : w5.cell? ⟨gb274,11,none⟩ = some (.slice A0_11 l0_11.length c0_11):=(blk_cell BK274.out 11).trans rfl;have hcz7_12 : w5.cell? ⟨gb274,12,none⟩ = some (.int .u32 a0_12):=(blk_cell BK274.out 12).trans rfl;have hfz7_0:=blk_frozen BK274.out 0;have hfz7_1:=blk_frozen BK274.out 1;have hfz7_2:=blk_frozen BK274.out 2;have hfz7_3:=blk_frozen BK274.out 3;have hfz7_4:=blk_frozen BK274.out 4;have hfz7_5:=blk_frozen BK274.out 5;have hfz7_6:=blk_frozen BK274.out 6;have hfz7_7:=blk_frozen BK274.out 7;have hfz7_8:=blk_frozen BK274.out 8;have hfz7_9:=blk_frozen BK274.out 9;have hfz7_10:=blk_frozen BK274.out 10;have hfz7_11:=blk_frozen BK274.out 11;have hfz7_12:=blk_frozen BK274.out 12;have hcz8_0 : w5.cell? ⟨gb275,0,none⟩ = some (.int .u8 a1_0):=(blk_cell BK275.out 0).trans rfl;have hcz8_1 : w5.cell? ⟨gb275,1,none⟩ = some (.int .u8 a1_1):=(blk_cell BK275.out 1).trans rfl;have hcz8_2 : w5.cell? ⟨gb275,2,none⟩ = some (.int .u32 a1_2):=(blk_cell BK275.out 2).trans rfl;have hcz8_3 : w5.cell? ⟨gb275,3,none⟩ = some (.int .u32 a1_3):=(blk_cell BK275.out 3).trans rfl;have hcz8_4 : w5.cell? ⟨gb275,4,none⟩ = some (.int .i64 a1_4):=(blk_cell BK275.out 4).trans rfl;have hcz8_5 : w5.cell? ⟨gb275,5,none⟩ = some (.int .u8 a1_5):=(blk_cell BK275.out 5).trans rfl;have hcz8_6 : w5.cell? ⟨gb275,6,none⟩ = some (.int .u32 a1_6):=(blk_cell BK275.out 6).trans rfl;have hfz8_0:=blk_frozen BK275.out 0;have hfz8_1:=blk_frozen BK275.out 1;have hfz8_2:=blk_frozen BK275.out 2;have hfz8_3:=blk_frozen BK275.out 3;have hfz8_4:=blk_frozen BK275.out 4;have hfz8_5:=blk_frozen BK275.out 5;have hfz8_6:=blk_frozen BK275.out 6) | ((with_reducible refine gate_callee (f:=92) rfl ?_);refine goesL_ (some 13) rfl rfl Tryz.func92 (by kernel_rfl) rfl #[.slice A0_4 l0_4.length c0_4,.int .u8 a1_1,.int .u32 a1_2] rfl (by (try simp only [List.map_toArray,List.map_cons,List.map_nil]);first | done | rfl) ?_;(with_reducible refine (tidingsref01_Has.calls k _ _ l0_4 a1_1 a1_2 t276 _ ?side1 ?side2 A3.out).mono ?_);(case side1=>repeat (first | exact (Kd.C_below HR0_4.out HB.out) | (with_reducible refine Kd.C_alloc ?_ _) | (with_reducible refine Kd.C_drewN ?_ _) | (with_reducible refine Kd.C_drew ?_)));(case side2=>exact HC0_4.out);rintro e w' ⟨rfl,⟨nd,rfl⟩⟩;refine ⟨_,rfl,?_⟩))
 go_ret
 exact ⟨by first | rfl,by repeat (first | (with_reducible first | exact HB.out | apply below_alloc | apply pw_below_drewN | apply below_drew1 | refine below_set ?_ GE274.out | refine below_set ?_ GE275.out) | exact HB.out)⟩
/-! ### tidingsref02_In: function 40 -/
def tidingsref02_In.l0 : Nat → Int → Int → Int → Int → Int → Int → Int → Int → Int → Option (Bool)
 | 0,_,_,_,_,_,_,_,_,_=>none
 | k + 1,x5,x6,x278000,x278001,x278002,x278003,x278004,x278005,x278006=>if x6 < (wrap64 (x278005)) then (tidingsref02_In.l0 k (wrap64 (Int.tdiv x5 2)) (wrap64 (x6 + 1)) x278000 x278001 x278002 x278003 x278004 x278005 x278006) else (some ((Int.tmod x5 2) == 1))
def tidingsref02_In.f (k : Nat) (a0_0 : Int) (a0_1 : Int) (a0_2 : Int) (a0_3 : Int) (a0_4 : Int) (a0_5 : Int) (a0_6 : Int) (a1 : Int) : Option (Bool):=if a0_4 = 3 then (some true) else (tidingsref02_In.l0 k (wrap64 (a1)) 0 a0_0 a0_1 a0_2 a0_3 a0_4 a0_5 a0_6)
set_option maxHeartbeats 8000000 in
set_option maxRecDepth 100000 in
theorem tidingsref02_In.calls (k : Nat) (a0_0 : Int) (a0_1 : Int) (a0_2 : Int) (a0_3 : Int) (a0_4 : Int) (a0_5 : Int) (a0_6 : Int) (a1 : Int) (r : Bool) (w : World) (h : tidingsref02_In.f k a0_0 a0_1 a0_2 a0_3 a0_4 a0_5 a0_6 a1 = some r) :
 Calls Tryz.prog 40 #[.agg #[.int .u8 a0_0,.int .u8 a0_1,.int .u32 a0_2,.int .u32 a0_3,.int .i64 a0_4,.int .u8 a0_5,.int .u32 a0_6],.int .u8 a1] w fun e w'=>e = .returned (.bool r) ∧ Below w.heap.size w w':=by
 have hu62:=Tryz.underlying62
 have HB:=Aside0.mk (Below.refl w.heap.size w)
 have H : (if a0_4 = 3 then (some true) else (tidingsref02_In.l0 k (wrap64 (a1)) 0 a0_0 a0_1 a0_2 a0_3 a0_4 a0_5 a0_6)) = some r:=h
 clear h
 by_cases c3 : a0_4 = 3
 ·rw [if_pos c3] at H
  have c3b0 : (a0_4 == 3) = true:=beq_iff_eq.mpr c3
  have c3b1 : (a0_4 != 3) = false:=bne_eq_false_iff_eq.mpr c3
  clear c3
  obtain rfl:=Option.some.inj H
  go_enter Tryz.func40,Tryz.ntmps40
  go_wp2_with (((with_reducible refine gate_dst (N:=2) rfl ?_);refine box_event ?hg (N:=2) ?hd (cs:=#[.int .u8 a0_0,.int .u8 a0_1,.int .u32 a0_2,.int .u32 a0_3,.int .i64 a0_4,.int .u8 a0_5,.int .u32 a0_6]) (t:=62) ?hr ?_;(case hd=>rfl);(case hg=>rfl);(case hr=>(go_simp;done));intro gb277 hg w4 hbox hb;have n0_:=Aside0.mk (below_step (by repeat (first | (with_reducible first | exact HB.out | apply below_alloc | apply pw_below_drewN | apply below_drew1) | exact HB.out)) hb);have n1_:=Aside0.mk (hbox);have n2_:=Aside0.mk ((by rw [hg];exact (below_size (by repeat (first | (with_reducible first | exact HB.out | apply below_alloc | apply pw_below_drewN | apply below_drew1) | exact HB.out))) : w.heap.size ≤ gb277));have n3_:=Aside0.mk ((by rw [hg];exact (below_size (by repeat (first | (with_reducible first | exact HB.out | apply below_alloc | apply pw_below_drewN | apply below_drew1) | exact HB.out))) : w.heap.size ≤ gb277));clear HB;have HB:=n0_;have BK277:=n1_;have GW277:=n2_;have GE277:=n3_;clear n0_ n1_ n2_ n3_;clear hb hbox hg;have hcz5_0 : w4.cell? ⟨gb277,0,none⟩ = some (.int .u8 a0_0):=(blk_cell BK277.out 0).trans rfl;have hcz5_1 : w4.cell? ⟨gb277,1,none⟩ = some (.int .u8 a0_1):=(blk_cell BK277.out 1).trans rfl;have hcz5_2 : w4.cell? ⟨gb277,2,none⟩ = some (.int .u32 a0_2):=(blk_cell BK277.out 2).trans rfl;have hcz5_3 : w4.cell? ⟨gb277,3,none⟩ = some (.int .u32 a0_3):=(blk_cell BK277.out 3).trans rfl;have hcz5_4 : w4.cell? ⟨gb277,4,none⟩ = some (.int .i64 a0_4):=(blk_cell BK277.out 4).trans rfl;have hcz5_5 : w4.cell? ⟨gb277,5,none⟩ = some (.int .u8 a0_5):=(blk_cell BK277.out 5).trans rfl;have hcz5_6 : w4.cell? ⟨gb277,6,none⟩ = some (.int .u32 a0_6):=(blk_cell BK277.out 6).trans rfl;have hfz5_0:=blk_frozen BK277.out 0;have hfz5_1:=blk_frozen BK277.out 1;have hfz5_2:=blk_frozen BK277.out 2;have hfz5_3:=blk_frozen BK277.out 3;have hfz5_4:=blk_frozen BK277.out 4;have hfz5_5:=blk_frozen BK277.out 5;have hfz5_6:=blk_frozen BK277.out 6))
  go_ret
  exact ⟨by first | rfl,by repeat (first | (with_reducible first | exact HB.out | apply below_alloc | apply pw_below_drewN | apply below_drew1 | refine below_set ?_ GE277.out) | exact HB.out)⟩
 ·rw [if_neg c3] at H
  have c3b0 : (a0_4 == 3) = false:=beq_eq_false_iff_ne.mpr c3
  have c3b1 : (a0_4 != 3) = true:=bne_iff_ne.mpr c3
  have H':=Aside0.mk H
  clear H
  go_enter Tryz.func40,Tryz.ntmps40
  go_wp2_with (((with_reducible refine gate_dst (N:=2) rfl ?_);refine box_event ?hg (N:=2) ?hd (cs:=#[.int .u8 a0_0,.int .u8 a0_1,.int .u32 a0_2,.int .u32 a0_3,.int .i64 a0_4,.int .u8 a0_5,.int .u32 a0_6]) (t:=62) ?hr ?_;(case hd=>rfl);(case hg=>rfl);(case hr=>(go_simp;done));intro gb277 hg w6 hbox hb;have n0_:=Aside0.mk (below_step (by repeat (first | (with_reducible first | exact HB.out | apply below_alloc | apply pw_below_drewN | apply below_drew1) | exact HB.out)) hb);have n1_:=Aside0.mk (hbox);have n2_:=Aside0.mk ((by rw [hg];exact (below_size (by repeat (first | (with_reducible first | exact HB.out | apply below_alloc | apply pw_below_drewN | apply below_drew1) | exact HB.out))) : w.heap.size ≤ gb277));have n3_:=Aside0.mk ((by rw [hg];exact (below_size (by repeat (first | (with_reducible first | exact HB.out | apply below_alloc | apply pw_below_drewN | apply below_drew1) | exact HB.out))) : w.heap.size ≤ gb277));clear HB;have HB:=n0_;have BK277:=n1_;have GW277:=n2_;have GE277:=n3_;clear n0_ n1_ n2_ n3_;clear hb hbox hg;have hcz7_0 : w6.cell? ⟨gb277,0,none⟩ = some (.int .u8 a0_0):=(blk_cell BK277.out 0).trans rfl;have hcz7_1 : w6.cell? ⟨gb277,1,none⟩ = some (.int .u8 a0_1):=(blk_cell BK277.out 1).trans rfl;have hcz7_2 : w6.cell? ⟨gb277,2,none⟩ = some (.int .u32 a0_2):=(blk_cell BK277.out 2).trans rfl;have hcz7_3 : w6.cell? ⟨gb277,3,none⟩ = some (.int .u32 a0_3):=(blk_cell BK277.out 3).trans rfl;have hcz7_4 : w6.cell? ⟨gb277,4,none⟩ = some (.int .i64 a0_4):=(blk_cell BK277.out 4).trans rfl;have hcz7_5 : w6.cell? ⟨gb277,5,none⟩ = some (.int .u8 a0_5):=(blk_cell BK277.out 5).trans rfl;have hcz7_6 : w6.cell? ⟨gb277,6,none⟩ = some (.int .u32 a0_6):=(blk_cell BK277.out 6).trans rfl;have hfz7_0:=blk_frozen BK277.out 0;have hfz7_1:=blk_frozen BK277.out 1;have hfz7_2:=blk_frozen BK277.out 2;have hfz7_3:=blk_frozen BK277.out 3;have hfz7_4:=blk_frozen BK277.out 4;have hfz7_5:=blk_frozen BK277.out 5;have hfz7_6:=blk_frozen BK277.out 6))
  go_loopg [5,6] k (fun kq v5 v6 w'=>∃ (x5_1 : Int) (x6_1 : Int),v5 = .int .i64 x5_1 ∧ v6 = .int .i64 x6_1 ∧ Aside0 (tidingsref02_In.l0 kq x5_1 x6_1 a0_0 a0_1 a0_2 a0_3 a0_4 a0_5 a0_6 = some r) ∧ Aside0 (kq ≤ k) ∧ Aside0 (w'.heap[gb277]? = some (.cells #[.int .u8 a0_0,.int .u8 a0_1,.int .u32 a0_2,.int .u32 a0_3,.int .i64 a0_4,.int .u8 a0_5,.int .u32 a0_6] 62 (0,0))) ∧ Aside0 (Below w.heap.size w w'))
  case atStart=>exact ⟨(wrap64 (a1)),(0),(by first | rfl),(by first | rfl),H',⟨Nat.le_refl _⟩,⟨by (with_reducible repeat (first | refine blk_drewN ?_ _ | refine blk_drew ?_ | refine blk_alloc ?_ _));exact BK277.out⟩,⟨by repeat (first | (with_reducible first | exact HB.out | apply below_alloc | apply pw_below_drewN | apply below_drew1 | refine below_set ?_ GE277.out) | exact HB.out)⟩⟩
  case round =>
   clear H'
   try clear p2
   try clear c3
   try clear c3b0
   try clear c3b1
   try clear c4
   try clear p6
   try clear hcz5_0
   try clear hcz5_1
   try clear hcz5_2
   try clear hcz5_3
   try clear hcz5_4
   try clear hcz5_5
   try clear hcz5_6
   try clear hcz7_0
   try clear hcz7_1
   try clear hcz7_2
   try clear hcz7_3
   try clear hcz7_4
   try clear hcz7_5
   try clear hcz7_6
   try clear hfz5_0
   try clear hfz5_1
   try clear hfz5_2
   try clear hfz5_3
   try clear hfz5_4
   try clear hfz5_5
   try clear hfz5_6
   try clear hfz7_0
   try clear hfz7_1
   try clear hfz7_2
   try clear hfz7_3
   try clear hfz7_4
   try clear hfz7_5
   try clear hfz7_6
   obtain ⟨x5_1,x6_1,rfl,rfl,HA,HK1,BK277,HB⟩:=hrel
   cases gk with
   | zero=>exact absurd HA.out (by simp [tidingsref02_In.l0])
   | succ k1 =>
    have H:=HA.out
    clear HA
    simp only [tidingsref02_In.l0] at H
    by_cases c8 : x6_1 < (wrap64 (a0_5))
    ·rw [if_pos c8] at H
     have c8b0 : decide (x6_1 < (wrap64 (a0_5))) = true:=decide_eq_true c8
     clear c8
     have H':=Aside0.mk H
     clear H
     obtain ⟨hcz9_0,hcz9_1,hcz9_2,hcz9_3,hcz9_4,hcz9_5,hcz9_6⟩:=cells7 BK277.out
     go_wp2
     go_roundg k1
     case measure=>have:=HK1.out;omega
     case rel=>exact ⟨(wrap64 (Int.tdiv x5_1 2)),(wrap64 (x6_1 + 1)),(by first | rfl),(by first | rfl),H',⟨by have:=HK1.out;omega⟩,⟨by (with_reducible repeat (first | refine blk_drewN ?_ _ | refine blk_drew ?_ | refine blk_alloc ?_ _));exact BK277.out⟩,⟨by repeat (first | (with_reducible first | exact HB.out | apply below_alloc | apply pw_below_drewN | apply below_drew1 | refine below_set ?_ GE277.out) | exact HB.out)⟩⟩
    ·rw [if_neg c8] at H
     have c8b0 : decide (x6_1 < (wrap64 (a0_5))) = false:=decide_eq_false c8
     clear c8
     obtain rfl:=Option.some.inj H
     obtain ⟨hcz10_0,hcz10_1,hcz10_2,hcz10_3,hcz10_4,hcz10_5,hcz10_6⟩:=cells7 BK277.out
     go_wp2
     go_ret
     exact ⟨by first | rfl,by repeat (first | (with_reducible first | exact HB.out | apply below_alloc | apply pw_below_drewN | apply below_drew1 | refine below_set ?_ GE277.out) | exact HB.out)⟩
end Go.Proofs.YtiminjibcafkaaaGreatDoor.X
