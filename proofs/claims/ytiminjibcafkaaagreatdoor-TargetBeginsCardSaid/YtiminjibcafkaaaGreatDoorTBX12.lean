-- MADE BY wip/prx.py (the kit's printer, with contracts proved by hand). Not trusted: Lean checks it.
import Derived.Test.YtiminjibcafkaaaGreatDoorTBJ5
import Derived.Test.YtiminjibcafkaaaGreatDoorTBJ4
import Derived.Test.YtiminjibcafkaaaGreatDoorTBXhreplicaRight
import Derived.Test.YtiminjibcafkaaaGreatDoorTBX10
import Derived.Test.YtiminjibcafkaaaGreatDoorTBX11
namespace Go.Proofs.YtiminjibcafkaaaGreatDoor.X
open Go.RowKit Go.Proofs.YtiminjibcafkaaaGreatDoorW.PrintWords Go.Proofs.YtiminjibcafkaaaGreatDoorW.PrintLast Go.Proofs.YtiminjibcafkaaaGreatDoorW.PrintMore
attribute [local go_sem] max2_int min2_int max_two min_two max_three min_three max_four min_four   -- for this text's walks alone
set_option linter.unusedVariables false
set_option linter.unusedSimpArgs false
/-! ### note_Right: function 16 -/
def note_Right.j0 : Nat → Bool → Int → Int → Int → Int → Int → Int → List (S67) → Int → List (S62) → Int → Bool → List (S67) → Option (Bool)
 | 0,_,_,_,_,_,_,_,_,_,_,_,_,_=>none
 | k + 1,x27,x140000,x140001,x140002,x140003,x140004,x140005,x140006,x140007,x140008,x140009,x140010,x140011=>if x27 = true then (some false) else (if x140000 = 1 then ((note_pull.f k x140000 x140001 x140002 x140003 x140004 x140005 x140006 x140007 x140008 x140009 x140010 x140011).bind fun t140=>(if t140 = true then (some true) else (if x140000 = 2 then ((note_batch.f k x140000 x140001 x140002 x140003 x140004 x140005 x140006 x140007 x140008 x140009 x140010 x140011).bind fun t141=>(some t141)) else (some false)))) else (if x140000 = 2 then ((note_batch.f k x140000 x140001 x140002 x140003 x140004 x140005 x140006 x140007 x140008 x140009 x140010 x140011).bind fun t142=>(some t142)) else (some false)))
def note_Right.f (k : Nat) (a0_0 : Int) (a0_1 : Int) (a0_2 : Int) (a0_3 : Int) (a0_4 : Int) (a0_5 : Int) (l0_6 : List (S67)) (a0_7 : Int) (l0_8 : List (S62)) (a0_9 : Int) (a0_10 : Bool) (l0_11 : List (S67)) : Option (Bool):=if a0_1 ≥ 8 then (note_Right.j0 k true a0_0 a0_1 a0_2 a0_3 a0_4 a0_5 l0_6 a0_7 l0_8 a0_9 a0_10 l0_11) else (if a0_2 ≥ 8 then (note_Right.j0 k true a0_0 a0_1 a0_2 a0_3 a0_4 a0_5 l0_6 a0_7 l0_8 a0_9 a0_10 l0_11) else (if a0_1 = a0_2 then (note_Right.j0 k true a0_0 a0_1 a0_2 a0_3 a0_4 a0_5 l0_6 a0_7 l0_8 a0_9 a0_10 l0_11) else (if a0_3 = 0 then (note_Right.j0 k true a0_0 a0_1 a0_2 a0_3 a0_4 a0_5 l0_6 a0_7 l0_8 a0_9 a0_10 l0_11) else (note_Right.j0 k (decide (a0_4 ≥ 64)) a0_0 a0_1 a0_2 a0_3 a0_4 a0_5 l0_6 a0_7 l0_8 a0_9 a0_10 l0_11))))
set_option maxHeartbeats 8000000 in
set_option maxRecDepth 100000 in
theorem note_Right.calls (k : Nat) (a0_0 : Int) (a0_1 : Int) (a0_2 : Int) (a0_3 : Int) (a0_4 : Int) (a0_5 : Int) (A0_6 : Option Addr) (c0_6 : Nat) (l0_6 : List (S67)) (a0_7 : Int) (A0_8 : Option Addr) (c0_8 : Nat) (l0_8 : List (S62)) (a0_9 : Int) (a0_10 : Bool) (A0_11 : Option Addr) (c0_11 : Nat) (l0_11 : List (S67)) (r : Bool) (w : World) (hr0_6 : Kd.C k67 w A0_6 l0_6.length l0_6) (hc0_6 : l0_6.length ≤ c0_6) (hr0_8 : Kd.C k62 w A0_8 l0_8.length l0_8) (hc0_8 : l0_8.length ≤ c0_8) (hr0_11 : Kd.C k67 w A0_11 l0_11.length l0_11) (hc0_11 : l0_11.length ≤ c0_11) (h : note_Right.f k a0_0 a0_1 a0_2 a0_3 a0_4 a0_5 l0_6 a0_7 l0_8 a0_9 a0_10 l0_11 = some r) :
 Calls Tryz.prog 16 #[.agg #[.int .i64 a0_0,.int .u8 a0_1,.int .u8 a0_2,.int .u32 a0_3,.int .u8 a0_4,.int .u8 a0_5,.slice A0_6 l0_6.length c0_6,.int .u32 a0_7,.slice A0_8 l0_8.length c0_8,.int .u8 a0_9,.bool a0_10,.slice A0_11 l0_11.length c0_11]] w fun e w'=>e = .returned (.bool r) ∧ Below w.heap.size w w':=by
 have hu30:=Tryz.underlying30
 have HR0_6:=Aside0.mk hr0_6
 have HC0_6:=Aside0.mk hc0_6
 clear hr0_6 hc0_6
 have HR0_8:=Aside0.mk hr0_8
 have HC0_8:=Aside0.mk hc0_8
 clear hr0_8 hc0_8
 have HR0_11:=Aside0.mk hr0_11
 have HC0_11:=Aside0.mk hc0_11
 clear hr0_11 hc0_11
 have HB:=Aside0.mk (Below.refl w.heap.size w)
 have H : (if a0_1 ≥ 8 then (note_Right.j0 k true a0_0 a0_1 a0_2 a0_3 a0_4 a0_5 l0_6 a0_7 l0_8 a0_9 a0_10 l0_11) else (if a0_2 ≥ 8 then (note_Right.j0 k true a0_0 a0_1 a0_2 a0_3 a0_4 a0_5 l0_6 a0_7 l0_8 a0_9 a0_10 l0_11) else (if a0_1 = a0_2 then (note_Right.j0 k true a0_0 a0_1 a0_2 a0_3 a0_4 a0_5 l0_6 a0_7 l0_8 a0_9 a0_10 l0_11) else (if a0_3 = 0 then (note_Right.j0 k true a0_0 a0_1 a0_2 a0_3 a0_4 a0_5 l0_6 a0_7 l0_8 a0_9 a0_10 l0_11) else (note_Right.j0 k (decide (a0_4 ≥ 64)) a0_0 a0_1 a0_2 a0_3 a0_4 a0_5 l0_6 a0_7 l0_8 a0_9 a0_10 l0_11))))) = some r:=h
 clear h
 have HC2:=Aside0.mk H
 clear H
 go_enter Tryz.func16,Tryz.ntmps16
 go_upto_region 1 with (((with_reducible refine gate_dst (N:=1) rfl ?_);refine box_event ?hg (N:=1) ?hd (cs:=#[.int .i64 a0_0,.int .u8 a0_1,.int .u8 a0_2,.int .u32 a0_3,.int .u8 a0_4,.int .u8 a0_5,.slice A0_6 l0_6.length c0_6,.int .u32 a0_7,.slice A0_8 l0_8.length c0_8,.int .u8 a0_9,.bool a0_10,.slice A0_11 l0_11.length c0_11]) (t:=30) ?hr ?_;(case hd=>rfl);(case hg=>rfl);(case hr=>(go_simp;done));intro gb139 hg w3 hbox hb;have n0_:=Aside0.mk (below_step (by repeat ((with_reducible first | exact HB.out))) hb);have n1_:=Aside0.mk (hbox);have n2_:=Aside0.mk ((by rw [hg];exact (below_size (by repeat ((with_reducible first | exact HB.out)))) : w.heap.size ≤ gb139));have n3_:=Aside0.mk ((by rw [hg];exact (below_size (by repeat ((with_reducible first | exact HB.out)))) : w.heap.size ≤ gb139));clear HB;have HB:=n0_;have BK139:=n1_;have GW139:=n2_;have GE139:=n3_;clear n0_ n1_ n2_ n3_ hb hbox hg))
 go_cut [27] (fun v27 wc=>∃ (kq : Nat) (x27_1 : Bool),v27 = .bool x27_1 ∧ Aside0 (note_Right.j0 kq x27_1 a0_0 a0_1 a0_2 a0_3 a0_4 a0_5 l0_6 a0_7 l0_8 a0_9 a0_10 l0_11 = some r) ∧ Aside0 (kq ≤ k) ∧ Aside0 (wc.heap[gb139]? = some (.cells #[.int .i64 a0_0,.int .u8 a0_1,.int .u8 a0_2,.int .u32 a0_3,.int .u8 a0_4,.int .u8 a0_5,(.slice A0_6 l0_6.length c0_6),.int .u32 a0_7,(.slice A0_8 l0_8.length c0_8),.int .u8 a0_9,.bool a0_10,(.slice A0_11 l0_11.length c0_11)] 30 (0,0))) ∧ Aside0 (Below w.heap.size w wc))
 case first =>
  have H:=HC2.out
  clear HC2
  by_cases c4 : a0_1 ≥ 8
  ·rw [if_pos c4] at H
   have c4b0 : decide (8 ≤ a0_1) = true:=decide_eq_true c4
   clear c4
   (first | skip)
   have H':=Aside0.mk H
   clear H
   obtain ⟨hcz5_0,hcz5_1,hcz5_2,hcz5_3,hcz5_4,hcz5_5,hcz5_6,hcz5_7,hcz5_8,hcz5_9,hcz5_10,hcz5_11⟩:=cells12 BK139.out
   go_wp2
   go_meet
   case rel=>exact ⟨_,(true),(by first | rfl),H',⟨by first | omega⟩,⟨BK139.out⟩,⟨by repeat ((with_reducible first | exact HB.out))⟩⟩
  ·rw [if_neg c4] at H
   have c4b0 : decide (8 ≤ a0_1) = false:=decide_eq_false c4
   clear c4
   (first | skip)
   by_cases c6 : a0_2 ≥ 8
   ·rw [if_pos c6] at H
    have c6b0 : decide (8 ≤ a0_2) = true:=decide_eq_true c6
    clear c6
    have H':=Aside0.mk H
    clear H
    obtain ⟨hcz7_0,hcz7_1,hcz7_2,hcz7_3,hcz7_4,hcz7_5,hcz7_6,hcz7_7,hcz7_8,hcz7_9,hcz7_10,hcz7_11⟩:=cells12 BK139.out
    go_wp2
    go_meet
    case rel=>exact ⟨_,(true),(by first | rfl),H',⟨by first | omega⟩,⟨BK139.out⟩,⟨by repeat ((with_reducible first | exact HB.out))⟩⟩
   ·rw [if_neg c6] at H
    have c6b0 : decide (8 ≤ a0_2) = false:=decide_eq_false c6
    clear c6
    by_cases c8 : a0_1 = a0_2
    ·rw [if_pos c8] at H
     have c8b0 : (a0_1 == a0_2) = true:=beq_iff_eq.mpr c8
     have c8b1 : (a0_1 != a0_2) = false:=bne_eq_false_iff_eq.mpr c8
     clear c8
     have H':=Aside0.mk H
     clear H
     obtain ⟨hcz9_0,hcz9_1,hcz9_2,hcz9_3,hcz9_4,hcz9_5,hcz9_6,hcz9_7,hcz9_8,hcz9_9,hcz9_10,hcz9_11⟩:=cells12 BK139.out
     go_wp2
     go_meet
     case rel=>exact ⟨_,(true),(by first | rfl),H',⟨by first | omega⟩,⟨BK139.out⟩,⟨by repeat ((with_reducible first | exact HB.out))⟩⟩
    ·rw [if_neg c8] at H
     have c8b0 : (a0_1 == a0_2) = false:=beq_eq_false_iff_ne.mpr c8
     have c8b1 : (a0_1 != a0_2) = true:=bne_iff_ne.mpr c8
     by_cases c10 : a0_3 = 0
     ·rw [if_pos c10] at H
      have c10b0 : (a0_3 == 0) = true:=beq_iff_eq.mpr c10
      have c10b1 : (a0_3 != 0) = false:=bne_eq_false_iff_eq.mpr c10
      clear c10
      have H':=Aside0.mk H
      clear H
      obtain ⟨hcz11_0,hcz11_1,hcz11_2,hcz11_3,hcz11_4,hcz11_5,hcz11_6,hcz11_7,hcz11_8,hcz11_9,hcz11_10,hcz11_11⟩:=cells12 BK139.out
      go_wp2
      go_meet
      case rel=>exact ⟨_,(true),(by first | rfl),H',⟨by first | omega⟩,⟨BK139.out⟩,⟨by repeat ((with_reducible first | exact HB.out))⟩⟩
     ·rw [if_neg c10] at H
      have c10b0 : (a0_3 == 0) = false:=beq_eq_false_iff_ne.mpr c10
      have c10b1 : (a0_3 != 0) = true:=bne_iff_ne.mpr c10
      have H':=Aside0.mk H
      clear H
      obtain ⟨hcz12_0,hcz12_1,hcz12_2,hcz12_3,hcz12_4,hcz12_5,hcz12_6,hcz12_7,hcz12_8,hcz12_9,hcz12_10,hcz12_11⟩:=cells12 BK139.out
      go_wp2
      go_meet
      case rel=>exact ⟨_,(decide (a0_4 ≥ 64)),(by first | rfl),H',⟨by first | omega⟩,⟨BK139.out⟩,⟨by repeat ((with_reducible first | exact HB.out))⟩⟩
 case rest =>
  clear HC2
  obtain ⟨kq,x27_1,rfl,HA,HJ1,BK139,HB⟩:=hcut
  cases kq with
  | zero=>exact absurd HA.out (by simp [note_Right.j0])
  | succ kj1 =>
   have H:=HA.out
   clear HA
   simp only [note_Right.j0] at H
   by_cases c13 : x27_1 = true
   ·subst c13
    rw [if_pos rfl] at H
    obtain rfl:=Option.some.inj H
    go_wp2
    go_ret
    exact ⟨by first | rfl,by repeat ((with_reducible first | exact HB.out))⟩
   ·replace c13:=Bool.eq_false_iff.mpr c13
    subst c13
    rw [if_neg (show ¬ (false = true) by decide)] at H
    by_cases c14 : a0_0 = 1
    ·rw [if_pos c14] at H
     have c14b0 : (a0_0 == 1) = true:=beq_iff_eq.mpr c14
     have c14b1 : (a0_0 != 1) = false:=bne_eq_false_iff_eq.mpr c14
     clear c14
     replace H:=Option.bind_eq_some_iff.mp H
     obtain ⟨t140,A150,H⟩:=H
     have A15:=Aside0.mk A150
     clear A150
     by_cases c16 : t140 = true
     ·subst c16
      rw [if_pos rfl] at H
      obtain rfl:=Option.some.inj H
      obtain ⟨hcz17_0,hcz17_1,hcz17_2,hcz17_3,hcz17_4,hcz17_5,hcz17_6,hcz17_7,hcz17_8,hcz17_9,hcz17_10,hcz17_11⟩:=cells12 BK139.out
      go_wp2_with ((go_at_call 48;(with_reducible refine (note_pull.calls kj1 a0_0 a0_1 a0_2 a0_3 a0_4 a0_5 _ _ l0_6 a0_7 _ _ l0_8 a0_9 a0_10 _ _ l0_11 true _ ?side1 ?side2 ?side3 ?side4 ?side5 ?side6 A15.out).mono ?_);(case side1=>repeat (first | exact (Kd.C_below HR0_6.out HB.out)));(case side2=>exact HC0_6.out);(case side3=>repeat (first | exact (Kd.C_below HR0_8.out HB.out)));(case side4=>exact HC0_8.out);(case side5=>repeat (first | exact (Kd.C_below HR0_11.out HB.out)));(case side6=>exact HC0_11.out);rintro e w18 ⟨rfl,hb⟩;replace BK139:=Aside0.mk (blk_below BK139.out hb);replace HB:=Aside0.mk (below_step (by repeat ((with_reducible first | exact HB.out))) hb);(try clear hb)))
      go_ret
      exact ⟨by first | rfl,by repeat ((with_reducible first | exact HB.out))⟩
     ·replace c16:=Bool.eq_false_iff.mpr c16
      subst c16
      rw [if_neg (show ¬ (false = true) by decide)] at H
      by_cases c19 : a0_0 = 2
      ·rw [if_pos c19] at H
       have c19b0 : (a0_0 == 2) = true:=beq_iff_eq.mpr c19
       have c19b1 : (a0_0 != 2) = false:=bne_eq_false_iff_eq.mpr c19
       clear c19
       replace H:=Option.bind_eq_some_iff.mp H
       obtain ⟨t141,A200,H⟩:=H
       have A20:=Aside0.mk A200
       clear A200
       obtain rfl:=Option.some.inj H
       obtain ⟨hcz21_0,hcz21_1,hcz21_2,hcz21_3,hcz21_4,hcz21_5,hcz21_6,hcz21_7,hcz21_8,hcz21_9,hcz21_10,hcz21_11⟩:=cells12 BK139.out
       go_wp2_with (first | (go_at_call 48;(with_reducible refine (note_pull.calls kj1 a0_0 a0_1 a0_2 a0_3 a0_4 a0_5 _ _ l0_6 a0_7 _ _ l0_8 a0_9 a0_10 _ _ l0_11 false _ ?side1 ?side2 ?side3 ?side4 ?side5 ?side6 A15.out).mono ?_);(case side1=>repeat (first | exact (Kd.C_below HR0_6.out HB.out)));(case side2=>exact HC0_6.out);(case side3=>repeat (first | exact (Kd.C_below HR0_8.out HB.out)));(case side4=>exact HC0_8.out);(case side5=>repeat (first | exact (Kd.C_below HR0_11.out HB.out)));(case side6=>exact HC0_11.out);rintro e w22 ⟨rfl,hb⟩;replace BK139:=Aside0.mk (blk_below BK139.out hb);replace HB:=Aside0.mk (below_step (by repeat ((with_reducible first | exact HB.out))) hb);(try clear hb);obtain ⟨hcz23_0,hcz23_1,hcz23_2,hcz23_3,hcz23_4,hcz23_5,hcz23_6,hcz23_7,hcz23_8,hcz23_9,hcz23_10,hcz23_11⟩:=cells12 BK139.out) | (go_at_call 49;(with_reducible refine (note_batch.calls kj1 a0_0 a0_1 a0_2 a0_3 a0_4 a0_5 _ _ l0_6 a0_7 _ _ l0_8 a0_9 a0_10 _ _ l0_11 t141 _ ?side1 ?side2 ?side3 ?side4 ?side5 ?side6 A20.out).mono ?_);(case side1=>repeat (first | exact (Kd.C_below HR0_6.out HB.out)));(case side2=>exact HC0_6.out);(case side3=>repeat (first | exact (Kd.C_below HR0_8.out HB.out)));(case side4=>exact HC0_8.out);(case side5=>repeat (first | exact (Kd.C_below HR0_11.out HB.out)));(case side6=>exact HC0_11.out);rintro e w24 ⟨rfl,hb⟩;replace BK139:=Aside0.mk (blk_below BK139.out hb);replace HB:=Aside0.mk (below_step (by repeat ((with_reducible first | exact HB.out))) hb);(try clear hb)))
       go_ret
       exact ⟨by first | rfl,by repeat ((with_reducible first | exact HB.out))⟩
      ·rw [if_neg c19] at H
       have c19b0 : (a0_0 == 2) = false:=beq_eq_false_iff_ne.mpr c19
       have c19b1 : (a0_0 != 2) = true:=bne_iff_ne.mpr c19
       obtain rfl:=Option.some.inj H
       obtain ⟨hcz25_0,hcz25_1,hcz25_2,hcz25_3,hcz25_4,hcz25_5,hcz25_6,hcz25_7,hcz25_8,hcz25_9,hcz25_10,hcz25_11⟩:=cells12 BK139.out
       go_wp2_with ((go_at_call 48;(with_reducible refine (note_pull.calls kj1 a0_0 a0_1 a0_2 a0_3 a0_4 a0_5 _ _ l0_6 a0_7 _ _ l0_8 a0_9 a0_10 _ _ l0_11 false _ ?side1 ?side2 ?side3 ?side4 ?side5 ?side6 A15.out).mono ?_);(case side1=>repeat (first | exact (Kd.C_below HR0_6.out HB.out)));(case side2=>exact HC0_6.out);(case side3=>repeat (first | exact (Kd.C_below HR0_8.out HB.out)));(case side4=>exact HC0_8.out);(case side5=>repeat (first | exact (Kd.C_below HR0_11.out HB.out)));(case side6=>exact HC0_11.out);rintro e w26 ⟨rfl,hb⟩;replace BK139:=Aside0.mk (blk_below BK139.out hb);replace HB:=Aside0.mk (below_step (by repeat ((with_reducible first | exact HB.out))) hb);(try clear hb);obtain ⟨hcz27_0,hcz27_1,hcz27_2,hcz27_3,hcz27_4,hcz27_5,hcz27_6,hcz27_7,hcz27_8,hcz27_9,hcz27_10,hcz27_11⟩:=cells12 BK139.out))
       go_ret
       exact ⟨by first | rfl,by repeat ((with_reducible first | exact HB.out))⟩
    ·rw [if_neg c14] at H
     have c14b0 : (a0_0 == 1) = false:=beq_eq_false_iff_ne.mpr c14
     have c14b1 : (a0_0 != 1) = true:=bne_iff_ne.mpr c14
     by_cases c28 : a0_0 = 2
     ·rw [if_pos c28] at H
      have c28b0 : (a0_0 == 2) = true:=beq_iff_eq.mpr c28
      have c28b1 : (a0_0 != 2) = false:=bne_eq_false_iff_eq.mpr c28
      clear c28
      replace H:=Option.bind_eq_some_iff.mp H
      obtain ⟨t142,A290,H⟩:=H
      have A29:=Aside0.mk A290
      clear A290
      obtain rfl:=Option.some.inj H
      obtain ⟨hcz30_0,hcz30_1,hcz30_2,hcz30_3,hcz30_4,hcz30_5,hcz30_6,hcz30_7,hcz30_8,hcz30_9,hcz30_10,hcz30_11⟩:=cells12 BK139.out
      go_wp2_with ((go_at_call 49;(with_reducible refine (note_batch.calls kj1 a0_0 a0_1 a0_2 a0_3 a0_4 a0_5 _ _ l0_6 a0_7 _ _ l0_8 a0_9 a0_10 _ _ l0_11 t142 _ ?side1 ?side2 ?side3 ?side4 ?side5 ?side6 A29.out).mono ?_);(case side1=>repeat (first | exact (Kd.C_below HR0_6.out HB.out)));(case side2=>exact HC0_6.out);(case side3=>repeat (first | exact (Kd.C_below HR0_8.out HB.out)));(case side4=>exact HC0_8.out);(case side5=>repeat (first | exact (Kd.C_below HR0_11.out HB.out)));(case side6=>exact HC0_11.out);rintro e w31 ⟨rfl,hb⟩;replace BK139:=Aside0.mk (blk_below BK139.out hb);replace HB:=Aside0.mk (below_step (by repeat ((with_reducible first | exact HB.out))) hb);(try clear hb)))
      go_ret
      exact ⟨by first | rfl,by repeat ((with_reducible first | exact HB.out))⟩
     ·rw [if_neg c28] at H
      have c28b0 : (a0_0 == 2) = false:=beq_eq_false_iff_ne.mpr c28
      have c28b1 : (a0_0 != 2) = true:=bne_iff_ne.mpr c28
      obtain rfl:=Option.some.inj H
      obtain ⟨hcz32_0,hcz32_1,hcz32_2,hcz32_3,hcz32_4,hcz32_5,hcz32_6,hcz32_7,hcz32_8,hcz32_9,hcz32_10,hcz32_11⟩:=cells12 BK139.out
      go_wp2
      go_ret
      exact ⟨by first | rfl,by repeat ((with_reducible first | exact HB.out))⟩
/-! ### target_on: function 60 -/
def target_on.f (k : Nat) (a0_0 : Int) (a0_1 : Int) (a0_2 : Int) (a0_3 : Int) (l0_4 : List (S67)) (l0_5 : List (S62)) (a0_6 : Bool) (a0_7 : Int) (a0_8 : Int) (a0_9 : Int) (a0_10 : Int) (l0_11 : List (S67)) (a0_12 : Int) : Option (Option Int):=(replica_Right.f k a0_0 a0_1 a0_2 a0_3 l0_4 l0_5 a0_6 a0_7 a0_8 a0_9 a0_10 l0_11 a0_12).bind fun t144=>(if t144 = true then (if a0_6 = true then (some none) else (some (some 8))) else (some (some 9)))
set_option maxHeartbeats 8000000 in
set_option maxRecDepth 100000 in
theorem target_on.calls (k : Nat) (a0_0 : Int) (a0_1 : Int) (a0_2 : Int) (a0_3 : Int) (A0_4 : Option Addr) (c0_4 : Nat) (l0_4 : List (S67)) (A0_5 : Option Addr) (c0_5 : Nat) (l0_5 : List (S62)) (a0_6 : Bool) (a0_7 : Int) (a0_8 : Int) (a0_9 : Int) (a0_10 : Int) (A0_11 : Option Addr) (c0_11 : Nat) (l0_11 : List (S67)) (a0_12 : Int) (r : Option Int) (w : World) (hr0_4 : Kd.C k67 w A0_4 l0_4.length l0_4) (hc0_4 : l0_4.length ≤ c0_4) (hr0_5 : Kd.C k62 w A0_5 l0_5.length l0_5) (hc0_5 : l0_5.length ≤ c0_5) (hr0_11 : Kd.C k67 w A0_11 l0_11.length l0_11) (hc0_11 : l0_11.length ≤ c0_11) (h : target_on.f k a0_0 a0_1 a0_2 a0_3 l0_4 l0_5 a0_6 a0_7 a0_8 a0_9 a0_10 l0_11 a0_12 = some r) :
 Calls Tryz.prog 60 #[.agg #[.int .u8 a0_0,.int .u8 a0_1,.int .u32 a0_2,.int .u32 a0_3,.slice A0_4 l0_4.length c0_4,.slice A0_5 l0_5.length c0_5,.bool a0_6,.int .u32 a0_7,.int .u8 a0_8,.int .u8 a0_9,.int .u32 a0_10,.slice A0_11 l0_11.length c0_11,.int .u32 a0_12]] w fun e w'=>e = .returned (errW r) ∧ Below w.heap.size w w':=by
 have hu28:=Tryz.underlying28
 have hu35:=Tryz.underlying35
 have hu70:=Tryz.underlying70
 have HR0_4':=Aside0.mk hr0_4
 have HC0_4':=Aside0.mk hc0_4
 have HR0_5':=Aside0.mk hr0_5
 have HC0_5':=Aside0.mk hc0_5
 have HR0_11':=Aside0.mk hr0_11
 have HC0_11':=Aside0.mk hc0_11
 clear hr0_4 hc0_4 hr0_5 hc0_5 hr0_11 hc0_11
 have eN:=errW_none
 have eS:=errW_some
 have H:=Aside0.mk h
 clear h
 go_enter Tryz.func60,Tryz.ntmps60
 go_wp2_with ((go_at_call 17;rcases hv0 : replica_Right.f k a0_0 a0_1 a0_2 a0_3 l0_4 l0_5 a0_6 a0_7 a0_8 a0_9 a0_10 l0_11 a0_12 with _ | v_;(focus (exfalso;have h_:=H.out;(simp [*,target_on.f] at h_;done)));(refine (replica_Right.calls k a0_0 a0_1 a0_2 a0_3 _ _ l0_4 _ _ l0_5 a0_6 a0_7 a0_8 a0_9 a0_10 _ _ l0_11 a0_12 v_ _ (Kd.C_below HR0_4'.out (by repeat (first | exact Below.refl _ _ | refine Below.alloc ?_ (by first | exact Nat.le_refl _) _))) HC0_4'.out (Kd.C_below HR0_5'.out (by repeat (first | exact Below.refl _ _ | refine Below.alloc ?_ (by first | exact Nat.le_refl _) _))) HC0_5'.out (Kd.C_below HR0_11'.out (by repeat (first | exact Below.refl _ _ | refine Below.alloc ?_ (by first | exact Nat.le_refl _) _))) HC0_11'.out hv0).mono ?_);rintro e w1_ ⟨rfl,hx_⟩;have hx:=hx_;have B0_:=blk_below (blk_new _ _) hx;obtain ⟨u0_0,u0_1,u0_2,u0_3,u0_4,u0_5,u0_6,u0_7,u0_8,u0_9,u0_10,u0_11,u0_12⟩:=cells13 B0_;cases v_))
 all_goals (try go_ret)
 all_goals (have h:=H.out;clear H;simp only [target_on.f] at h)
 all_goals (refine ⟨?_,by (refine below_step ?_ hx;(repeat (first | exact Below.refl _ _ | refine Below.alloc ?_ (by first | exact Nat.le_refl _) _));done)⟩)
 all_goals ((try simp only [hv0,Option.bind_some] at h);first | (simp [*] at h;subst h;first | rfl) | ((repeat' (split at h))<;>first | (exfalso;simp_all;done) | (simp [*] at h;subst h;simp [*];done)))
/-! ### target_waited: function 30 -/
def target_waited.f (a0_0 : Int) (a0_1 : Int) (a0_2 : Int) (a0_3 : Int) (l0_4 : List (S67)) (l0_5 : List (S62)) (a0_6 : Bool) (a0_7 : Int) (a0_8 : Int) (a0_9 : Int) (a0_10 : Int) (l0_11 : List (S67)) (a0_12 : Int) (a1_0 : Int) (a1_1 : Int) (a1_2 : Int) (a1_3 : Int) (a1_4 : Int) (a1_5 : Int) (l1_6 : List (S67)) (a1_7 : Int) (l1_8 : List (S62)) (a1_9 : Int) (a1_10 : Bool) (l1_11 : List (S67)) : Option (Bool):=if a1_0 = 2 then (if a1_2 = a0_0 then (if a0_6 = true then (if a1_1 = a0_8 then (if a1_3 = a0_7 then (some (a1_4 == a0_9)) else (some false)) else (some false)) else (some false)) else (some false)) else (some false)
set_option maxHeartbeats 8000000 in
set_option maxRecDepth 100000 in
theorem target_waited.calls (a0_0 : Int) (a0_1 : Int) (a0_2 : Int) (a0_3 : Int) (A0_4 : Option Addr) (c0_4 : Nat) (l0_4 : List (S67)) (A0_5 : Option Addr) (c0_5 : Nat) (l0_5 : List (S62)) (a0_6 : Bool) (a0_7 : Int) (a0_8 : Int) (a0_9 : Int) (a0_10 : Int) (A0_11 : Option Addr) (c0_11 : Nat) (l0_11 : List (S67)) (a0_12 : Int) (a1_0 : Int) (a1_1 : Int) (a1_2 : Int) (a1_3 : Int) (a1_4 : Int) (a1_5 : Int) (A1_6 : Option Addr) (c1_6 : Nat) (l1_6 : List (S67)) (a1_7 : Int) (A1_8 : Option Addr) (c1_8 : Nat) (l1_8 : List (S62)) (a1_9 : Int) (a1_10 : Bool) (A1_11 : Option Addr) (c1_11 : Nat) (l1_11 : List (S67)) (r : Bool) (w : World) (hr0_4 : Kd.C k67 w A0_4 l0_4.length l0_4) (hc0_4 : l0_4.length ≤ c0_4) (hr0_5 : Kd.C k62 w A0_5 l0_5.length l0_5) (hc0_5 : l0_5.length ≤ c0_5) (hr0_11 : Kd.C k67 w A0_11 l0_11.length l0_11) (hc0_11 : l0_11.length ≤ c0_11) (hr1_6 : Kd.C k67 w A1_6 l1_6.length l1_6) (hc1_6 : l1_6.length ≤ c1_6) (hr1_8 : Kd.C k62 w A1_8 l1_8.length l1_8) (hc1_8 : l1_8.length ≤ c1_8) (hr1_11 : Kd.C k67 w A1_11 l1_11.length l1_11) (hc1_11 : l1_11.length ≤ c1_11) (h : target_waited.f a0_0 a0_1 a0_2 a0_3 l0_4 l0_5 a0_6 a0_7 a0_8 a0_9 a0_10 l0_11 a0_12 a1_0 a1_1 a1_2 a1_3 a1_4 a1_5 l1_6 a1_7 l1_8 a1_9 a1_10 l1_11 = some r) :
 Calls Tryz.prog 30 #[.agg #[.int .u8 a0_0,.int .u8 a0_1,.int .u32 a0_2,.int .u32 a0_3,.slice A0_4 l0_4.length c0_4,.slice A0_5 l0_5.length c0_5,.bool a0_6,.int .u32 a0_7,.int .u8 a0_8,.int .u8 a0_9,.int .u32 a0_10,.slice A0_11 l0_11.length c0_11,.int .u32 a0_12],.agg #[.int .i64 a1_0,.int .u8 a1_1,.int .u8 a1_2,.int .u32 a1_3,.int .u8 a1_4,.int .u8 a1_5,.slice A1_6 l1_6.length c1_6,.int .u32 a1_7,.slice A1_8 l1_8.length c1_8,.int .u8 a1_9,.bool a1_10,.slice A1_11 l1_11.length c1_11]] w fun e w'=>e = .returned (.bool r) ∧ Below w.heap.size w w':=by
 have hu28:=Tryz.underlying28
 have hu30:=Tryz.underlying30
 have hu26:=Tryz.underlying26
 have HR0_4':=Aside0.mk hr0_4
 have HC0_4':=Aside0.mk hc0_4
 have HR0_5':=Aside0.mk hr0_5
 have HC0_5':=Aside0.mk hc0_5
 have HR0_11':=Aside0.mk hr0_11
 have HC0_11':=Aside0.mk hc0_11
 have HR1_6':=Aside0.mk hr1_6
 have HC1_6':=Aside0.mk hc1_6
 have HR1_8':=Aside0.mk hr1_8
 have HC1_8':=Aside0.mk hc1_8
 have HR1_11':=Aside0.mk hr1_11
 have HC1_11':=Aside0.mk hc1_11
 clear hr0_4 hc0_4 hr0_5 hc0_5 hr0_11 hc0_11 hr1_6 hc1_6 hr1_8 hc1_8 hr1_11 hc1_11
 have H:=Aside0.mk h
 clear h
 go_enter Tryz.func30,Tryz.ntmps30
 go_wp2
 all_goals (try go_ret)
 all_goals (have h:=H.out;clear H;simp only [target_waited.f] at h)
 all_goals (refine ⟨?_,by ((repeat (first | exact Below.refl _ _ | refine Below.alloc ?_ (by first | exact Nat.le_refl _ | (simp;done) | (simp;omega)) _));done)⟩)
 all_goals ((simp [*] at h;simp [*];done))
end Go.Proofs.YtiminjibcafkaaaGreatDoor.X
