-- MADE BY wip/prx.py (the kit's printer, with contracts proved by hand). Not trusted: Lean checks it.
import Derived.Test.YtiminjibcafkaaaGreatDoorTBJ5
import Derived.Test.YtiminjibcafkaaaGreatDoorTBJ4
import Derived.Test.YtiminjibcafkaaaGreatDoorTBX5
import Derived.Test.YtiminjibcafkaaaGreatDoorTBX7
namespace Go.Proofs.YtiminjibcafkaaaGreatDoor.X
open Go.RowKit Go.Proofs.YtiminjibcafkaaaGreatDoorW.PrintWords Go.Proofs.YtiminjibcafkaaaGreatDoorW.PrintLast Go.Proofs.YtiminjibcafkaaaGreatDoorW.PrintMore
attribute [local go_sem] max2_int min2_int max_two min_two max_three min_three max_four min_four   -- for this text's walks alone
set_option linter.unusedVariables false
set_option linter.unusedSimpArgs false
/-! ### note_batch: function 49 -/
mutual
def note_batch.j0 : Nat → Int → Int → Int → Int → Int → Int → Int → List (S67) → Int → List (S62) → Int → Bool → List (S67) → Option (Bool)
 | 0,_,_,_,_,_,_,_,_,_,_,_,_,_=>none
 | k + 1,x3,x135000,x135001,x135002,x135003,x135004,x135005,x135006,x135007,x135008,x135009,x135010,x135011=>if x135005 = 0 then (if (x135006.length : Int) > 0 then (note_batch.j1 k x3 true x135000 x135001 x135002 x135003 x135004 x135005 x135006 x135007 x135008 x135009 x135010 x135011) else ((item_Right.f k x135008).bind fun t136=>(if t136 = true then (if (x135008.length : Int) > 4 then (note_batch.j1 k x3 true x135000 x135001 x135002 x135003 x135004 x135005 x135006 x135007 x135008 x135009 x135010 x135011) else ((know_Right.f k x135011).bind fun t137=>(note_batch.j1 k x3 (!t137) x135000 x135001 x135002 x135003 x135004 x135005 x135006 x135007 x135008 x135009 x135010 x135011))) else (note_batch.j1 k x3 true x135000 x135001 x135002 x135003 x135004 x135005 x135006 x135007 x135008 x135009 x135010 x135011)))) else (note_batch.j1 k x3 true x135000 x135001 x135002 x135003 x135004 x135005 x135006 x135007 x135008 x135009 x135010 x135011)
def note_batch.j1 : Nat → Int → Bool → Int → Int → Int → Int → Int → Int → List (S67) → Int → List (S62) → Int → Bool → List (S67) → Option (Bool)
 | 0,_,_,_,_,_,_,_,_,_,_,_,_,_,_=>none
 | k + 1,x3,x20,x135000,x135001,x135002,x135003,x135004,x135005,x135006,x135007,x135008,x135009,x135010,x135011=>if x20 = true then (some false) else (if (x135008.length : Int) > 0 then (if 0 < (x135008.length : Int) then (if ((rd_T62 x135008 0).f0) < x135004 then (note_batch.j2 k true x135000 x135001 x135002 x135003 x135004 x135005 x135006 x135007 x135008 x135009 x135010 x135011) else (note_batch.j2 k (x135009 != x3) x135000 x135001 x135002 x135003 x135004 x135005 x135006 x135007 x135008 x135009 x135010 x135011)) else (none)) else (note_batch.j2 k (x135009 != x3) x135000 x135001 x135002 x135003 x135004 x135005 x135006 x135007 x135008 x135009 x135010 x135011))
def note_batch.j2 : Nat → Bool → Int → Int → Int → Int → Int → Int → List (S67) → Int → List (S62) → Int → Bool → List (S67) → Option (Bool)
 | 0,_,_,_,_,_,_,_,_,_,_,_,_,_=>none
 | k + 1,x48,x135000,x135001,x135002,x135003,x135004,x135005,x135006,x135007,x135008,x135009,x135010,x135011=>if x48 = true then (some false) else (if x135004 > 0 then (if (x135011.length : Int) > 0 then (some false) else (if x135010 = true then (some true) else (if (x135008.length : Int) = 4 then (some (decide (x135009 < 64))) else (some false)))) else (if x135010 = true then (some true) else (if (x135008.length : Int) = 4 then (some (decide (x135009 < 64))) else (some false))))
end
def note_batch.f (k : Nat) (a0_0 : Int) (a0_1 : Int) (a0_2 : Int) (a0_3 : Int) (a0_4 : Int) (a0_5 : Int) (l0_6 : List (S67)) (a0_7 : Int) (l0_8 : List (S62)) (a0_9 : Int) (a0_10 : Bool) (l0_11 : List (S67)) : Option (Bool):=if (l0_8.length : Int) > 0 then (if 0 ≤ (wrap64 ((l0_8.length : Int) - 1)) then (if (wrap64 ((l0_8.length : Int) - 1)) < (l0_8.length : Int) then (note_batch.j0 k ((((rd_T62 l0_8 (wrap64 ((l0_8.length : Int) - 1))).f0) + 1) % 256) a0_0 a0_1 a0_2 a0_3 a0_4 a0_5 l0_6 a0_7 l0_8 a0_9 a0_10 l0_11) else (none)) else (none)) else (note_batch.j0 k a0_4 a0_0 a0_1 a0_2 a0_3 a0_4 a0_5 l0_6 a0_7 l0_8 a0_9 a0_10 l0_11)
set_option maxHeartbeats 8000000 in
set_option maxRecDepth 100000 in
theorem note_batch.calls (k : Nat) (a0_0 : Int) (a0_1 : Int) (a0_2 : Int) (a0_3 : Int) (a0_4 : Int) (a0_5 : Int) (A0_6 : Option Addr) (c0_6 : Nat) (l0_6 : List (S67)) (a0_7 : Int) (A0_8 : Option Addr) (c0_8 : Nat) (l0_8 : List (S62)) (a0_9 : Int) (a0_10 : Bool) (A0_11 : Option Addr) (c0_11 : Nat) (l0_11 : List (S67)) (r : Bool) (w : World) (hr0_6 : Kd.C k67 w A0_6 l0_6.length l0_6) (hc0_6 : l0_6.length ≤ c0_6) (hr0_8 : Kd.C k62 w A0_8 l0_8.length l0_8) (hc0_8 : l0_8.length ≤ c0_8) (hr0_11 : Kd.C k67 w A0_11 l0_11.length l0_11) (hc0_11 : l0_11.length ≤ c0_11) (h : note_batch.f k a0_0 a0_1 a0_2 a0_3 a0_4 a0_5 l0_6 a0_7 l0_8 a0_9 a0_10 l0_11 = some r) :
 Calls Tryz.prog 49 #[.agg #[.int .i64 a0_0,.int .u8 a0_1,.int .u8 a0_2,.int .u32 a0_3,.int .u8 a0_4,.int .u8 a0_5,.slice A0_6 l0_6.length c0_6,.int .u32 a0_7,.slice A0_8 l0_8.length c0_8,.int .u8 a0_9,.bool a0_10,.slice A0_11 l0_11.length c0_11]] w fun e w'=>e = .returned (.bool r) ∧ Below w.heap.size w w':=by
 have hu30:=Tryz.underlying30
 have HR0_6:=Aside0.mk hr0_6
 have HC0_6:=Aside0.mk hc0_6
 clear hr0_6 hc0_6
 have HR0_8:=Aside0.mk hr0_8
 have HC0_8:=Aside0.mk hc0_8
 clear hr0_8 hc0_8
 have HR0_11:=Aside0.mk hr0_11
 have HC0_11:=Aside0.mk hc0_11
 clear hr0_11 hc0_11
 have HB:=Aside0.mk (Below.refl w.heap.size w)
 have H : (if (l0_8.length : Int) > 0 then (if 0 ≤ (wrap64 ((l0_8.length : Int) - 1)) then (if (wrap64 ((l0_8.length : Int) - 1)) < (l0_8.length : Int) then (note_batch.j0 k ((((rd_T62 l0_8 (wrap64 ((l0_8.length : Int) - 1))).f0) + 1) % 256) a0_0 a0_1 a0_2 a0_3 a0_4 a0_5 l0_6 a0_7 l0_8 a0_9 a0_10 l0_11) else (none)) else (none)) else (note_batch.j0 k a0_4 a0_0 a0_1 a0_2 a0_3 a0_4 a0_5 l0_6 a0_7 l0_8 a0_9 a0_10 l0_11)) = some r:=h
 clear h
 have HC2:=Aside0.mk H
 clear H
 go_enter Tryz.func49,Tryz.ntmps49
 go_upto_if 11 with (((with_reducible refine gate_dst (N:=1) rfl ?_);(try (refine gate_guard (by rfl) ?_;dsimp only));refine box_event ?hg (N:=1) ?hd (cs:=#[.int .i64 a0_0,.int .u8 a0_1,.int .u8 a0_2,.int .u32 a0_3,.int .u8 a0_4,.int .u8 a0_5,.slice A0_6 l0_6.length c0_6,.int .u32 a0_7,.slice A0_8 l0_8.length c0_8,.int .u8 a0_9,.bool a0_10,.slice A0_11 l0_11.length c0_11]) (t:=30) ?hr ?_;(case hd=>rfl);(case hg=>rfl);(case hr=>(go_simp;done));intro gb134 hg w3 hbox hb;have n0_:=Aside0.mk (below_step (by repeat ((with_reducible first | exact HB.out))) hb);have n1_:=Aside0.mk (hbox);have n2_:=Aside0.mk ((by rw [hg];exact (below_size (by repeat ((with_reducible first | exact HB.out)))) : w.heap.size ≤ gb134));have n3_:=Aside0.mk ((by rw [hg];exact (below_size (by repeat ((with_reducible first | exact HB.out)))) : w.heap.size ≤ gb134));clear HB;have HB:=n0_;have BK134:=n1_;have GW134:=n2_;have GE134:=n3_;clear n0_ n1_ n2_ n3_ hb hbox hg;obtain ⟨hcz4_0,hcz4_1,hcz4_2,hcz4_3,hcz4_4,hcz4_5,hcz4_6,hcz4_7,hcz4_8,hcz4_9,hcz4_10,hcz4_11⟩:=cells12 BK134.out))
 go_cut [3] (fun v3 wc=>∃ (kq : Nat) (x3_1 : Int),v3 = .int .u8 x3_1 ∧ Aside0 (note_batch.j0 kq x3_1 a0_0 a0_1 a0_2 a0_3 a0_4 a0_5 l0_6 a0_7 l0_8 a0_9 a0_10 l0_11 = some r) ∧ Aside0 (kq ≤ k) ∧ Aside0 (wc.heap[gb134]? = some (.cells #[.int .i64 a0_0,.int .u8 a0_1,.int .u8 a0_2,.int .u32 a0_3,.int .u8 a0_4,.int .u8 a0_5,(.slice A0_6 l0_6.length c0_6),.int .u32 a0_7,(.slice A0_8 l0_8.length c0_8),.int .u8 a0_9,.bool a0_10,(.slice A0_11 l0_11.length c0_11)] 30 (0,0))) ∧ Aside0 (Below w.heap.size w wc))
 case first =>
  have H:=HC2.out
  clear HC2
  by_cases c5 : (l0_8.length : Int) > 0
  ·rw [if_pos c5] at H
   have c5b0 : decide (0 < (l0_8.length : Int)) = true:=decide_eq_true c5
   have c5b1 : decide (0 < l0_8.length) = true:=decide_eq_true (by omega)
   clear c5
   (first | skip)
   (try rw [c5b1])
   obtain ⟨ji6,hji6⟩ : ∃ j_ : Int,(wrap64 ((l0_8.length : Int) - 1)) = j_:=⟨_,rfl⟩
   replace H : (if 0 ≤ (ji6) then (if (ji6) < (l0_8.length : Int) then (note_batch.j0 k ((((rd_T62 l0_8 (ji6)).f0) + 1) % 256) a0_0 a0_1 a0_2 a0_3 a0_4 a0_5 l0_6 a0_7 l0_8 a0_9 a0_10 l0_11) else (none)) else (none)) = some r:=by (rw [hji6] at H;exact H)
   have hji6w : (IntKind.i64.wrap ((l0_8.length : Int) - 1)) = ji6:=(i64_w _).trans hji6
   by_cases c7 : 0 ≤ (ji6)
   ·rw [if_pos c7] at H
    have c7b0 : decide (0 ≤ (ji6)) = true:=decide_eq_true c7
    clear c7
    by_cases c8 : (ji6) < (l0_8.length : Int)
    ·rw [if_pos c8] at H
     have c8b0 : decide ((ji6) < (l0_8.length : Int)) = true:=decide_eq_true c8
     clear c8
     have H':=Aside0.mk H
     clear H
     obtain ⟨hcz9_0,hcz9_1,hcz9_2,hcz9_3,hcz9_4,hcz9_5,hcz9_6,hcz9_7,hcz9_8,hcz9_9,hcz9_10,hcz9_11⟩:=cells12 BK134.out
     have p135 : 0 ≤ ((ji6) : Int):=of_decide_eq_true (by (with_reducible assumption))
     have q135 : (ji6) < (l0_8.length : Int):=of_decide_eq_true (by (with_reducible assumption))
     obtain ⟨ad135,e135,hx135_0,hx135_1,hx135_2,hx135_3,hx135_4,hx135_5,hx135_6⟩:=at_T62 HR0_8.out (ji6) p135 q135
     cases e135
     replace hx135_0:=(HB.out.cell (World.block_lt_of_cell? w _ hx135_0)).trans hx135_0
     replace hx135_1:=(HB.out.cell (World.block_lt_of_cell? w _ hx135_1)).trans hx135_1
     replace hx135_2:=(HB.out.cell (World.block_lt_of_cell? w _ hx135_2)).trans hx135_2
     replace hx135_3:=(HB.out.cell (World.block_lt_of_cell? w _ hx135_3)).trans hx135_3
     replace hx135_4:=(HB.out.cell (World.block_lt_of_cell? w _ hx135_4)).trans hx135_4
     replace hx135_5:=(HB.out.cell (World.block_lt_of_cell? w _ hx135_5)).trans hx135_5
     replace hx135_6:=(HB.out.cell (World.block_lt_of_cell? w _ hx135_6)).trans hx135_6
     replace p135:=eq_true p135
     replace q135:=eq_true q135
     go_wp2
     go_meet
     case rel=>exact ⟨_,((((rd_T62 l0_8 (ji6)).f0) + 1) % 256),(by first | rfl),H',⟨by first | omega⟩,⟨BK134.out⟩,⟨by repeat ((with_reducible first | exact HB.out))⟩⟩
    ·rw [if_neg c8] at H
     exact absurd H (by simp)
   ·rw [if_neg c7] at H
    exact absurd H (by simp)
  ·rw [if_neg c5] at H
   have c5b0 : decide (0 < (l0_8.length : Int)) = false:=decide_eq_false c5
   have c5b1 : decide (0 < l0_8.length) = false:=decide_eq_false (by omega)
   clear c5
   (first | skip)
   (try rw [c5b1])
   have H':=Aside0.mk H
   clear H
   go_wp2
   go_meet
   case rel=>exact ⟨_,(a0_4),(by first | rfl),H',⟨by first | omega⟩,⟨BK134.out⟩,⟨by repeat ((with_reducible first | exact HB.out))⟩⟩
 case rest =>
  clear HC2
  clear hcz4_0 hcz4_1 hcz4_10 hcz4_11 hcz4_2 hcz4_3 hcz4_4 hcz4_5 hcz4_6 hcz4_7 hcz4_8 hcz4_9
  obtain ⟨kq,x3_1,rfl,HA,HJ1,BK134,HB⟩:=hcut
  cases kq with
  | zero=>exact absurd HA.out (by simp [note_batch.j0])
  | succ kj1 =>
   have H:=HA.out
   clear HA
   simp only [note_batch.j0] at H
   have HC10:=Aside0.mk H
   clear H
   go_upto_region 5 with (fail)
   go_cut [20] (fun v20 wc=>∃ (kq : Nat) (x20_9 : Bool),v20 = .bool x20_9 ∧ Aside0 (note_batch.j1 kq x3_1 x20_9 a0_0 a0_1 a0_2 a0_3 a0_4 a0_5 l0_6 a0_7 l0_8 a0_9 a0_10 l0_11 = some r) ∧ Aside0 (kq ≤ kj1) ∧ Aside0 (wc.heap[gb134]? = some (.cells #[.int .i64 a0_0,.int .u8 a0_1,.int .u8 a0_2,.int .u32 a0_3,.int .u8 a0_4,.int .u8 a0_5,(.slice A0_6 l0_6.length c0_6),.int .u32 a0_7,(.slice A0_8 l0_8.length c0_8),.int .u8 a0_9,.bool a0_10,(.slice A0_11 l0_11.length c0_11)] 30 (0,0))) ∧ Aside0 (Below w.heap.size w wc))
   case first =>
    have H:=HC10.out
    clear HC10
    by_cases c11 : a0_5 = 0
    ·rw [if_pos c11] at H
     have c11b0 : (a0_5 == 0) = true:=beq_iff_eq.mpr c11
     have c11b1 : (a0_5 != 0) = false:=bne_eq_false_iff_eq.mpr c11
     clear c11
     (first | skip)
     by_cases c12 : (l0_6.length : Int) > 0
     ·rw [if_pos c12] at H
      have c12b0 : decide (0 < (l0_6.length : Int)) = true:=decide_eq_true c12
      have c12b1 : decide (0 < l0_6.length) = true:=decide_eq_true (by omega)
      clear c12
      have H':=Aside0.mk H
      clear H
      obtain ⟨hcz13_0,hcz13_1,hcz13_2,hcz13_3,hcz13_4,hcz13_5,hcz13_6,hcz13_7,hcz13_8,hcz13_9,hcz13_10,hcz13_11⟩:=cells12 BK134.out
      go_wp2
      go_meet
      case rel=>exact ⟨_,(true),(by first | rfl),H',⟨by have:=HJ1.out;first | omega⟩,⟨BK134.out⟩,⟨by repeat ((with_reducible first | exact HB.out))⟩⟩
     ·rw [if_neg c12] at H
      have c12b0 : decide (0 < (l0_6.length : Int)) = false:=decide_eq_false c12
      have c12b1 : decide (0 < l0_6.length) = false:=decide_eq_false (by omega)
      clear c12
      replace H:=Option.bind_eq_some_iff.mp H
      obtain ⟨t136,A140,H⟩:=H
      have A14:=Aside0.mk A140
      clear A140
      by_cases c15 : t136 = true
      ·subst c15
       rw [if_pos rfl] at H
       by_cases c16 : (l0_8.length : Int) > 4
       ·rw [if_pos c16] at H
        have c16b0 : decide (4 < (l0_8.length : Int)) = true:=decide_eq_true c16
        have c16b1 : decide (4 < l0_8.length) = true:=decide_eq_true (by omega)
        clear c16
        have H':=Aside0.mk H
        clear H
        obtain ⟨hcz17_0,hcz17_1,hcz17_2,hcz17_3,hcz17_4,hcz17_5,hcz17_6,hcz17_7,hcz17_8,hcz17_9,hcz17_10,hcz17_11⟩:=cells12 BK134.out
        go_wp2_with ((go_at_call 51;(with_reducible refine (item_Right.calls kj1 _ _ l0_8 true _ ?side1 ?side2 A14.out).mono ?_);(case side1=>repeat (first | exact (Kd.C_below HR0_8.out HB.out)));(case side2=>exact HC0_8.out);rintro e w18 ⟨rfl,hb⟩;replace BK134:=Aside0.mk (blk_below BK134.out hb);replace HB:=Aside0.mk (below_step (by repeat ((with_reducible first | exact HB.out))) hb);(try clear hb);obtain ⟨hcz19_0,hcz19_1,hcz19_2,hcz19_3,hcz19_4,hcz19_5,hcz19_6,hcz19_7,hcz19_8,hcz19_9,hcz19_10,hcz19_11⟩:=cells12 BK134.out))
        go_meet
        case rel=>exact ⟨_,(true),(by first | rfl),H',⟨by have:=HJ1.out;first | omega⟩,⟨BK134.out⟩,⟨by repeat ((with_reducible first | exact HB.out))⟩⟩
       ·rw [if_neg c16] at H
        have c16b0 : decide (4 < (l0_8.length : Int)) = false:=decide_eq_false c16
        have c16b1 : decide (4 < l0_8.length) = false:=decide_eq_false (by omega)
        clear c16
        replace H:=Option.bind_eq_some_iff.mp H
        obtain ⟨t137,A200,H⟩:=H
        have A20:=Aside0.mk A200
        clear A200
        have H':=Aside0.mk H
        clear H
        obtain ⟨hcz21_0,hcz21_1,hcz21_2,hcz21_3,hcz21_4,hcz21_5,hcz21_6,hcz21_7,hcz21_8,hcz21_9,hcz21_10,hcz21_11⟩:=cells12 BK134.out
        go_wp2_with (first | (go_at_call 51;(with_reducible refine (item_Right.calls kj1 _ _ l0_8 true _ ?side1 ?side2 A14.out).mono ?_);(case side1=>repeat (first | exact (Kd.C_below HR0_8.out HB.out)));(case side2=>exact HC0_8.out);rintro e w22 ⟨rfl,hb⟩;replace BK134:=Aside0.mk (blk_below BK134.out hb);replace HB:=Aside0.mk (below_step (by repeat ((with_reducible first | exact HB.out))) hb);(try clear hb);obtain ⟨hcz23_0,hcz23_1,hcz23_2,hcz23_3,hcz23_4,hcz23_5,hcz23_6,hcz23_7,hcz23_8,hcz23_9,hcz23_10,hcz23_11⟩:=cells12 BK134.out) | (go_at_call 50;(with_reducible refine (know_Right.calls kj1 _ _ l0_11 t137 _ ?side1 ?side2 A20.out).mono ?_);(case side1=>repeat (first | exact (Kd.C_below HR0_11.out HB.out)));(case side2=>exact HC0_11.out);rintro e w24 ⟨rfl,hb⟩;replace BK134:=Aside0.mk (blk_below BK134.out hb);replace HB:=Aside0.mk (below_step (by repeat ((with_reducible first | exact HB.out))) hb);(try clear hb)))
        go_meet
        case rel=>exact ⟨_,(!t137),(by first | rfl),H',⟨by have:=HJ1.out;first | omega⟩,⟨BK134.out⟩,⟨by repeat ((with_reducible first | exact HB.out))⟩⟩
      ·replace c15:=Bool.eq_false_iff.mpr c15
       subst c15
       rw [if_neg (show ¬ (false = true) by decide)] at H
       have H':=Aside0.mk H
       clear H
       obtain ⟨hcz25_0,hcz25_1,hcz25_2,hcz25_3,hcz25_4,hcz25_5,hcz25_6,hcz25_7,hcz25_8,hcz25_9,hcz25_10,hcz25_11⟩:=cells12 BK134.out
       go_wp2_with ((go_at_call 51;(with_reducible refine (item_Right.calls kj1 _ _ l0_8 false _ ?side1 ?side2 A14.out).mono ?_);(case side1=>repeat (first | exact (Kd.C_below HR0_8.out HB.out)));(case side2=>exact HC0_8.out);rintro e w26 ⟨rfl,hb⟩;replace BK134:=Aside0.mk (blk_below BK134.out hb);replace HB:=Aside0.mk (below_step (by repeat ((with_reducible first | exact HB.out))) hb);(try clear hb)))
       go_meet
       case rel=>exact ⟨_,(true),(by first | rfl),H',⟨by have:=HJ1.out;first | omega⟩,⟨BK134.out⟩,⟨by repeat ((with_reducible first | exact HB.out))⟩⟩
    ·rw [if_neg c11] at H
     have c11b0 : (a0_5 == 0) = false:=beq_eq_false_iff_ne.mpr c11
     have c11b1 : (a0_5 != 0) = true:=bne_iff_ne.mpr c11
     (first | skip)
     have H':=Aside0.mk H
     clear H
     obtain ⟨hcz27_0,hcz27_1,hcz27_2,hcz27_3,hcz27_4,hcz27_5,hcz27_6,hcz27_7,hcz27_8,hcz27_9,hcz27_10,hcz27_11⟩:=cells12 BK134.out
     go_wp2
     go_meet
     case rel=>exact ⟨_,(true),(by first | rfl),H',⟨by have:=HJ1.out;first | omega⟩,⟨BK134.out⟩,⟨by repeat ((with_reducible first | exact HB.out))⟩⟩
   case rest =>
    clear HC10
    obtain ⟨kq,x20_9,rfl,HA,HJ9,BK134,HB⟩:=hcut
    cases kq with
    | zero=>exact absurd HA.out (by simp [note_batch.j1])
    | succ kj9 =>
     have H:=HA.out
     clear HA
     simp only [note_batch.j1] at H
     by_cases c28 : x20_9 = true
     ·subst c28
      rw [if_pos rfl] at H
      obtain rfl:=Option.some.inj H
      go_wp2
      go_ret
      exact ⟨by first | rfl,by repeat ((with_reducible first | exact HB.out))⟩
     ·replace c28:=Bool.eq_false_iff.mpr c28
      subst c28
      rw [if_neg (show ¬ (false = true) by decide)] at H
      have HC29:=Aside0.mk H
      clear H
      go_upto_region 7 with (fail)
      go_cut [48] (fun v48 wc=>∃ (kq : Nat) (x48_28 : Bool),v48 = .bool x48_28 ∧ Aside0 (note_batch.j2 kq x48_28 a0_0 a0_1 a0_2 a0_3 a0_4 a0_5 l0_6 a0_7 l0_8 a0_9 a0_10 l0_11 = some r) ∧ Aside0 (kq ≤ kj9) ∧ Aside0 (wc.heap[gb134]? = some (.cells #[.int .i64 a0_0,.int .u8 a0_1,.int .u8 a0_2,.int .u32 a0_3,.int .u8 a0_4,.int .u8 a0_5,(.slice A0_6 l0_6.length c0_6),.int .u32 a0_7,(.slice A0_8 l0_8.length c0_8),.int .u8 a0_9,.bool a0_10,(.slice A0_11 l0_11.length c0_11)] 30 (0,0))) ∧ Aside0 (Below w.heap.size w wc))
      case first =>
       have H:=HC29.out
       clear HC29
       by_cases c30 : (l0_8.length : Int) > 0
       ·rw [if_pos c30] at H
        have c30b0 : decide (0 < (l0_8.length : Int)) = true:=decide_eq_true c30
        have c30b1 : decide (0 < l0_8.length) = true:=decide_eq_true (by omega)
        clear c30
        (first | skip)
        by_cases c31 : 0 < (l0_8.length : Int)
        ·rw [if_pos c31] at H
         have c31b0 : decide (0 < (l0_8.length : Int)) = true:=decide_eq_true c31
         have c31b1 : decide (0 < l0_8.length) = true:=decide_eq_true (by omega)
         clear c31
         by_cases c32 : ((rd_T62 l0_8 0).f0) < a0_4
         ·rw [if_pos c32] at H
          have c32b0 : decide (((rd_T62 l0_8 0).f0) < a0_4) = true:=decide_eq_true c32
          clear c32
          have H':=Aside0.mk H
          clear H
          obtain ⟨hcz33_0,hcz33_1,hcz33_2,hcz33_3,hcz33_4,hcz33_5,hcz33_6,hcz33_7,hcz33_8,hcz33_9,hcz33_10,hcz33_11⟩:=cells12 BK134.out
          have p138 : 0 ≤ (0 : Int):=(by omega)
          have q138 : 0 < (l0_8.length : Int):=of_decide_eq_true (by (with_reducible assumption))
          obtain ⟨ad138,e138,hx138_0,hx138_1,hx138_2,hx138_3,hx138_4,hx138_5,hx138_6⟩:=at_T62 HR0_8.out 0 p138 q138
          cases e138
          have qi138 : (0 < l0_8.length) = True:=eq_true (by omega)
          (try rw [show ((0 : Int)).toNat = 0 from rfl] at hx138_0)
          (try rw [show 0 * 7 = 0 from rfl] at hx138_0)
          (try rw [Addr.add_zero'] at hx138_0)
          (try rw [show ((0 : Int)).toNat = 0 from rfl] at hx138_1)
          (try rw [show 0 * 7 = 0 from rfl] at hx138_1)
          (try rw [Addr.add_zero'] at hx138_1)
          (try rw [show ((0 : Int)).toNat = 0 from rfl] at hx138_2)
          (try rw [show 0 * 7 = 0 from rfl] at hx138_2)
          (try rw [Addr.add_zero'] at hx138_2)
          (try rw [show ((0 : Int)).toNat = 0 from rfl] at hx138_3)
          (try rw [show 0 * 7 = 0 from rfl] at hx138_3)
          (try rw [Addr.add_zero'] at hx138_3)
          (try rw [show ((0 : Int)).toNat = 0 from rfl] at hx138_4)
          (try rw [show 0 * 7 = 0 from rfl] at hx138_4)
          (try rw [Addr.add_zero'] at hx138_4)
          (try rw [show ((0 : Int)).toNat = 0 from rfl] at hx138_5)
          (try rw [show 0 * 7 = 0 from rfl] at hx138_5)
          (try rw [Addr.add_zero'] at hx138_5)
          (try rw [show ((0 : Int)).toNat = 0 from rfl] at hx138_6)
          (try rw [show 0 * 7 = 0 from rfl] at hx138_6)
          (try rw [Addr.add_zero'] at hx138_6)
          replace hx138_0:=(HB.out.cell (World.block_lt_of_cell? w _ hx138_0)).trans hx138_0
          replace hx138_1:=(HB.out.cell (World.block_lt_of_cell? w _ hx138_1)).trans hx138_1
          replace hx138_2:=(HB.out.cell (World.block_lt_of_cell? w _ hx138_2)).trans hx138_2
          replace hx138_3:=(HB.out.cell (World.block_lt_of_cell? w _ hx138_3)).trans hx138_3
          replace hx138_4:=(HB.out.cell (World.block_lt_of_cell? w _ hx138_4)).trans hx138_4
          replace hx138_5:=(HB.out.cell (World.block_lt_of_cell? w _ hx138_5)).trans hx138_5
          replace hx138_6:=(HB.out.cell (World.block_lt_of_cell? w _ hx138_6)).trans hx138_6
          replace p138:=eq_true p138
          replace q138:=eq_true q138
          go_wp2
          repeat (go_quiet (fail);try go_wp2)
          go_meet
          case rel=>exact ⟨_,(true),(by first | rfl),H',⟨by have:=HJ1.out;have:=HJ9.out;first | omega⟩,⟨by (with_reducible repeat (first | refine blk_drewN ?_ _));exact BK134.out⟩,⟨by repeat ((with_reducible first | exact HB.out | apply pw_below_drewN))⟩⟩
         ·rw [if_neg c32] at H
          have c32b0 : decide (((rd_T62 l0_8 0).f0) < a0_4) = false:=decide_eq_false c32
          clear c32
          have H':=Aside0.mk H
          clear H
          obtain ⟨hcz34_0,hcz34_1,hcz34_2,hcz34_3,hcz34_4,hcz34_5,hcz34_6,hcz34_7,hcz34_8,hcz34_9,hcz34_10,hcz34_11⟩:=cells12 BK134.out
          have p138 : 0 ≤ (0 : Int):=(by omega)
          have q138 : 0 < (l0_8.length : Int):=of_decide_eq_true (by (with_reducible assumption))
          obtain ⟨ad138,e138,hx138_0,hx138_1,hx138_2,hx138_3,hx138_4,hx138_5,hx138_6⟩:=at_T62 HR0_8.out 0 p138 q138
          cases e138
          have qi138 : (0 < l0_8.length) = True:=eq_true (by omega)
          (try rw [show ((0 : Int)).toNat = 0 from rfl] at hx138_0)
          (try rw [show 0 * 7 = 0 from rfl] at hx138_0)
          (try rw [Addr.add_zero'] at hx138_0)
          (try rw [show ((0 : Int)).toNat = 0 from rfl] at hx138_1)
          (try rw [show 0 * 7 = 0 from rfl] at hx138_1)
          (try rw [Addr.add_zero'] at hx138_1)
          (try rw [show ((0 : Int)).toNat = 0 from rfl] at hx138_2)
          (try rw [show 0 * 7 = 0 from rfl] at hx138_2)
          (try rw [Addr.add_zero'] at hx138_2)
          (try rw [show ((0 : Int)).toNat = 0 from rfl] at hx138_3)
          (try rw [show 0 * 7 = 0 from rfl] at hx138_3)
          (try rw [Addr.add_zero'] at hx138_3)
          (try rw [show ((0 : Int)).toNat = 0 from rfl] at hx138_4)
          (try rw [show 0 * 7 = 0 from rfl] at hx138_4)
          (try rw [Addr.add_zero'] at hx138_4)
          (try rw [show ((0 : Int)).toNat = 0 from rfl] at hx138_5)
          (try rw [show 0 * 7 = 0 from rfl] at hx138_5)
          (try rw [Addr.add_zero'] at hx138_5)
          (try rw [show ((0 : Int)).toNat = 0 from rfl] at hx138_6)
          (try rw [show 0 * 7 = 0 from rfl] at hx138_6)
          (try rw [Addr.add_zero'] at hx138_6)
          replace hx138_0:=(HB.out.cell (World.block_lt_of_cell? w _ hx138_0)).trans hx138_0
          replace hx138_1:=(HB.out.cell (World.block_lt_of_cell? w _ hx138_1)).trans hx138_1
          replace hx138_2:=(HB.out.cell (World.block_lt_of_cell? w _ hx138_2)).trans hx138_2
          replace hx138_3:=(HB.out.cell (World.block_lt_of_cell? w _ hx138_3)).trans hx138_3
          replace hx138_4:=(HB.out.cell (World.block_lt_of_cell? w _ hx138_4)).trans hx138_4
          replace hx138_5:=(HB.out.cell (World.block_lt_of_cell? w _ hx138_5)).trans hx138_5
          replace hx138_6:=(HB.out.cell (World.block_lt_of_cell? w _ hx138_6)).trans hx138_6
          replace p138:=eq_true p138
          replace q138:=eq_true q138
          go_wp2
          repeat (go_quiet (fail);try go_wp2)
          go_meet
          case rel=>exact ⟨_,((a0_9 != x3_1)),(by first | rfl),H',⟨by have:=HJ1.out;have:=HJ9.out;first | omega⟩,⟨by (with_reducible repeat (first | refine blk_drewN ?_ _));exact BK134.out⟩,⟨by repeat ((with_reducible first | exact HB.out | apply pw_below_drewN))⟩⟩
        ·rw [if_neg c31] at H
         exact absurd H (by simp)
       ·rw [if_neg c30] at H
        have c30b0 : decide (0 < (l0_8.length : Int)) = false:=decide_eq_false c30
        have c30b1 : decide (0 < l0_8.length) = false:=decide_eq_false (by omega)
        clear c30
        (first | skip)
        have H':=Aside0.mk H
        clear H
        obtain ⟨hcz35_0,hcz35_1,hcz35_2,hcz35_3,hcz35_4,hcz35_5,hcz35_6,hcz35_7,hcz35_8,hcz35_9,hcz35_10,hcz35_11⟩:=cells12 BK134.out
        go_wp2
        repeat (go_quiet (fail);try go_wp2)
        go_meet
        case rel=>exact ⟨_,((a0_9 != x3_1)),(by first | rfl),H',⟨by have:=HJ1.out;have:=HJ9.out;first | omega⟩,⟨by (with_reducible repeat (first | refine blk_drewN ?_ _));exact BK134.out⟩,⟨by repeat ((with_reducible first | exact HB.out | apply pw_below_drewN))⟩⟩
      case rest =>
       clear HC29
       obtain ⟨kq,x48_28,rfl,HA,HJ28,BK134,HB⟩:=hcut
       cases kq with
       | zero=>exact absurd HA.out (by simp [note_batch.j2])
       | succ kj28 =>
        have H:=HA.out
        clear HA
        simp only [note_batch.j2] at H
        by_cases c36 : x48_28 = true
        ·subst c36
         rw [if_pos rfl] at H
         obtain rfl:=Option.some.inj H
         go_wp2
         go_ret
         exact ⟨by first | rfl,by repeat ((with_reducible first | exact HB.out))⟩
        ·replace c36:=Bool.eq_false_iff.mpr c36
         subst c36
         rw [if_neg (show ¬ (false = true) by decide)] at H
         by_cases c37 : a0_4 > 0
         ·rw [if_pos c37] at H
          have c37b0 : decide (0 < a0_4) = true:=decide_eq_true c37
          clear c37
          by_cases c38 : (l0_11.length : Int) > 0
          ·rw [if_pos c38] at H
           have c38b0 : decide (0 < (l0_11.length : Int)) = true:=decide_eq_true c38
           have c38b1 : decide (0 < l0_11.length) = true:=decide_eq_true (by omega)
           clear c38
           obtain rfl:=Option.some.inj H
           obtain ⟨hcz39_0,hcz39_1,hcz39_2,hcz39_3,hcz39_4,hcz39_5,hcz39_6,hcz39_7,hcz39_8,hcz39_9,hcz39_10,hcz39_11⟩:=cells12 BK134.out
           go_wp2
           go_ret
           exact ⟨by first | rfl,by repeat ((with_reducible first | exact HB.out))⟩
          ·rw [if_neg c38] at H
           have c38b0 : decide (0 < (l0_11.length : Int)) = false:=decide_eq_false c38
           have c38b1 : decide (0 < l0_11.length) = false:=decide_eq_false (by omega)
           clear c38
           by_cases c40 : a0_10 = true
           ·subst c40
            rw [if_pos rfl] at H
            obtain rfl:=Option.some.inj H
            obtain ⟨hcz41_0,hcz41_1,hcz41_2,hcz41_3,hcz41_4,hcz41_5,hcz41_6,hcz41_7,hcz41_8,hcz41_9,hcz41_10,hcz41_11⟩:=cells12 BK134.out
            go_wp2
            go_ret
            exact ⟨by first | rfl,by repeat ((with_reducible first | exact HB.out))⟩
           ·replace c40:=Bool.eq_false_iff.mpr c40
            subst c40
            rw [if_neg (show ¬ (false = true) by decide)] at H
            by_cases c42 : (l0_8.length : Int) = 4
            ·rw [if_pos c42] at H
             have c42b0 : ((l0_8.length : Int) == 4) = true:=beq_iff_eq.mpr c42
             have c42b1 : ((l0_8.length : Int) != 4) = false:=bne_eq_false_iff_eq.mpr c42
             clear c42
             obtain rfl:=Option.some.inj H
             obtain ⟨hcz43_0,hcz43_1,hcz43_2,hcz43_3,hcz43_4,hcz43_5,hcz43_6,hcz43_7,hcz43_8,hcz43_9,hcz43_10,hcz43_11⟩:=cells12 BK134.out
             go_wp2
             go_ret
             exact ⟨by first | rfl,by repeat ((with_reducible first | exact HB.out))⟩
            ·rw [if_neg c42] at H
             have c42b0 : ((l0_8.length : Int) == 4) = false:=beq_eq_false_iff_ne.mpr c42
             have c42b1 : ((l0_8.length : Int) != 4) = true:=bne_iff_ne.mpr c42
             obtain rfl:=Option.some.inj H
             obtain ⟨hcz44_0,hcz44_1,hcz44_2,hcz44_3,hcz44_4,hcz44_5,hcz44_6,hcz44_7,hcz44_8,hcz44_9,hcz44_10,hcz44_11⟩:=cells12 BK134.out
             go_wp2
             go_ret
             exact ⟨by first | rfl,by repeat ((with_reducible first | exact HB.out))⟩
         ·rw [if_neg c37] at H
          have c37b0 : decide (0 < a0_4) = false:=decide_eq_false c37
          clear c37
          by_cases c45 : a0_10 = true
          ·subst c45
           rw [if_pos rfl] at H
           obtain rfl:=Option.some.inj H
           obtain ⟨hcz46_0,hcz46_1,hcz46_2,hcz46_3,hcz46_4,hcz46_5,hcz46_6,hcz46_7,hcz46_8,hcz46_9,hcz46_10,hcz46_11⟩:=cells12 BK134.out
           go_wp2
           go_ret
           exact ⟨by first | rfl,by repeat ((with_reducible first | exact HB.out))⟩
          ·replace c45:=Bool.eq_false_iff.mpr c45
           subst c45
           rw [if_neg (show ¬ (false = true) by decide)] at H
           by_cases c47 : (l0_8.length : Int) = 4
           ·rw [if_pos c47] at H
            have c47b0 : ((l0_8.length : Int) == 4) = true:=beq_iff_eq.mpr c47
            have c47b1 : ((l0_8.length : Int) != 4) = false:=bne_eq_false_iff_eq.mpr c47
            clear c47
            obtain rfl:=Option.some.inj H
            obtain ⟨hcz48_0,hcz48_1,hcz48_2,hcz48_3,hcz48_4,hcz48_5,hcz48_6,hcz48_7,hcz48_8,hcz48_9,hcz48_10,hcz48_11⟩:=cells12 BK134.out
            go_wp2
            go_ret
            exact ⟨by first | rfl,by repeat ((with_reducible first | exact HB.out))⟩
           ·rw [if_neg c47] at H
            have c47b0 : ((l0_8.length : Int) == 4) = false:=beq_eq_false_iff_ne.mpr c47
            have c47b1 : ((l0_8.length : Int) != 4) = true:=bne_iff_ne.mpr c47
            obtain rfl:=Option.some.inj H
            obtain ⟨hcz49_0,hcz49_1,hcz49_2,hcz49_3,hcz49_4,hcz49_5,hcz49_6,hcz49_7,hcz49_8,hcz49_9,hcz49_10,hcz49_11⟩:=cells12 BK134.out
            go_wp2
            go_ret
            exact ⟨by first | rfl,by repeat ((with_reducible first | exact HB.out))⟩
end Go.Proofs.YtiminjibcafkaaaGreatDoor.X
