-- MADE BY wip/prx.py (the kit's printer, with contracts proved by hand). Not trusted: Lean checks it.
import Derived.Test.YtiminjibcafkaaaGreatDoorTBJ5
import Derived.Test.YtiminjibcafkaaaGreatDoorTBJ4
namespace Go.Proofs.YtiminjibcafkaaaGreatDoor.X
open Go.RowKit Go.Proofs.YtiminjibcafkaaaGreatDoorW.PrintWords Go.Proofs.YtiminjibcafkaaaGreatDoorW.PrintLast Go.Proofs.YtiminjibcafkaaaGreatDoorW.PrintMore
attribute [local go_sem] max2_int min2_int max_two min_two max_three min_three max_four min_four   -- for this text's walks alone
set_option linter.unusedVariables false
set_option linter.unusedSimpArgs false
/-! ### know_Right: function 50 -/
def know_Right.l0 : Nat → List (S67) → List (S67) → Int → Int → Option (Bool)
 | 0,_,_,_,_=>none
 | k + 1,x0,x5,x6,x7=>if x7 < x6 then (if 0 ≤ x7 then (if x7 < (x5.length : Int) then ((know_run.f ((rd_T67 x5 x7).f0) ((rd_T67 x5 x7).f1) ((rd_T67 x5 x7).f2)).bind fun t106=>(if t106 = true then (if x7 > 0 then (if 0 ≤ (wrap64 (x7 - 1)) then (if (wrap64 (x7 - 1)) < (x0.length : Int) then ((know_apart.f ((rd_T67 x0 (wrap64 (x7 - 1))).f0) ((rd_T67 x0 (wrap64 (x7 - 1))).f1) ((rd_T67 x0 (wrap64 (x7 - 1))).f2) ((rd_T67 x5 x7).f0) ((rd_T67 x5 x7).f1) ((rd_T67 x5 x7).f2)).bind fun t108=>(if t108 = true then (know_Right.l0 k x0 x5 x6 (wrap64 (x7 + 1))) else (some false))) else (none)) else (none)) else (know_Right.l0 k x0 x5 x6 (wrap64 (x7 + 1)))) else (some false))) else (none)) else (none)) else (some (decide ((x0.length : Int) ≤ 64)))
def know_Right.f (k : Nat) (l0 : List (S67)) : Option (Bool):=know_Right.l0 k l0 l0 (l0.length : Int) 0
def know_Right.T4 : Bool × List (List Nat × List Nat):=(true,[([],[]),([0],[0]),([1],[1]),([2,1],[2]),([3],[3]),([4,3],[3,4]),([5,3,3],[3,5]),([6],[6]),([6],[6]),([8,6],[6,8]),([7,9,6],[6,7,9]),([10,6],[6,10]),([6],[6]),([11,12,6,6],[6,11,12]),([13,6],[6,13]),([6,14,3],[3,6,14]),([3,15],[3,15])])
def know_Right.B4 : List Nat:=[0,1,3,7,15,31,63,127,127,383,1023,2047,127,8191,16383,32767,65535]
theorem know_Right.tab4 : rtab .any (opsOf Tryz.f50 4) = know_Right.T4:=by kernel_rfl
theorem know_Right.bits4 : waitsOk know_Right.T4.2 know_Right.B4 = true:=by kernel_rfl
set_option maxHeartbeats 8000000 in
set_option maxRecDepth 100000 in
theorem know_Right.calls (k : Nat) (A0 : Option Addr) (c0 : Nat) (l0 : List (S67)) (r : Bool) (w : World) (hr0 : Kd.C k67 w A0 l0.length l0) (hc0 : l0.length ≤ c0) (h : know_Right.f k l0 = some r) :
 Calls Tryz.prog 50 #[.slice A0 l0.length c0] w fun e w'=>e = .returned (.bool r) ∧ Below w.heap.size w w':=by
 have hu67:=Tryz.underlying67
 have HR0:=Aside0.mk hr0
 have HC0:=Aside0.mk hc0
 clear hr0 hc0
 have HB:=Aside0.mk (Below.refl w.heap.size w)
 have H : (know_Right.l0 k l0 l0 (l0.length : Int) 0) = some r:=h
 clear h
 have H':=Aside0.mk H
 clear H
 go_enter Tryz.func50,Tryz.ntmps50
 go_wp2
 go_loopg [7] k (fun kq v7 w'=>∃ (x7_1 : Int),v7 = .int .i64 x7_1 ∧ Aside0 (know_Right.l0 kq l0 l0 (l0.length : Int) x7_1 = some r) ∧ Aside0 (kq ≤ k) ∧ Aside0 (Below w.heap.size w w'))
 case atStart=>exact ⟨(0),(by first | rfl),H',⟨Nat.le_refl _⟩,⟨by repeat ((with_reducible first | exact HB.out))⟩⟩
 case round =>
  clear H'
  obtain ⟨x7_1,rfl,HA,HK1,HB⟩:=hrel
  cases gk with
  | zero=>exact absurd HA.out (by simp [know_Right.l0])
  | succ k1 =>
   have H:=HA.out
   clear HA
   simp only [know_Right.l0] at H
   by_cases c2 : x7_1 < (l0.length : Int)
   ·rw [if_pos c2] at H
    have c2b0 : decide (x7_1 < (l0.length : Int)) = true:=decide_eq_true c2
    clear c2
    by_cases c3 : 0 ≤ x7_1
    ·rw [if_pos c3] at H
     have c3b0 : decide (0 ≤ x7_1) = true:=decide_eq_true c3
     clear c3
     by_cases c4 : x7_1 < (l0.length : Int)
     ·rw [if_pos c4] at H
      have c4b0 : decide (x7_1 < (l0.length : Int)) = true:=decide_eq_true c4
      clear c4
      replace H:=Option.bind_eq_some_iff.mp H
      obtain ⟨t106,A50,H⟩:=H
      have A5:=Aside0.mk A50
      clear A50
      by_cases c6 : t106 = true
      ·subst c6
       rw [if_pos rfl] at H
       by_cases c7 : x7_1 > 0
       ·rw [if_pos c7] at H
        have c7b0 : decide (0 < x7_1) = true:=decide_eq_true c7
        clear c7
        obtain ⟨ji8,hji8⟩ : ∃ j_ : Int,(wrap64 (x7_1 - 1)) = j_:=⟨_,rfl⟩
        replace H : (if 0 ≤ (ji8) then (if (ji8) < (l0.length : Int) then ((know_apart.f ((rd_T67 l0 (ji8)).f0) ((rd_T67 l0 (ji8)).f1) ((rd_T67 l0 (ji8)).f2) ((rd_T67 l0 x7_1).f0) ((rd_T67 l0 x7_1).f1) ((rd_T67 l0 x7_1).f2)).bind fun t108=>(if t108 = true then (know_Right.l0 k1 l0 l0 (l0.length : Int) (wrap64 (x7_1 + 1))) else (some false))) else (none)) else (none)) = some r:=by (rw [hji8] at H;exact H)
        have hji8w : (IntKind.i64.wrap (x7_1 - 1)) = ji8:=(i64_w _).trans hji8
        by_cases c9 : 0 ≤ (ji8)
        ·rw [if_pos c9] at H
         have c9b0 : decide (0 ≤ (ji8)) = true:=decide_eq_true c9
         clear c9
         by_cases c10 : (ji8) < (l0.length : Int)
         ·rw [if_pos c10] at H
          have c10b0 : decide ((ji8) < (l0.length : Int)) = true:=decide_eq_true c10
          clear c10
          replace H:=Option.bind_eq_some_iff.mp H
          obtain ⟨t108,A110,H⟩:=H
          have A11:=Aside0.mk A110
          clear A110
          by_cases c12 : t108 = true
          ·subst c12
           rw [if_pos rfl] at H
           have H':=Aside0.mk H
           clear H
           have p104 : 0 ≤ (x7_1 : Int):=of_decide_eq_true (by (with_reducible assumption))
           have q104 : x7_1 < (l0.length : Int):=of_decide_eq_true (by (with_reducible assumption))
           obtain ⟨ad104,e104,hx104_0,hx104_1,hx104_2⟩:=at_T67 HR0.out x7_1 p104 q104
           cases e104
           replace hx104_0:=(HB.out.cell (World.block_lt_of_cell? w _ hx104_0)).trans hx104_0
           replace hx104_1:=(HB.out.cell (World.block_lt_of_cell? w _ hx104_1)).trans hx104_1
           replace hx104_2:=(HB.out.cell (World.block_lt_of_cell? w _ hx104_2)).trans hx104_2
           replace p104:=eq_true p104
           replace q104:=eq_true q104
           try go_wp2_with (((with_reducible refine gate_dst (N:=4) rfl ?_);refine box_event ?hg (N:=4) ?hd (cs:=#[.int .u8 0,.int .u32 0,.int .u32 0]) (t:=67) ?hr ?_;(case hd=>rfl);(case hg=>rfl);(case hr=>(go_simp;done));intro gb105 hg w13 hbox hb;have n0_:=Aside0.mk (below_step (by repeat ((with_reducible first | exact HB.out))) hb);have n1_:=Aside0.mk (hbox);have n2_:=Aside0.mk ((by rw [hg];exact (below_size (by repeat ((with_reducible first | exact HB.out)))) : w.heap.size ≤ gb105));have n3_:=Aside0.mk ((by rw [hg];exact (below_size (by repeat ((with_reducible first | exact HB.out)))) : w.heap.size ≤ gb105));clear HB;have HB:=n0_;have BK105:=n1_;have GW105:=n2_;have GE105:=n3_;clear n0_ n1_ n2_ n3_ hb hbox hg;obtain ⟨hcz14_0,hcz14_1,hcz14_2⟩:=cells3 BK105.out;obtain ⟨hfz14_0,hfz14_1,hfz14_2,_,_,_,_,_,_,_,_,_,_⟩:=frz13 BK105.out))
           generalize hW : World.setCell (World.setCell (World.setCell w13 _ _) _ _) _ _ = w15
           replace BK105:=Aside0.mk (putg3 hW BK105.out)
           replace HB:=Aside0.mk (belg3 hW HB.out GE105.out)
           clear hW
           replace BK105:=Aside0.mk (blk_drew BK105.out)
           replace HB:=Aside0.mk (below_drew1 HB.out)
           have p107 : 0 ≤ ((ji8) : Int):=of_decide_eq_true (by (with_reducible assumption))
           have q107 : (ji8) < (l0.length : Int):=of_decide_eq_true (by (with_reducible assumption))
           obtain ⟨ad107,e107,hx107_0,hx107_1,hx107_2⟩:=at_T67 HR0.out (ji8) p107 q107
           have hw107_2:=hx107_2
           have hw107_1:=hx107_1
           have hw107_0:=hx107_0
           obtain rfl : ad104 = ad107:=(by injection e107)
           replace hx107_0:=(HB.out.cell (World.block_lt_of_cell? w _ hx107_0)).trans hx107_0
           replace hx107_1:=(HB.out.cell (World.block_lt_of_cell? w _ hx107_1)).trans hx107_1
           replace hx107_2:=(HB.out.cell (World.block_lt_of_cell? w _ hx107_2)).trans hx107_2
           replace p107:=eq_true p107
           replace q107:=eq_true q107
           refine start_ (n:=17) (S:=fun w'=>w'.cell? ⟨gb105,0,none⟩ = some (.int .u8 ((rd_T67 l0 x7_1).f0)) ∧ w'.cell? ⟨gb105,1,none⟩ = some (.int .u32 ((rd_T67 l0 x7_1).f1)) ∧ w'.cell? ⟨gb105,2,none⟩ = some (.int .u32 ((rd_T67 l0 x7_1).f2)) ∧ w'.cell? (ad104.add (((ji8)).toNat * 3)) = some (.int .u8 ((rd_T67 l0 (ji8)).f0)) ∧ w'.cell? ⟨(ad104.add (((ji8)).toNat * 3)).block,(ad104.add (((ji8)).toNat * 3)).off + 1,none⟩ = some (.int .u32 ((rd_T67 l0 (ji8)).f1)) ∧ w'.cell? ⟨(ad104.add (((ji8)).toNat * 3)).block,(ad104.add (((ji8)).toNat * 3)).off + 2,none⟩ = some (.int .u32 ((rd_T67 l0 (ji8)).f2))) (ds:=[]) #[false,false,false,false,false,false,false,false,false,false,false,false,false,false,false,false,false] (by kernel_rfl) rfl rfl ⟨(blk_cell BK105.out 0).trans rfl,(blk_cell BK105.out 1).trans rfl,(blk_cell BK105.out 2).trans rfl,((HB.out.cell (World.block_lt_of_cell? w _ hw107_0)).trans hw107_0),((HB.out.cell (World.block_lt_of_cell? w _ hw107_1)).trans hw107_1),((HB.out.cell (World.block_lt_of_cell? w _ hw107_2)).trans hw107_2)⟩ (fun hHeld=>?_);refine with_tabW know_Right.tab4 know_Right.bits4 (fun HT_ HW_=>?_)
           generalize w15.drew = w16 at BK105 HB hx107_0 hx107_1 hx107_2 hHeld ⊢
           refine ta 0 (some 12) HT_ HW_ hHeld rfl rfl (by rintro w' ⟨s0,s1,s2,s3,s4,s5⟩;go_simp;with_reducible rfl) ?_
           refine one_ (i:=1) (N:=some 13) #[true,true,false,false,false,false,false,false,false,false,false,false,false,false,false,false,false] rfl rfl (one_of HT_.out (by kernel_rfl)) (by decide) (fun K hK=>?_)
           refine goes_ Tryz.func84 (by kernel_rfl) rfl #[.agg #[.int .u8 ((rd_T67 l0 x7_1).f0),.int .u32 ((rd_T67 l0 x7_1).f1),.int .u32 ((rd_T67 l0 x7_1).f2)]] (by rfl) rfl rfl (by (try simp only [List.map_toArray,List.map_cons,List.map_nil]);first | rfl) ?_
           with_reducible refine (know_run.calls ((rd_T67 l0 x7_1).f0) ((rd_T67 l0 x7_1).f1) ((rd_T67 l0 x7_1).f2) true _ A5.out).mono ?_
           rintro e w17 ⟨rfl,hb⟩
           refine ⟨_,rfl,?_⟩
           replace BK105:=Aside0.mk (blk_below BK105.out hb)
           replace HB:=Aside0.mk (below_step (by repeat ((with_reducible first | exact HB.out))) hb)
           (try clear hb)
           refine hK.out _ _ ⟨(blk_cell BK105.out 0).trans rfl,(blk_cell BK105.out 1).trans rfl,(blk_cell BK105.out 2).trans rfl,((HB.out.cell (World.block_lt_of_cell? w _ hw107_0)).trans hw107_0),((HB.out.cell (World.block_lt_of_cell? w _ hw107_1)).trans hw107_1),((HB.out.cell (World.block_lt_of_cell? w _ hw107_2)).trans hw107_2)⟩ (fun hHeld=>?_)
           clear hK K
           refine no_ (some 13) ?_
           refine pu 2 (some 14) HT_ rfl rfl ?_
           refine pu 3 (some 15) HT_ rfl rfl ?_
           refine pu 4 (some 16) HT_ rfl rfl ?_
           refine pu 5 (some 17) HT_ rfl rfl ?_
           refine pu 6 (some 18) HT_ rfl rfl ?_
           refine pu 7 (some 19) HT_ rfl rfl ?_
           refine pu 8 (some 20) HT_ rfl rfl ?_
           refine pu 9 (some 21) HT_ rfl rfl ?_
           refine pu 10 (some 22) HT_ rfl rfl ?_
           refine ta 11 (some 23) HT_ HW_ hHeld rfl rfl (by rintro w' ⟨s0,s1,s2,s3,s4,s5⟩;go_simp;with_reducible rfl) ?_
           refine ta 12 (some 24) HT_ HW_ hHeld rfl rfl (by rintro w' ⟨s0,s1,s2,s3,s4,s5⟩;go_simp;with_reducible rfl) ?_
           refine one_ (i:=13) (N:=some 25) #[true,true,true,true,true,true,true,true,true,true,true,true,true,true,false,false,false] rfl rfl (one_of HT_.out (by kernel_rfl)) (by decide) (fun K hK=>?_)
           refine goes_ Tryz.func85 (by kernel_rfl) rfl #[.agg #[.int .u8 ((rd_T67 l0 (ji8)).f0),.int .u32 ((rd_T67 l0 (ji8)).f1),.int .u32 ((rd_T67 l0 (ji8)).f2)],.agg #[.int .u8 ((rd_T67 l0 x7_1).f0),.int .u32 ((rd_T67 l0 x7_1).f1),.int .u32 ((rd_T67 l0 x7_1).f2)]] (by rfl) rfl rfl (by (try simp only [List.map_toArray,List.map_cons,List.map_nil]);first | rfl) ?_
           with_reducible refine (know_apart.calls ((rd_T67 l0 (ji8)).f0) ((rd_T67 l0 (ji8)).f1) ((rd_T67 l0 (ji8)).f2) ((rd_T67 l0 x7_1).f0) ((rd_T67 l0 x7_1).f1) ((rd_T67 l0 x7_1).f2) true _ A11.out).mono ?_
           rintro e w18 ⟨rfl,hb⟩
           refine ⟨_,rfl,?_⟩
           replace BK105:=Aside0.mk (blk_below BK105.out hb)
           replace HB:=Aside0.mk (below_step (by repeat ((with_reducible first | exact HB.out))) hb)
           (try clear hb)
           refine hK.out _ _ ⟨(blk_cell BK105.out 0).trans rfl,(blk_cell BK105.out 1).trans rfl,(blk_cell BK105.out 2).trans rfl,((HB.out.cell (World.block_lt_of_cell? w _ hw107_0)).trans hw107_0),((HB.out.cell (World.block_lt_of_cell? w _ hw107_1)).trans hw107_1),((HB.out.cell (World.block_lt_of_cell? w _ hw107_2)).trans hw107_2)⟩ (fun hHeld=>?_)
           clear hK K
           refine no_ (some 25) ?_
           refine pu 14 (some 26) HT_ rfl rfl ?_
           refine pu 15 (some 27) HT_ rfl rfl ?_
           refine pu 16 (some 28) HT_ rfl rfl ?_
           refine done_ (done_of HT_.out (by kernel_rfl)) ?_
           try go_wp2
           go_roundg k1
           case measure=>have:=HK1.out;omega
           case rel=>exact ⟨(wrap64 (x7_1 + 1)),(by first | rfl),H',⟨by have:=HK1.out;omega⟩,⟨by repeat ((with_reducible first | exact HB.out))⟩⟩
          ·replace c12:=Bool.eq_false_iff.mpr c12
           subst c12
           rw [if_neg (show ¬ (false = true) by decide)] at H
           obtain rfl:=Option.some.inj H
           have p104 : 0 ≤ (x7_1 : Int):=of_decide_eq_true (by (with_reducible assumption))
           have q104 : x7_1 < (l0.length : Int):=of_decide_eq_true (by (with_reducible assumption))
           obtain ⟨ad104,e104,hx104_0,hx104_1,hx104_2⟩:=at_T67 HR0.out x7_1 p104 q104
           cases e104
           replace hx104_0:=(HB.out.cell (World.block_lt_of_cell? w _ hx104_0)).trans hx104_0
           replace hx104_1:=(HB.out.cell (World.block_lt_of_cell? w _ hx104_1)).trans hx104_1
           replace hx104_2:=(HB.out.cell (World.block_lt_of_cell? w _ hx104_2)).trans hx104_2
           replace p104:=eq_true p104
           replace q104:=eq_true q104
           try go_wp2_with (((with_reducible refine gate_dst (N:=4) rfl ?_);refine box_event ?hg (N:=4) ?hd (cs:=#[.int .u8 0,.int .u32 0,.int .u32 0]) (t:=67) ?hr ?_;(case hd=>rfl);(case hg=>rfl);(case hr=>(go_simp;done));intro gb105 hg w19 hbox hb;have n0_:=Aside0.mk (below_step (by repeat ((with_reducible first | exact HB.out))) hb);have n1_:=Aside0.mk (hbox);have n2_:=Aside0.mk ((by rw [hg];exact (below_size (by repeat ((with_reducible first | exact HB.out)))) : w.heap.size ≤ gb105));have n3_:=Aside0.mk ((by rw [hg];exact (below_size (by repeat ((with_reducible first | exact HB.out)))) : w.heap.size ≤ gb105));clear HB;have HB:=n0_;have BK105:=n1_;have GW105:=n2_;have GE105:=n3_;clear n0_ n1_ n2_ n3_ hb hbox hg;obtain ⟨hcz20_0,hcz20_1,hcz20_2⟩:=cells3 BK105.out;obtain ⟨hfz20_0,hfz20_1,hfz20_2,_,_,_,_,_,_,_,_,_,_⟩:=frz13 BK105.out))
           generalize hW : World.setCell (World.setCell (World.setCell w19 _ _) _ _) _ _ = w21
           replace BK105:=Aside0.mk (putg3 hW BK105.out)
           replace HB:=Aside0.mk (belg3 hW HB.out GE105.out)
           clear hW
           replace BK105:=Aside0.mk (blk_drew BK105.out)
           replace HB:=Aside0.mk (below_drew1 HB.out)
           have p107 : 0 ≤ ((ji8) : Int):=of_decide_eq_true (by (with_reducible assumption))
           have q107 : (ji8) < (l0.length : Int):=of_decide_eq_true (by (with_reducible assumption))
           obtain ⟨ad107,e107,hx107_0,hx107_1,hx107_2⟩:=at_T67 HR0.out (ji8) p107 q107
           have hw107_2:=hx107_2
           have hw107_1:=hx107_1
           have hw107_0:=hx107_0
           obtain rfl : ad104 = ad107:=(by injection e107)
           replace hx107_0:=(HB.out.cell (World.block_lt_of_cell? w _ hx107_0)).trans hx107_0
           replace hx107_1:=(HB.out.cell (World.block_lt_of_cell? w _ hx107_1)).trans hx107_1
           replace hx107_2:=(HB.out.cell (World.block_lt_of_cell? w _ hx107_2)).trans hx107_2
           replace p107:=eq_true p107
           replace q107:=eq_true q107
           refine start_ (n:=17) (S:=fun w'=>w'.cell? ⟨gb105,0,none⟩ = some (.int .u8 ((rd_T67 l0 x7_1).f0)) ∧ w'.cell? ⟨gb105,1,none⟩ = some (.int .u32 ((rd_T67 l0 x7_1).f1)) ∧ w'.cell? ⟨gb105,2,none⟩ = some (.int .u32 ((rd_T67 l0 x7_1).f2)) ∧ w'.cell? (ad104.add (((ji8)).toNat * 3)) = some (.int .u8 ((rd_T67 l0 (ji8)).f0)) ∧ w'.cell? ⟨(ad104.add (((ji8)).toNat * 3)).block,(ad104.add (((ji8)).toNat * 3)).off + 1,none⟩ = some (.int .u32 ((rd_T67 l0 (ji8)).f1)) ∧ w'.cell? ⟨(ad104.add (((ji8)).toNat * 3)).block,(ad104.add (((ji8)).toNat * 3)).off + 2,none⟩ = some (.int .u32 ((rd_T67 l0 (ji8)).f2))) (ds:=[]) #[false,false,false,false,false,false,false,false,false,false,false,false,false,false,false,false,false] (by kernel_rfl) rfl rfl ⟨(blk_cell BK105.out 0).trans rfl,(blk_cell BK105.out 1).trans rfl,(blk_cell BK105.out 2).trans rfl,((HB.out.cell (World.block_lt_of_cell? w _ hw107_0)).trans hw107_0),((HB.out.cell (World.block_lt_of_cell? w _ hw107_1)).trans hw107_1),((HB.out.cell (World.block_lt_of_cell? w _ hw107_2)).trans hw107_2)⟩ (fun hHeld=>?_);refine with_tabW know_Right.tab4 know_Right.bits4 (fun HT_ HW_=>?_)
           generalize w21.drew = w22 at BK105 HB hx107_0 hx107_1 hx107_2 hHeld ⊢
           refine ta 0 (some 12) HT_ HW_ hHeld rfl rfl (by rintro w' ⟨s0,s1,s2,s3,s4,s5⟩;go_simp;with_reducible rfl) ?_
           refine one_ (i:=1) (N:=some 13) #[true,true,false,false,false,false,false,false,false,false,false,false,false,false,false,false,false] rfl rfl (one_of HT_.out (by kernel_rfl)) (by decide) (fun K hK=>?_)
           refine goes_ Tryz.func84 (by kernel_rfl) rfl #[.agg #[.int .u8 ((rd_T67 l0 x7_1).f0),.int .u32 ((rd_T67 l0 x7_1).f1),.int .u32 ((rd_T67 l0 x7_1).f2)]] (by rfl) rfl rfl (by (try simp only [List.map_toArray,List.map_cons,List.map_nil]);first | rfl) ?_
           with_reducible refine (know_run.calls ((rd_T67 l0 x7_1).f0) ((rd_T67 l0 x7_1).f1) ((rd_T67 l0 x7_1).f2) true _ A5.out).mono ?_
           rintro e w23 ⟨rfl,hb⟩
           refine ⟨_,rfl,?_⟩
           replace BK105:=Aside0.mk (blk_below BK105.out hb)
           replace HB:=Aside0.mk (below_step (by repeat ((with_reducible first | exact HB.out))) hb)
           (try clear hb)
           refine hK.out _ _ ⟨(blk_cell BK105.out 0).trans rfl,(blk_cell BK105.out 1).trans rfl,(blk_cell BK105.out 2).trans rfl,((HB.out.cell (World.block_lt_of_cell? w _ hw107_0)).trans hw107_0),((HB.out.cell (World.block_lt_of_cell? w _ hw107_1)).trans hw107_1),((HB.out.cell (World.block_lt_of_cell? w _ hw107_2)).trans hw107_2)⟩ (fun hHeld=>?_)
           clear hK K
           refine no_ (some 13) ?_
           refine pu 2 (some 14) HT_ rfl rfl ?_
           refine pu 3 (some 15) HT_ rfl rfl ?_
           refine pu 4 (some 16) HT_ rfl rfl ?_
           refine pu 5 (some 17) HT_ rfl rfl ?_
           refine pu 6 (some 18) HT_ rfl rfl ?_
           refine pu 7 (some 19) HT_ rfl rfl ?_
           refine pu 8 (some 20) HT_ rfl rfl ?_
           refine pu 9 (some 21) HT_ rfl rfl ?_
           refine pu 10 (some 22) HT_ rfl rfl ?_
           refine ta 11 (some 23) HT_ HW_ hHeld rfl rfl (by rintro w' ⟨s0,s1,s2,s3,s4,s5⟩;go_simp;with_reducible rfl) ?_
           refine ta 12 (some 24) HT_ HW_ hHeld rfl rfl (by rintro w' ⟨s0,s1,s2,s3,s4,s5⟩;go_simp;with_reducible rfl) ?_
           refine one_ (i:=13) (N:=some 25) #[true,true,true,true,true,true,true,true,true,true,true,true,true,true,false,false,false] rfl rfl (one_of HT_.out (by kernel_rfl)) (by decide) (fun K hK=>?_)
           refine goes_ Tryz.func85 (by kernel_rfl) rfl #[.agg #[.int .u8 ((rd_T67 l0 (ji8)).f0),.int .u32 ((rd_T67 l0 (ji8)).f1),.int .u32 ((rd_T67 l0 (ji8)).f2)],.agg #[.int .u8 ((rd_T67 l0 x7_1).f0),.int .u32 ((rd_T67 l0 x7_1).f1),.int .u32 ((rd_T67 l0 x7_1).f2)]] (by rfl) rfl rfl (by (try simp only [List.map_toArray,List.map_cons,List.map_nil]);first | rfl) ?_
           with_reducible refine (know_apart.calls ((rd_T67 l0 (ji8)).f0) ((rd_T67 l0 (ji8)).f1) ((rd_T67 l0 (ji8)).f2) ((rd_T67 l0 x7_1).f0) ((rd_T67 l0 x7_1).f1) ((rd_T67 l0 x7_1).f2) false _ A11.out).mono ?_
           rintro e w24 ⟨rfl,hb⟩
           refine ⟨_,rfl,?_⟩
           replace BK105:=Aside0.mk (blk_below BK105.out hb)
           replace HB:=Aside0.mk (below_step (by repeat ((with_reducible first | exact HB.out))) hb)
           (try clear hb)
           refine hK.out _ _ ⟨(blk_cell BK105.out 0).trans rfl,(blk_cell BK105.out 1).trans rfl,(blk_cell BK105.out 2).trans rfl,((HB.out.cell (World.block_lt_of_cell? w _ hw107_0)).trans hw107_0),((HB.out.cell (World.block_lt_of_cell? w _ hw107_1)).trans hw107_1),((HB.out.cell (World.block_lt_of_cell? w _ hw107_2)).trans hw107_2)⟩ (fun hHeld=>?_)
           clear hK K
           refine no_ (some 25) ?_
           refine pu 14 (some 26) HT_ rfl rfl ?_
           refine pu 15 (some 27) HT_ rfl rfl ?_
           refine pu 16 (some 28) HT_ rfl rfl ?_
           refine done_ (done_of HT_.out (by kernel_rfl)) ?_
           try go_wp2
           go_ret
           exact ⟨by first | rfl,by repeat ((with_reducible first | exact HB.out))⟩
         ·rw [if_neg c10] at H
          exact absurd H (by simp)
        ·rw [if_neg c9] at H
         exact absurd H (by simp)
       ·rw [if_neg c7] at H
        have c7b0 : decide (0 < x7_1) = false:=decide_eq_false c7
        clear c7
        have H':=Aside0.mk H
        clear H
        have p104 : 0 ≤ (x7_1 : Int):=of_decide_eq_true (by (with_reducible assumption))
        have q104 : x7_1 < (l0.length : Int):=of_decide_eq_true (by (with_reducible assumption))
        obtain ⟨ad104,e104,hx104_0,hx104_1,hx104_2⟩:=at_T67 HR0.out x7_1 p104 q104
        cases e104
        replace hx104_0:=(HB.out.cell (World.block_lt_of_cell? w _ hx104_0)).trans hx104_0
        replace hx104_1:=(HB.out.cell (World.block_lt_of_cell? w _ hx104_1)).trans hx104_1
        replace hx104_2:=(HB.out.cell (World.block_lt_of_cell? w _ hx104_2)).trans hx104_2
        replace p104:=eq_true p104
        replace q104:=eq_true q104
        try go_wp2_with (((with_reducible refine gate_dst (N:=4) rfl ?_);refine box_event ?hg (N:=4) ?hd (cs:=#[.int .u8 0,.int .u32 0,.int .u32 0]) (t:=67) ?hr ?_;(case hd=>rfl);(case hg=>rfl);(case hr=>(go_simp;done));intro gb105 hg w25 hbox hb;have n0_:=Aside0.mk (below_step (by repeat ((with_reducible first | exact HB.out))) hb);have n1_:=Aside0.mk (hbox);have n2_:=Aside0.mk ((by rw [hg];exact (below_size (by repeat ((with_reducible first | exact HB.out)))) : w.heap.size ≤ gb105));have n3_:=Aside0.mk ((by rw [hg];exact (below_size (by repeat ((with_reducible first | exact HB.out)))) : w.heap.size ≤ gb105));clear HB;have HB:=n0_;have BK105:=n1_;have GW105:=n2_;have GE105:=n3_;clear n0_ n1_ n2_ n3_ hb hbox hg;obtain ⟨hcz26_0,hcz26_1,hcz26_2⟩:=cells3 BK105.out;obtain ⟨hfz26_0,hfz26_1,hfz26_2,_,_,_,_,_,_,_,_,_,_⟩:=frz13 BK105.out))
        generalize hW : World.setCell (World.setCell (World.setCell w25 _ _) _ _) _ _ = w27
        replace BK105:=Aside0.mk (putg3 hW BK105.out)
        replace HB:=Aside0.mk (belg3 hW HB.out GE105.out)
        clear hW
        replace BK105:=Aside0.mk (blk_drew BK105.out)
        replace HB:=Aside0.mk (below_drew1 HB.out)
        refine start_ (n:=17) (S:=fun w'=>w'.cell? ⟨gb105,0,none⟩ = some (.int .u8 ((rd_T67 l0 x7_1).f0)) ∧ w'.cell? ⟨gb105,1,none⟩ = some (.int .u32 ((rd_T67 l0 x7_1).f1)) ∧ w'.cell? ⟨gb105,2,none⟩ = some (.int .u32 ((rd_T67 l0 x7_1).f2))) (ds:=[]) #[false,false,false,false,false,false,false,false,false,false,false,false,false,false,false,false,false] (by kernel_rfl) rfl rfl ⟨(blk_cell BK105.out 0).trans rfl,(blk_cell BK105.out 1).trans rfl,(blk_cell BK105.out 2).trans rfl⟩ (fun hHeld=>?_);refine with_tabW know_Right.tab4 know_Right.bits4 (fun HT_ HW_=>?_)
        generalize w27.drew = w28 at BK105 HB hHeld ⊢
        refine ta 0 (some 12) HT_ HW_ hHeld rfl rfl (by rintro w' ⟨s0,s1,s2⟩;go_simp;with_reducible rfl) ?_
        refine one_ (i:=1) (N:=some 13) #[true,true,false,false,false,false,false,false,false,false,false,false,false,false,false,false,false] rfl rfl (one_of HT_.out (by kernel_rfl)) (by decide) (fun K hK=>?_)
        refine goes_ Tryz.func84 (by kernel_rfl) rfl #[.agg #[.int .u8 ((rd_T67 l0 x7_1).f0),.int .u32 ((rd_T67 l0 x7_1).f1),.int .u32 ((rd_T67 l0 x7_1).f2)]] (by rfl) rfl rfl (by (try simp only [List.map_toArray,List.map_cons,List.map_nil]);first | rfl) ?_
        with_reducible refine (know_run.calls ((rd_T67 l0 x7_1).f0) ((rd_T67 l0 x7_1).f1) ((rd_T67 l0 x7_1).f2) true _ A5.out).mono ?_
        rintro e w29 ⟨rfl,hb⟩
        refine ⟨_,rfl,?_⟩
        replace BK105:=Aside0.mk (blk_below BK105.out hb)
        replace HB:=Aside0.mk (below_step (by repeat ((with_reducible first | exact HB.out))) hb)
        (try clear hb)
        refine hK.out _ _ ⟨(blk_cell BK105.out 0).trans rfl,(blk_cell BK105.out 1).trans rfl,(blk_cell BK105.out 2).trans rfl⟩ (fun hHeld=>?_)
        clear hK K
        refine no_ (some 13) ?_
        refine pu 2 (some 14) HT_ rfl rfl ?_
        refine pu 3 (some 15) HT_ rfl rfl ?_
        refine pu 4 (some 16) HT_ rfl rfl ?_
        refine pu 5 (some 17) HT_ rfl rfl ?_
        refine pu 6 (some 18) HT_ rfl rfl ?_
        refine sk 7 (some 19) HT_ rfl rfl ?_
        refine sk 8 (some 20) HT_ rfl rfl ?_
        refine sk 9 (some 21) HT_ rfl rfl ?_
        refine sk 10 (some 22) HT_ rfl rfl ?_
        refine sk 11 (some 23) HT_ rfl rfl ?_
        refine sk 12 (some 24) HT_ rfl rfl ?_
        refine sk 13 (some 25) HT_ rfl rfl ?_
        refine sk 14 (some 26) HT_ rfl rfl ?_
        refine pu 15 (some 27) HT_ rfl rfl ?_
        refine pu 16 (some 28) HT_ rfl rfl ?_
        refine done_ (done_of HT_.out (by kernel_rfl)) ?_
        try go_wp2
        go_roundg k1
        case measure=>have:=HK1.out;omega
        case rel=>exact ⟨(wrap64 (x7_1 + 1)),(by first | rfl),H',⟨by have:=HK1.out;omega⟩,⟨by repeat ((with_reducible first | exact HB.out))⟩⟩
      ·replace c6:=Bool.eq_false_iff.mpr c6
       subst c6
       rw [if_neg (show ¬ (false = true) by decide)] at H
       obtain rfl:=Option.some.inj H
       have p104 : 0 ≤ (x7_1 : Int):=of_decide_eq_true (by (with_reducible assumption))
       have q104 : x7_1 < (l0.length : Int):=of_decide_eq_true (by (with_reducible assumption))
       obtain ⟨ad104,e104,hx104_0,hx104_1,hx104_2⟩:=at_T67 HR0.out x7_1 p104 q104
       cases e104
       replace hx104_0:=(HB.out.cell (World.block_lt_of_cell? w _ hx104_0)).trans hx104_0
       replace hx104_1:=(HB.out.cell (World.block_lt_of_cell? w _ hx104_1)).trans hx104_1
       replace hx104_2:=(HB.out.cell (World.block_lt_of_cell? w _ hx104_2)).trans hx104_2
       replace p104:=eq_true p104
       replace q104:=eq_true q104
       try go_wp2_with (((with_reducible refine gate_dst (N:=4) rfl ?_);refine box_event ?hg (N:=4) ?hd (cs:=#[.int .u8 0,.int .u32 0,.int .u32 0]) (t:=67) ?hr ?_;(case hd=>rfl);(case hg=>rfl);(case hr=>(go_simp;done));intro gb105 hg w30 hbox hb;have n0_:=Aside0.mk (below_step (by repeat ((with_reducible first | exact HB.out))) hb);have n1_:=Aside0.mk (hbox);have n2_:=Aside0.mk ((by rw [hg];exact (below_size (by repeat ((with_reducible first | exact HB.out)))) : w.heap.size ≤ gb105));have n3_:=Aside0.mk ((by rw [hg];exact (below_size (by repeat ((with_reducible first | exact HB.out)))) : w.heap.size ≤ gb105));clear HB;have HB:=n0_;have BK105:=n1_;have GW105:=n2_;have GE105:=n3_;clear n0_ n1_ n2_ n3_ hb hbox hg;obtain ⟨hcz31_0,hcz31_1,hcz31_2⟩:=cells3 BK105.out;obtain ⟨hfz31_0,hfz31_1,hfz31_2,_,_,_,_,_,_,_,_,_,_⟩:=frz13 BK105.out))
       generalize hW : World.setCell (World.setCell (World.setCell w30 _ _) _ _) _ _ = w32
       replace BK105:=Aside0.mk (putg3 hW BK105.out)
       replace HB:=Aside0.mk (belg3 hW HB.out GE105.out)
       clear hW
       replace BK105:=Aside0.mk (blk_drew BK105.out)
       replace HB:=Aside0.mk (below_drew1 HB.out)
       refine start_ (n:=17) (S:=fun w'=>w'.cell? ⟨gb105,0,none⟩ = some (.int .u8 ((rd_T67 l0 x7_1).f0)) ∧ w'.cell? ⟨gb105,1,none⟩ = some (.int .u32 ((rd_T67 l0 x7_1).f1)) ∧ w'.cell? ⟨gb105,2,none⟩ = some (.int .u32 ((rd_T67 l0 x7_1).f2))) (ds:=[]) #[false,false,false,false,false,false,false,false,false,false,false,false,false,false,false,false,false] (by kernel_rfl) rfl rfl ⟨(blk_cell BK105.out 0).trans rfl,(blk_cell BK105.out 1).trans rfl,(blk_cell BK105.out 2).trans rfl⟩ (fun hHeld=>?_);refine with_tabW know_Right.tab4 know_Right.bits4 (fun HT_ HW_=>?_)
       generalize w32.drew = w33 at BK105 HB hHeld ⊢
       refine ta 0 (some 12) HT_ HW_ hHeld rfl rfl (by rintro w' ⟨s0,s1,s2⟩;go_simp;with_reducible rfl) ?_
       refine one_ (i:=1) (N:=some 13) #[true,true,false,false,false,false,false,false,false,false,false,false,false,false,false,false,false] rfl rfl (one_of HT_.out (by kernel_rfl)) (by decide) (fun K hK=>?_)
       refine goes_ Tryz.func84 (by kernel_rfl) rfl #[.agg #[.int .u8 ((rd_T67 l0 x7_1).f0),.int .u32 ((rd_T67 l0 x7_1).f1),.int .u32 ((rd_T67 l0 x7_1).f2)]] (by rfl) rfl rfl (by (try simp only [List.map_toArray,List.map_cons,List.map_nil]);first | rfl) ?_
       with_reducible refine (know_run.calls ((rd_T67 l0 x7_1).f0) ((rd_T67 l0 x7_1).f1) ((rd_T67 l0 x7_1).f2) false _ A5.out).mono ?_
       rintro e w34 ⟨rfl,hb⟩
       refine ⟨_,rfl,?_⟩
       replace BK105:=Aside0.mk (blk_below BK105.out hb)
       replace HB:=Aside0.mk (below_step (by repeat ((with_reducible first | exact HB.out))) hb)
       (try clear hb)
       refine hK.out _ _ ⟨(blk_cell BK105.out 0).trans rfl,(blk_cell BK105.out 1).trans rfl,(blk_cell BK105.out 2).trans rfl⟩ (fun hHeld=>?_)
       clear hK K
       refine no_ (some 13) ?_
       refine pu 2 (some 14) HT_ rfl rfl ?_
       refine pu 3 (some 15) HT_ rfl rfl ?_
       refine sk 4 (some 16) HT_ rfl rfl ?_
       refine sk 5 (some 17) HT_ rfl rfl ?_
       refine sk 6 (some 18) HT_ rfl rfl ?_
       refine sk 7 (some 19) HT_ rfl rfl ?_
       refine sk 8 (some 20) HT_ rfl rfl ?_
       refine sk 9 (some 21) HT_ rfl rfl ?_
       refine sk 10 (some 22) HT_ rfl rfl ?_
       refine sk 11 (some 23) HT_ rfl rfl ?_
       refine sk 12 (some 24) HT_ rfl rfl ?_
       refine sk 13 (some 25) HT_ rfl rfl ?_
       refine sk 14 (some 26) HT_ rfl rfl ?_
       refine sk 15 (some 27) HT_ rfl rfl ?_
       refine pu 16 (some 28) HT_ rfl rfl ?_
       refine done_ (done_of HT_.out (by kernel_rfl)) ?_
       try go_wp2
       go_ret
       exact ⟨by first | rfl,by repeat ((with_reducible first | exact HB.out))⟩
     ·rw [if_neg c4] at H
      exact absurd H (by simp)
    ·rw [if_neg c3] at H
     exact absurd H (by simp)
   ·rw [if_neg c2] at H
    have c2b0 : decide (x7_1 < (l0.length : Int)) = false:=decide_eq_false c2
    clear c2
    obtain rfl:=Option.some.inj H
    go_wp2
    go_ret
    exact ⟨by first | rfl,by repeat ((with_reducible first | exact HB.out))⟩
/-! ### item_RightVer: function 113 -/
def item_RightVer.f (a0_0 : Int) (a0_1 : Int) (a0_2 : Int) : Option (Bool):=if a0_0 < 8 then (if a0_1 ≥ 1 then (some (decide (a0_2 ≥ 1))) else (some false)) else (some false)
set_option maxHeartbeats 8000000 in
set_option maxRecDepth 100000 in
theorem item_RightVer.calls (a0_0 : Int) (a0_1 : Int) (a0_2 : Int) (r : Bool) (w : World) (h : item_RightVer.f a0_0 a0_1 a0_2 = some r) :
 Calls Tryz.prog 113 #[.agg #[.int .u8 a0_0,.int .u32 a0_1,.int .u32 a0_2]] w fun e w'=>e = .returned (.bool r) ∧ Below w.heap.size w w':=by
 have hu60:=Tryz.underlying60
 have H:=Aside0.mk h
 clear h
 go_enter Tryz.func113,Tryz.ntmps113
 go_wp2
 all_goals (try go_ret)
 all_goals (have h:=H.out;clear H;simp only [item_RightVer.f] at h)
 all_goals (refine ⟨?_,by ((repeat (first | exact Below.refl _ _ | refine Below.alloc ?_ (by first | exact Nat.le_refl _) _));done)⟩)
 all_goals (first | (simp [*] at h;simp [*];done) | ((repeat' (split at h))<;>first | (exfalso;omega) | (simp [*] at h;subst h;simp [*];done)))
end Go.Proofs.YtiminjibcafkaaaGreatDoor.X
