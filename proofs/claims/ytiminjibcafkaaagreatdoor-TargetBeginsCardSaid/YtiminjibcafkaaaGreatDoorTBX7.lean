-- MADE BY wip/prx.py (the kit's printer, with contracts proved by hand). Not trusted: Lean checks it.
import Derived.Test.YtiminjibcafkaaaGreatDoorTBJ5
import Derived.Test.YtiminjibcafkaaaGreatDoorTBJ4
import Derived.Test.YtiminjibcafkaaaGreatDoorTBJ23
namespace Go.Proofs.YtiminjibcafkaaaGreatDoor.X
open Go.RowKit Go.Proofs.YtiminjibcafkaaaGreatDoorW.PrintWords Go.Proofs.YtiminjibcafkaaaGreatDoorW.PrintLast Go.Proofs.YtiminjibcafkaaaGreatDoorW.PrintMore
attribute [local go_sem] max2_int min2_int max_two min_two max_three min_three max_four min_four   -- for this text's walks alone
set_option linter.unusedVariables false
set_option linter.unusedSimpArgs false
/-! ### item_Right: function 51 -/
def item_Right.l0 : Nat → List (S62) → List (S62) → Int → Int → Option (Bool)
 | 0,_,_,_,_=>none
 | k + 1,x0,x5,x6,x7=>if x7 < x6 then (if 0 ≤ x7 then (if x7 < (x5.length : Int) then ((item_entry.f ((rd_T62 x5 x7).f0) ((rd_T62 x5 x7).f1.f0) ((rd_T62 x5 x7).f1.f1) ((rd_T62 x5 x7).f1.f2) ((rd_T62 x5 x7).f2) ((rd_T62 x5 x7).f3) ((rd_T62 x5 x7).f4)).bind fun t116=>(if t116 = true then (if x7 > 0 then (if 0 ≤ (wrap64 (x7 - 1)) then (if (wrap64 (x7 - 1)) < (x0.length : Int) then (if ((rd_T62 x0 (wrap64 (x7 - 1))).f0) ≥ ((rd_T62 x5 x7).f0) then (some false) else (item_Right.l0 k x0 x5 x6 (wrap64 (x7 + 1)))) else (none)) else (none)) else (item_Right.l0 k x0 x5 x6 (wrap64 (x7 + 1)))) else (some false))) else (none)) else (none)) else (some true)
def item_Right.f (k : Nat) (l0 : List (S62)) : Option (Bool):=item_Right.l0 k l0 l0 (l0.length : Int) 0
def item_Right.T4 : Bool × List (List Nat × List Nat):=(true,[([],[]),([0],[0]),([1],[1]),([2,1],[2]),([3],[3]),([4,3],[3,4]),([5,3,3],[3,5]),([6],[6]),([6],[6]),([8,6],[6,8]),([7,9,6],[6,7,9]),([10,6],[6,10]),([11,6],[6,11]),([6],[6]),([13,6],[6,13]),([12,14,6],[6,12,14]),([6,15,3],[3,6,15]),([3,16],[3,16])])
def item_Right.B4 : List Nat:=[0,1,3,7,15,31,63,127,127,383,1023,2047,4095,127,8319,32767,65535,131071]
theorem item_Right.tab4 : rtab .any (opsOf Tryz.f51 4) = item_Right.T4:=by kernel_rfl
theorem item_Right.bits4 : waitsOk item_Right.T4.2 item_Right.B4 = true:=by kernel_rfl
set_option maxHeartbeats 8000000 in
set_option maxRecDepth 100000 in
theorem item_Right.calls (k : Nat) (A0 : Option Addr) (c0 : Nat) (l0 : List (S62)) (r : Bool) (w : World) (hr0 : Kd.C k62 w A0 l0.length l0) (hc0 : l0.length ≤ c0) (h : item_Right.f k l0 = some r) :
 Calls Tryz.prog 51 #[.slice A0 l0.length c0] w fun e w'=>e = .returned (.bool r) ∧ Below w.heap.size w w':=by
 have hu62:=Tryz.underlying62
 have HR0:=Aside0.mk hr0
 have HC0:=Aside0.mk hc0
 clear hr0 hc0
 have HB:=Aside0.mk (Below.refl w.heap.size w)
 have H : (item_Right.l0 k l0 l0 (l0.length : Int) 0) = some r:=h
 clear h
 have H':=Aside0.mk H
 clear H
 go_enter Tryz.func51,Tryz.ntmps51
 go_wp2
 go_loopg [7] k (fun kq v7 w'=>∃ (x7_1 : Int),v7 = .int .i64 x7_1 ∧ Aside0 (item_Right.l0 kq l0 l0 (l0.length : Int) x7_1 = some r) ∧ Aside0 (kq ≤ k) ∧ Aside0 (Below w.heap.size w w'))
 case atStart=>exact ⟨(0),(by first | rfl),H',⟨Nat.le_refl _⟩,⟨by repeat ((with_reducible first | exact HB.out))⟩⟩
 case round =>
  clear H'
  obtain ⟨x7_1,rfl,HA,HK1,HB⟩:=hrel
  cases gk with
  | zero=>exact absurd HA.out (by simp [item_Right.l0])
  | succ k1 =>
   have H:=HA.out
   clear HA
   simp only [item_Right.l0] at H
   by_cases c2 : x7_1 < (l0.length : Int)
   ·rw [if_pos c2] at H
    have c2b0 : decide (x7_1 < (l0.length : Int)) = true:=decide_eq_true c2
    clear c2
    by_cases c3 : 0 ≤ x7_1
    ·rw [if_pos c3] at H
     have c3b0 : decide (0 ≤ x7_1) = true:=decide_eq_true c3
     clear c3
     by_cases c4 : x7_1 < (l0.length : Int)
     ·rw [if_pos c4] at H
      have c4b0 : decide (x7_1 < (l0.length : Int)) = true:=decide_eq_true c4
      clear c4
      replace H:=Option.bind_eq_some_iff.mp H
      obtain ⟨t116,A50,H⟩:=H
      have A5:=Aside0.mk A50
      clear A50
      by_cases c6 : t116 = true
      ·subst c6
       rw [if_pos rfl] at H
       by_cases c7 : x7_1 > 0
       ·rw [if_pos c7] at H
        have c7b0 : decide (0 < x7_1) = true:=decide_eq_true c7
        clear c7
        obtain ⟨ji8,hji8⟩ : ∃ j_ : Int,(wrap64 (x7_1 - 1)) = j_:=⟨_,rfl⟩
        replace H : (if 0 ≤ (ji8) then (if (ji8) < (l0.length : Int) then (if ((rd_T62 l0 (ji8)).f0) ≥ ((rd_T62 l0 x7_1).f0) then (some false) else (item_Right.l0 k1 l0 l0 (l0.length : Int) (wrap64 (x7_1 + 1)))) else (none)) else (none)) = some r:=by (rw [hji8] at H;exact H)
        have hji8w : (IntKind.i64.wrap (x7_1 - 1)) = ji8:=(i64_w _).trans hji8
        by_cases c9 : 0 ≤ (ji8)
        ·rw [if_pos c9] at H
         have c9b0 : decide (0 ≤ (ji8)) = true:=decide_eq_true c9
         clear c9
         by_cases c10 : (ji8) < (l0.length : Int)
         ·rw [if_pos c10] at H
          have c10b0 : decide ((ji8) < (l0.length : Int)) = true:=decide_eq_true c10
          clear c10
          by_cases c11 : ((rd_T62 l0 (ji8)).f0) ≥ ((rd_T62 l0 x7_1).f0)
          ·rw [if_pos c11] at H
           have c11b0 : decide (((rd_T62 l0 x7_1).f0) ≤ ((rd_T62 l0 (ji8)).f0)) = true:=decide_eq_true c11
           clear c11
           obtain rfl:=Option.some.inj H
           have p114 : 0 ≤ (x7_1 : Int):=of_decide_eq_true (by (with_reducible assumption))
           have q114 : x7_1 < (l0.length : Int):=of_decide_eq_true (by (with_reducible assumption))
           obtain ⟨ad114,e114,hx114_0,hx114_1,hx114_2,hx114_3,hx114_4,hx114_5,hx114_6⟩:=at_T62 HR0.out x7_1 p114 q114
           cases e114
           replace hx114_0:=(HB.out.cell (World.block_lt_of_cell? w _ hx114_0)).trans hx114_0
           replace hx114_1:=(HB.out.cell (World.block_lt_of_cell? w _ hx114_1)).trans hx114_1
           replace hx114_2:=(HB.out.cell (World.block_lt_of_cell? w _ hx114_2)).trans hx114_2
           replace hx114_3:=(HB.out.cell (World.block_lt_of_cell? w _ hx114_3)).trans hx114_3
           replace hx114_4:=(HB.out.cell (World.block_lt_of_cell? w _ hx114_4)).trans hx114_4
           replace hx114_5:=(HB.out.cell (World.block_lt_of_cell? w _ hx114_5)).trans hx114_5
           replace hx114_6:=(HB.out.cell (World.block_lt_of_cell? w _ hx114_6)).trans hx114_6
           replace p114:=eq_true p114
           replace q114:=eq_true q114
           try go_wp2_with (((with_reducible refine gate_dst (N:=4) rfl ?_);refine box_event ?hg (N:=4) ?hd (cs:=#[.int .u8 0,.int .u8 0,.int .u32 0,.int .u32 0,.int .i64 0,.int .u8 0,.int .u32 0]) (t:=62) ?hr ?_;(case hd=>rfl);(case hg=>rfl);(case hr=>(go_simp;done));intro gb115 hg w12 hbox hb;have n0_:=Aside0.mk (below_step (by repeat ((with_reducible first | exact HB.out))) hb);have n1_:=Aside0.mk (hbox);have n2_:=Aside0.mk ((by rw [hg];exact (below_size (by repeat ((with_reducible first | exact HB.out)))) : w.heap.size ≤ gb115));have n3_:=Aside0.mk ((by rw [hg];exact (below_size (by repeat ((with_reducible first | exact HB.out)))) : w.heap.size ≤ gb115));clear HB;have HB:=n0_;have BK115:=n1_;have GW115:=n2_;have GE115:=n3_;clear n0_ n1_ n2_ n3_ hb hbox hg;obtain ⟨hcz13_0,hcz13_1,hcz13_2,hcz13_3,hcz13_4,hcz13_5,hcz13_6⟩:=cells7 BK115.out;obtain ⟨hfz13_0,hfz13_1,hfz13_2,hfz13_3,hfz13_4,hfz13_5,hfz13_6,_,_,_,_,_,_⟩:=frz13 BK115.out))
           generalize hW : World.setCell (World.setCell (World.setCell (World.setCell (World.setCell (World.setCell (World.setCell w12 _ _) _ _) _ _) _ _) _ _) _ _) _ _ = w14
           replace BK115:=Aside0.mk (putg7 hW BK115.out)
           replace HB:=Aside0.mk (belg7 hW HB.out GE115.out)
           clear hW
           replace BK115:=Aside0.mk (blk_drew BK115.out)
           replace HB:=Aside0.mk (below_drew1 HB.out)
           have p117 : 0 ≤ ((ji8) : Int):=of_decide_eq_true (by (with_reducible assumption))
           have q117 : (ji8) < (l0.length : Int):=of_decide_eq_true (by (with_reducible assumption))
           obtain ⟨ad117,e117,hx117_0,hx117_1,hx117_2,hx117_3,hx117_4,hx117_5,hx117_6⟩:=at_T62 HR0.out (ji8) p117 q117
           have hw117_6:=hx117_6
           have hw117_5:=hx117_5
           have hw117_4:=hx117_4
           have hw117_3:=hx117_3
           have hw117_2:=hx117_2
           have hw117_1:=hx117_1
           have hw117_0:=hx117_0
           obtain rfl : ad114 = ad117:=(by injection e117)
           replace hx117_0:=(HB.out.cell (World.block_lt_of_cell? w _ hx117_0)).trans hx117_0
           replace hx117_1:=(HB.out.cell (World.block_lt_of_cell? w _ hx117_1)).trans hx117_1
           replace hx117_2:=(HB.out.cell (World.block_lt_of_cell? w _ hx117_2)).trans hx117_2
           replace hx117_3:=(HB.out.cell (World.block_lt_of_cell? w _ hx117_3)).trans hx117_3
           replace hx117_4:=(HB.out.cell (World.block_lt_of_cell? w _ hx117_4)).trans hx117_4
           replace hx117_5:=(HB.out.cell (World.block_lt_of_cell? w _ hx117_5)).trans hx117_5
           replace hx117_6:=(HB.out.cell (World.block_lt_of_cell? w _ hx117_6)).trans hx117_6
           replace p117:=eq_true p117
           replace q117:=eq_true q117
           refine start_ (n:=18) (S:=fun w'=>w'.cell? ⟨gb115,0,none⟩ = some (.int .u8 ((rd_T62 l0 x7_1).f0)) ∧ w'.cell? ⟨gb115,1,none⟩ = some (.int .u8 ((rd_T62 l0 x7_1).f1.f0)) ∧ w'.cell? ⟨gb115,2,none⟩ = some (.int .u32 ((rd_T62 l0 x7_1).f1.f1)) ∧ w'.cell? ⟨gb115,3,none⟩ = some (.int .u32 ((rd_T62 l0 x7_1).f1.f2)) ∧ w'.cell? ⟨gb115,4,none⟩ = some (.int .i64 ((rd_T62 l0 x7_1).f2)) ∧ w'.cell? ⟨gb115,5,none⟩ = some (.int .u8 ((rd_T62 l0 x7_1).f3)) ∧ w'.cell? ⟨gb115,6,none⟩ = some (.int .u32 ((rd_T62 l0 x7_1).f4)) ∧ w'.cell? (ad114.add (((ji8)).toNat * 7)) = some (.int .u8 ((rd_T62 l0 (ji8)).f0)) ∧ w'.cell? ⟨(ad114.add (((ji8)).toNat * 7)).block,(ad114.add (((ji8)).toNat * 7)).off + 1,none⟩ = some (.int .u8 ((rd_T62 l0 (ji8)).f1.f0)) ∧ w'.cell? ⟨(ad114.add (((ji8)).toNat * 7)).block,(ad114.add (((ji8)).toNat * 7)).off + 2,none⟩ = some (.int .u32 ((rd_T62 l0 (ji8)).f1.f1)) ∧ w'.cell? ⟨(ad114.add (((ji8)).toNat * 7)).block,(ad114.add (((ji8)).toNat * 7)).off + 3,none⟩ = some (.int .u32 ((rd_T62 l0 (ji8)).f1.f2)) ∧ w'.cell? ⟨(ad114.add (((ji8)).toNat * 7)).block,(ad114.add (((ji8)).toNat * 7)).off + 4,none⟩ = some (.int .i64 ((rd_T62 l0 (ji8)).f2)) ∧ w'.cell? ⟨(ad114.add (((ji8)).toNat * 7)).block,(ad114.add (((ji8)).toNat * 7)).off + 5,none⟩ = some (.int .u8 ((rd_T62 l0 (ji8)).f3)) ∧ w'.cell? ⟨(ad114.add (((ji8)).toNat * 7)).block,(ad114.add (((ji8)).toNat * 7)).off + 6,none⟩ = some (.int .u32 ((rd_T62 l0 (ji8)).f4))) (ds:=[]) #[false,false,false,false,false,false,false,false,false,false,false,false,false,false,false,false,false,false] (by kernel_rfl) rfl rfl ⟨(blk_cell BK115.out 0).trans rfl,(blk_cell BK115.out 1).trans rfl,(blk_cell BK115.out 2).trans rfl,(blk_cell BK115.out 3).trans rfl,(blk_cell BK115.out 4).trans rfl,(blk_cell BK115.out 5).trans rfl,(blk_cell BK115.out 6).trans rfl,((HB.out.cell (World.block_lt_of_cell? w _ hw117_0)).trans hw117_0),((HB.out.cell (World.block_lt_of_cell? w _ hw117_1)).trans hw117_1),((HB.out.cell (World.block_lt_of_cell? w _ hw117_2)).trans hw117_2),((HB.out.cell (World.block_lt_of_cell? w _ hw117_3)).trans hw117_3),((HB.out.cell (World.block_lt_of_cell? w _ hw117_4)).trans hw117_4),((HB.out.cell (World.block_lt_of_cell? w _ hw117_5)).trans hw117_5),((HB.out.cell (World.block_lt_of_cell? w _ hw117_6)).trans hw117_6)⟩ (fun hHeld=>?_);refine with_tabW item_Right.tab4 item_Right.bits4 (fun HT_ HW_=>?_)
           generalize w14.drew = w15 at BK115 HB hx117_0 hx117_1 hx117_2 hx117_3 hx117_4 hx117_5 hx117_6 hHeld ⊢
           refine ta 0 (some 12) HT_ HW_ hHeld rfl rfl (by rintro w' ⟨s0,s1,s2,s3,s4,s5,s6,s7,s8,s9,s10,s11,s12,s13⟩;go_simp;with_reducible rfl) ?_
           refine one_ (i:=1) (N:=some 13) #[true,true,false,false,false,false,false,false,false,false,false,false,false,false,false,false,false,false] rfl rfl (one_of HT_.out (by kernel_rfl)) (by decide) (fun K hK=>?_)
           refine goes_ Tryz.func86 (by kernel_rfl) rfl #[.agg #[.int .u8 ((rd_T62 l0 x7_1).f0),.int .u8 ((rd_T62 l0 x7_1).f1.f0),.int .u32 ((rd_T62 l0 x7_1).f1.f1),.int .u32 ((rd_T62 l0 x7_1).f1.f2),.int .i64 ((rd_T62 l0 x7_1).f2),.int .u8 ((rd_T62 l0 x7_1).f3),.int .u32 ((rd_T62 l0 x7_1).f4)]] (by rfl) rfl rfl (by (try simp only [List.map_toArray,List.map_cons,List.map_nil]);first | rfl) ?_
           with_reducible refine (item_entry.calls ((rd_T62 l0 x7_1).f0) ((rd_T62 l0 x7_1).f1.f0) ((rd_T62 l0 x7_1).f1.f1) ((rd_T62 l0 x7_1).f1.f2) ((rd_T62 l0 x7_1).f2) ((rd_T62 l0 x7_1).f3) ((rd_T62 l0 x7_1).f4) true _ A5.out).mono ?_
           rintro e w16 ⟨rfl,hb⟩
           refine ⟨_,rfl,?_⟩
           replace BK115:=Aside0.mk (blk_below BK115.out hb)
           replace HB:=Aside0.mk (below_step (by repeat ((with_reducible first | exact HB.out))) hb)
           (try clear hb)
           refine hK.out _ _ ⟨(blk_cell BK115.out 0).trans rfl,(blk_cell BK115.out 1).trans rfl,(blk_cell BK115.out 2).trans rfl,(blk_cell BK115.out 3).trans rfl,(blk_cell BK115.out 4).trans rfl,(blk_cell BK115.out 5).trans rfl,(blk_cell BK115.out 6).trans rfl,((HB.out.cell (World.block_lt_of_cell? w _ hw117_0)).trans hw117_0),((HB.out.cell (World.block_lt_of_cell? w _ hw117_1)).trans hw117_1),((HB.out.cell (World.block_lt_of_cell? w _ hw117_2)).trans hw117_2),((HB.out.cell (World.block_lt_of_cell? w _ hw117_3)).trans hw117_3),((HB.out.cell (World.block_lt_of_cell? w _ hw117_4)).trans hw117_4),((HB.out.cell (World.block_lt_of_cell? w _ hw117_5)).trans hw117_5),((HB.out.cell (World.block_lt_of_cell? w _ hw117_6)).trans hw117_6)⟩ (fun hHeld=>?_)
           clear hK K
           refine no_ (some 13) ?_
           refine pu 2 (some 14) HT_ rfl rfl ?_
           refine pu 3 (some 15) HT_ rfl rfl ?_
           refine pu 4 (some 16) HT_ rfl rfl ?_
           refine pu 5 (some 17) HT_ rfl rfl ?_
           refine pu 6 (some 18) HT_ rfl rfl ?_
           refine pu 7 (some 19) HT_ rfl rfl ?_
           refine pu 8 (some 20) HT_ rfl rfl ?_
           refine pu 9 (some 21) HT_ rfl rfl ?_
           refine pu 10 (some 22) HT_ rfl rfl ?_
           refine pu 11 (some 23) HT_ rfl rfl ?_
           refine pu 13 (some 25) HT_ rfl rfl ?_
           refine ta 12 (some 24) HT_ HW_ hHeld rfl rfl (by rintro w' ⟨s0,s1,s2,s3,s4,s5,s6,s7,s8,s9,s10,s11,s12,s13⟩;go_simp;with_reducible rfl) ?_
           refine ta 14 (some 26) HT_ HW_ hHeld rfl rfl (by rintro w' ⟨s0,s1,s2,s3,s4,s5,s6,s7,s8,s9,s10,s11,s12,s13⟩;go_simp;with_reducible rfl) ?_
           refine pu 15 (some 27) HT_ rfl rfl ?_
           refine pu 16 (some 28) HT_ rfl rfl ?_
           refine pu 17 (some 29) HT_ rfl rfl ?_
           refine done_ (done_of HT_.out (by kernel_rfl)) ?_
           try go_wp2
           go_ret
           exact ⟨by first | rfl,by repeat ((with_reducible first | exact HB.out))⟩
          ·rw [if_neg c11] at H
           have c11b0 : decide (((rd_T62 l0 x7_1).f0) ≤ ((rd_T62 l0 (ji8)).f0)) = false:=decide_eq_false c11
           clear c11
           have H':=Aside0.mk H
           clear H
           have p114 : 0 ≤ (x7_1 : Int):=of_decide_eq_true (by (with_reducible assumption))
           have q114 : x7_1 < (l0.length : Int):=of_decide_eq_true (by (with_reducible assumption))
           obtain ⟨ad114,e114,hx114_0,hx114_1,hx114_2,hx114_3,hx114_4,hx114_5,hx114_6⟩:=at_T62 HR0.out x7_1 p114 q114
           cases e114
           replace hx114_0:=(HB.out.cell (World.block_lt_of_cell? w _ hx114_0)).trans hx114_0
           replace hx114_1:=(HB.out.cell (World.block_lt_of_cell? w _ hx114_1)).trans hx114_1
           replace hx114_2:=(HB.out.cell (World.block_lt_of_cell? w _ hx114_2)).trans hx114_2
           replace hx114_3:=(HB.out.cell (World.block_lt_of_cell? w _ hx114_3)).trans hx114_3
           replace hx114_4:=(HB.out.cell (World.block_lt_of_cell? w _ hx114_4)).trans hx114_4
           replace hx114_5:=(HB.out.cell (World.block_lt_of_cell? w _ hx114_5)).trans hx114_5
           replace hx114_6:=(HB.out.cell (World.block_lt_of_cell? w _ hx114_6)).trans hx114_6
           replace p114:=eq_true p114
           replace q114:=eq_true q114
           try go_wp2_with (((with_reducible refine gate_dst (N:=4) rfl ?_);refine box_event ?hg (N:=4) ?hd (cs:=#[.int .u8 0,.int .u8 0,.int .u32 0,.int .u32 0,.int .i64 0,.int .u8 0,.int .u32 0]) (t:=62) ?hr ?_;(case hd=>rfl);(case hg=>rfl);(case hr=>(go_simp;done));intro gb115 hg w17 hbox hb;have n0_:=Aside0.mk (below_step (by repeat ((with_reducible first | exact HB.out))) hb);have n1_:=Aside0.mk (hbox);have n2_:=Aside0.mk ((by rw [hg];exact (below_size (by repeat ((with_reducible first | exact HB.out)))) : w.heap.size ≤ gb115));have n3_:=Aside0.mk ((by rw [hg];exact (below_size (by repeat ((with_reducible first | exact HB.out)))) : w.heap.size ≤ gb115));clear HB;have HB:=n0_;have BK115:=n1_;have GW115:=n2_;have GE115:=n3_;clear n0_ n1_ n2_ n3_ hb hbox hg;obtain ⟨hcz18_0,hcz18_1,hcz18_2,hcz18_3,hcz18_4,hcz18_5,hcz18_6⟩:=cells7 BK115.out;obtain ⟨hfz18_0,hfz18_1,hfz18_2,hfz18_3,hfz18_4,hfz18_5,hfz18_6,_,_,_,_,_,_⟩:=frz13 BK115.out))
           generalize hW : World.setCell (World.setCell (World.setCell (World.setCell (World.setCell (World.setCell (World.setCell w17 _ _) _ _) _ _) _ _) _ _) _ _) _ _ = w19
           replace BK115:=Aside0.mk (putg7 hW BK115.out)
           replace HB:=Aside0.mk (belg7 hW HB.out GE115.out)
           clear hW
           replace BK115:=Aside0.mk (blk_drew BK115.out)
           replace HB:=Aside0.mk (below_drew1 HB.out)
           have p117 : 0 ≤ ((ji8) : Int):=of_decide_eq_true (by (with_reducible assumption))
           have q117 : (ji8) < (l0.length : Int):=of_decide_eq_true (by (with_reducible assumption))
           obtain ⟨ad117,e117,hx117_0,hx117_1,hx117_2,hx117_3,hx117_4,hx117_5,hx117_6⟩:=at_T62 HR0.out (ji8) p117 q117
           have hw117_6:=hx117_6
           have hw117_5:=hx117_5
           have hw117_4:=hx117_4
           have hw117_3:=hx117_3
           have hw117_2:=hx117_2
           have hw117_1:=hx117_1
           have hw117_0:=hx117_0
           obtain rfl : ad114 = ad117:=(by injection e117)
           replace hx117_0:=(HB.out.cell (World.block_lt_of_cell? w _ hx117_0)).trans hx117_0
           replace hx117_1:=(HB.out.cell (World.block_lt_of_cell? w _ hx117_1)).trans hx117_1
           replace hx117_2:=(HB.out.cell (World.block_lt_of_cell? w _ hx117_2)).trans hx117_2
           replace hx117_3:=(HB.out.cell (World.block_lt_of_cell? w _ hx117_3)).trans hx117_3
           replace hx117_4:=(HB.out.cell (World.block_lt_of_cell? w _ hx117_4)).trans hx117_4
           replace hx117_5:=(HB.out.cell (World.block_lt_of_cell? w _ hx117_5)).trans hx117_5
           replace hx117_6:=(HB.out.cell (World.block_lt_of_cell? w _ hx117_6)).trans hx117_6
           replace p117:=eq_true p117
           replace q117:=eq_true q117
           refine start_ (n:=18) (S:=fun w'=>w'.cell? ⟨gb115,0,none⟩ = some (.int .u8 ((rd_T62 l0 x7_1).f0)) ∧ w'.cell? ⟨gb115,1,none⟩ = some (.int .u8 ((rd_T62 l0 x7_1).f1.f0)) ∧ w'.cell? ⟨gb115,2,none⟩ = some (.int .u32 ((rd_T62 l0 x7_1).f1.f1)) ∧ w'.cell? ⟨gb115,3,none⟩ = some (.int .u32 ((rd_T62 l0 x7_1).f1.f2)) ∧ w'.cell? ⟨gb115,4,none⟩ = some (.int .i64 ((rd_T62 l0 x7_1).f2)) ∧ w'.cell? ⟨gb115,5,none⟩ = some (.int .u8 ((rd_T62 l0 x7_1).f3)) ∧ w'.cell? ⟨gb115,6,none⟩ = some (.int .u32 ((rd_T62 l0 x7_1).f4)) ∧ w'.cell? (ad114.add (((ji8)).toNat * 7)) = some (.int .u8 ((rd_T62 l0 (ji8)).f0)) ∧ w'.cell? ⟨(ad114.add (((ji8)).toNat * 7)).block,(ad114.add (((ji8)).toNat * 7)).off + 1,none⟩ = some (.int .u8 ((rd_T62 l0 (ji8)).f1.f0)) ∧ w'.cell? ⟨(ad114.add (((ji8)).toNat * 7)).block,(ad114.add (((ji8)).toNat * 7)).off + 2,none⟩ = some (.int .u32 ((rd_T62 l0 (ji8)).f1.f1)) ∧ w'.cell? ⟨(ad114.add (((ji8)).toNat * 7)).block,(ad114.add (((ji8)).toNat * 7)).off + 3,none⟩ = some (.int .u32 ((rd_T62 l0 (ji8)).f1.f2)) ∧ w'.cell? ⟨(ad114.add (((ji8)).toNat * 7)).block,(ad114.add (((ji8)).toNat * 7)).off + 4,none⟩ = some (.int .i64 ((rd_T62 l0 (ji8)).f2)) ∧ w'.cell? ⟨(ad114.add (((ji8)).toNat * 7)).block,(ad114.add (((ji8)).toNat * 7)).off + 5,none⟩ = some (.int .u8 ((rd_T62 l0 (ji8)).f3)) ∧ w'.cell? ⟨(ad114.add (((ji8)).toNat * 7)).block,(ad114.add (((ji8)).toNat * 7)).off + 6,none⟩ = some (.int .u32 ((rd_T62 l0 (ji8)).f4))) (ds:=[]) #[false,false,false,false,false,false,false,false,false,false,false,false,false,false,false,false,false,false] (by kernel_rfl) rfl rfl ⟨(blk_cell BK115.out 0).trans rfl,(blk_cell BK115.out 1).trans rfl,(blk_cell BK115.out 2).trans rfl,(blk_cell BK115.out 3).trans rfl,(blk_cell BK115.out 4).trans rfl,(blk_cell BK115.out 5).trans rfl,(blk_cell BK115.out 6).trans rfl,((HB.out.cell (World.block_lt_of_cell? w _ hw117_0)).trans hw117_0),((HB.out.cell (World.block_lt_of_cell? w _ hw117_1)).trans hw117_1),((HB.out.cell (World.block_lt_of_cell? w _ hw117_2)).trans hw117_2),((HB.out.cell (World.block_lt_of_cell? w _ hw117_3)).trans hw117_3),((HB.out.cell (World.block_lt_of_cell? w _ hw117_4)).trans hw117_4),((HB.out.cell (World.block_lt_of_cell? w _ hw117_5)).trans hw117_5),((HB.out.cell (World.block_lt_of_cell? w _ hw117_6)).trans hw117_6)⟩ (fun hHeld=>?_);refine with_tabW item_Right.tab4 item_Right.bits4 (fun HT_ HW_=>?_)
           generalize w19.drew = w20 at BK115 HB hx117_0 hx117_1 hx117_2 hx117_3 hx117_4 hx117_5 hx117_6 hHeld ⊢
           refine ta 0 (some 12) HT_ HW_ hHeld rfl rfl (by rintro w' ⟨s0,s1,s2,s3,s4,s5,s6,s7,s8,s9,s10,s11,s12,s13⟩;go_simp;with_reducible rfl) ?_
           refine one_ (i:=1) (N:=some 13) #[true,true,false,false,false,false,false,false,false,false,false,false,false,false,false,false,false,false] rfl rfl (one_of HT_.out (by kernel_rfl)) (by decide) (fun K hK=>?_)
           refine goes_ Tryz.func86 (by kernel_rfl) rfl #[.agg #[.int .u8 ((rd_T62 l0 x7_1).f0),.int .u8 ((rd_T62 l0 x7_1).f1.f0),.int .u32 ((rd_T62 l0 x7_1).f1.f1),.int .u32 ((rd_T62 l0 x7_1).f1.f2),.int .i64 ((rd_T62 l0 x7_1).f2),.int .u8 ((rd_T62 l0 x7_1).f3),.int .u32 ((rd_T62 l0 x7_1).f4)]] (by rfl) rfl rfl (by (try simp only [List.map_toArray,List.map_cons,List.map_nil]);first | rfl) ?_
           with_reducible refine (item_entry.calls ((rd_T62 l0 x7_1).f0) ((rd_T62 l0 x7_1).f1.f0) ((rd_T62 l0 x7_1).f1.f1) ((rd_T62 l0 x7_1).f1.f2) ((rd_T62 l0 x7_1).f2) ((rd_T62 l0 x7_1).f3) ((rd_T62 l0 x7_1).f4) true _ A5.out).mono ?_
           rintro e w21 ⟨rfl,hb⟩
           refine ⟨_,rfl,?_⟩
           replace BK115:=Aside0.mk (blk_below BK115.out hb)
           replace HB:=Aside0.mk (below_step (by repeat ((with_reducible first | exact HB.out))) hb)
           (try clear hb)
           refine hK.out _ _ ⟨(blk_cell BK115.out 0).trans rfl,(blk_cell BK115.out 1).trans rfl,(blk_cell BK115.out 2).trans rfl,(blk_cell BK115.out 3).trans rfl,(blk_cell BK115.out 4).trans rfl,(blk_cell BK115.out 5).trans rfl,(blk_cell BK115.out 6).trans rfl,((HB.out.cell (World.block_lt_of_cell? w _ hw117_0)).trans hw117_0),((HB.out.cell (World.block_lt_of_cell? w _ hw117_1)).trans hw117_1),((HB.out.cell (World.block_lt_of_cell? w _ hw117_2)).trans hw117_2),((HB.out.cell (World.block_lt_of_cell? w _ hw117_3)).trans hw117_3),((HB.out.cell (World.block_lt_of_cell? w _ hw117_4)).trans hw117_4),((HB.out.cell (World.block_lt_of_cell? w _ hw117_5)).trans hw117_5),((HB.out.cell (World.block_lt_of_cell? w _ hw117_6)).trans hw117_6)⟩ (fun hHeld=>?_)
           clear hK K
           refine no_ (some 13) ?_
           refine pu 2 (some 14) HT_ rfl rfl ?_
           refine pu 3 (some 15) HT_ rfl rfl ?_
           refine pu 4 (some 16) HT_ rfl rfl ?_
           refine pu 5 (some 17) HT_ rfl rfl ?_
           refine pu 6 (some 18) HT_ rfl rfl ?_
           refine pu 7 (some 19) HT_ rfl rfl ?_
           refine pu 8 (some 20) HT_ rfl rfl ?_
           refine pu 9 (some 21) HT_ rfl rfl ?_
           refine pu 10 (some 22) HT_ rfl rfl ?_
           refine pu 11 (some 23) HT_ rfl rfl ?_
           refine pu 13 (some 25) HT_ rfl rfl ?_
           refine ta 12 (some 24) HT_ HW_ hHeld rfl rfl (by rintro w' ⟨s0,s1,s2,s3,s4,s5,s6,s7,s8,s9,s10,s11,s12,s13⟩;go_simp;with_reducible rfl) ?_
           refine ta 14 (some 26) HT_ HW_ hHeld rfl rfl (by rintro w' ⟨s0,s1,s2,s3,s4,s5,s6,s7,s8,s9,s10,s11,s12,s13⟩;go_simp;with_reducible rfl) ?_
           refine pu 15 (some 27) HT_ rfl rfl ?_
           refine pu 16 (some 28) HT_ rfl rfl ?_
           refine pu 17 (some 29) HT_ rfl rfl ?_
           refine done_ (done_of HT_.out (by kernel_rfl)) ?_
           try go_wp2
           go_roundg k1
           case measure=>have:=HK1.out;omega
           case rel=>exact ⟨(wrap64 (x7_1 + 1)),(by first | rfl),H',⟨by have:=HK1.out;omega⟩,⟨by repeat ((with_reducible first | exact HB.out))⟩⟩
         ·rw [if_neg c10] at H
          exact absurd H (by simp)
        ·rw [if_neg c9] at H
         exact absurd H (by simp)
       ·rw [if_neg c7] at H
        have c7b0 : decide (0 < x7_1) = false:=decide_eq_false c7
        clear c7
        have H':=Aside0.mk H
        clear H
        have p114 : 0 ≤ (x7_1 : Int):=of_decide_eq_true (by (with_reducible assumption))
        have q114 : x7_1 < (l0.length : Int):=of_decide_eq_true (by (with_reducible assumption))
        obtain ⟨ad114,e114,hx114_0,hx114_1,hx114_2,hx114_3,hx114_4,hx114_5,hx114_6⟩:=at_T62 HR0.out x7_1 p114 q114
        cases e114
        replace hx114_0:=(HB.out.cell (World.block_lt_of_cell? w _ hx114_0)).trans hx114_0
        replace hx114_1:=(HB.out.cell (World.block_lt_of_cell? w _ hx114_1)).trans hx114_1
        replace hx114_2:=(HB.out.cell (World.block_lt_of_cell? w _ hx114_2)).trans hx114_2
        replace hx114_3:=(HB.out.cell (World.block_lt_of_cell? w _ hx114_3)).trans hx114_3
        replace hx114_4:=(HB.out.cell (World.block_lt_of_cell? w _ hx114_4)).trans hx114_4
        replace hx114_5:=(HB.out.cell (World.block_lt_of_cell? w _ hx114_5)).trans hx114_5
        replace hx114_6:=(HB.out.cell (World.block_lt_of_cell? w _ hx114_6)).trans hx114_6
        replace p114:=eq_true p114
        replace q114:=eq_true q114
        try go_wp2_with (((with_reducible refine gate_dst (N:=4) rfl ?_);refine box_event ?hg (N:=4) ?hd (cs:=#[.int .u8 0,.int .u8 0,.int .u32 0,.int .u32 0,.int .i64 0,.int .u8 0,.int .u32 0]) (t:=62) ?hr ?_;(case hd=>rfl);(case hg=>rfl);(case hr=>(go_simp;done));intro gb115 hg w22 hbox hb;have n0_:=Aside0.mk (below_step (by repeat ((with_reducible first | exact HB.out))) hb);have n1_:=Aside0.mk (hbox);have n2_:=Aside0.mk ((by rw [hg];exact (below_size (by repeat ((with_reducible first | exact HB.out)))) : w.heap.size ≤ gb115));have n3_:=Aside0.mk ((by rw [hg];exact (below_size (by repeat ((with_reducible first | exact HB.out)))) : w.heap.size ≤ gb115));clear HB;have HB:=n0_;have BK115:=n1_;have GW115:=n2_;have GE115:=n3_;clear n0_ n1_ n2_ n3_ hb hbox hg;obtain ⟨hcz23_0,hcz23_1,hcz23_2,hcz23_3,hcz23_4,hcz23_5,hcz23_6⟩:=cells7 BK115.out;obtain ⟨hfz23_0,hfz23_1,hfz23_2,hfz23_3,hfz23_4,hfz23_5,hfz23_6,_,_,_,_,_,_⟩:=frz13 BK115.out))
        generalize hW : World.setCell (World.setCell (World.setCell (World.setCell (World.setCell (World.setCell (World.setCell w22 _ _) _ _) _ _) _ _) _ _) _ _) _ _ = w24
        replace BK115:=Aside0.mk (putg7 hW BK115.out)
        replace HB:=Aside0.mk (belg7 hW HB.out GE115.out)
        clear hW
        replace BK115:=Aside0.mk (blk_drew BK115.out)
        replace HB:=Aside0.mk (below_drew1 HB.out)
        refine start_ (n:=18) (S:=fun w'=>w'.cell? ⟨gb115,0,none⟩ = some (.int .u8 ((rd_T62 l0 x7_1).f0)) ∧ w'.cell? ⟨gb115,1,none⟩ = some (.int .u8 ((rd_T62 l0 x7_1).f1.f0)) ∧ w'.cell? ⟨gb115,2,none⟩ = some (.int .u32 ((rd_T62 l0 x7_1).f1.f1)) ∧ w'.cell? ⟨gb115,3,none⟩ = some (.int .u32 ((rd_T62 l0 x7_1).f1.f2)) ∧ w'.cell? ⟨gb115,4,none⟩ = some (.int .i64 ((rd_T62 l0 x7_1).f2)) ∧ w'.cell? ⟨gb115,5,none⟩ = some (.int .u8 ((rd_T62 l0 x7_1).f3)) ∧ w'.cell? ⟨gb115,6,none⟩ = some (.int .u32 ((rd_T62 l0 x7_1).f4))) (ds:=[]) #[false,false,false,false,false,false,false,false,false,false,false,false,false,false,false,false,false,false] (by kernel_rfl) rfl rfl ⟨(blk_cell BK115.out 0).trans rfl,(blk_cell BK115.out 1).trans rfl,(blk_cell BK115.out 2).trans rfl,(blk_cell BK115.out 3).trans rfl,(blk_cell BK115.out 4).trans rfl,(blk_cell BK115.out 5).trans rfl,(blk_cell BK115.out 6).trans rfl⟩ (fun hHeld=>?_);refine with_tabW item_Right.tab4 item_Right.bits4 (fun HT_ HW_=>?_)
        generalize w24.drew = w25 at BK115 HB hHeld ⊢
        refine ta 0 (some 12) HT_ HW_ hHeld rfl rfl (by rintro w' ⟨s0,s1,s2,s3,s4,s5,s6⟩;go_simp;with_reducible rfl) ?_
        refine one_ (i:=1) (N:=some 13) #[true,true,false,false,false,false,false,false,false,false,false,false,false,false,false,false,false,false] rfl rfl (one_of HT_.out (by kernel_rfl)) (by decide) (fun K hK=>?_)
        refine goes_ Tryz.func86 (by kernel_rfl) rfl #[.agg #[.int .u8 ((rd_T62 l0 x7_1).f0),.int .u8 ((rd_T62 l0 x7_1).f1.f0),.int .u32 ((rd_T62 l0 x7_1).f1.f1),.int .u32 ((rd_T62 l0 x7_1).f1.f2),.int .i64 ((rd_T62 l0 x7_1).f2),.int .u8 ((rd_T62 l0 x7_1).f3),.int .u32 ((rd_T62 l0 x7_1).f4)]] (by rfl) rfl rfl (by (try simp only [List.map_toArray,List.map_cons,List.map_nil]);first | rfl) ?_
        with_reducible refine (item_entry.calls ((rd_T62 l0 x7_1).f0) ((rd_T62 l0 x7_1).f1.f0) ((rd_T62 l0 x7_1).f1.f1) ((rd_T62 l0 x7_1).f1.f2) ((rd_T62 l0 x7_1).f2) ((rd_T62 l0 x7_1).f3) ((rd_T62 l0 x7_1).f4) true _ A5.out).mono ?_
        rintro e w26 ⟨rfl,hb⟩
        refine ⟨_,rfl,?_⟩
        replace BK115:=Aside0.mk (blk_below BK115.out hb)
        replace HB:=Aside0.mk (below_step (by repeat ((with_reducible first | exact HB.out))) hb)
        (try clear hb)
        refine hK.out _ _ ⟨(blk_cell BK115.out 0).trans rfl,(blk_cell BK115.out 1).trans rfl,(blk_cell BK115.out 2).trans rfl,(blk_cell BK115.out 3).trans rfl,(blk_cell BK115.out 4).trans rfl,(blk_cell BK115.out 5).trans rfl,(blk_cell BK115.out 6).trans rfl⟩ (fun hHeld=>?_)
        clear hK K
        refine no_ (some 13) ?_
        refine pu 2 (some 14) HT_ rfl rfl ?_
        refine pu 3 (some 15) HT_ rfl rfl ?_
        refine pu 4 (some 16) HT_ rfl rfl ?_
        refine pu 5 (some 17) HT_ rfl rfl ?_
        refine pu 6 (some 18) HT_ rfl rfl ?_
        refine sk 7 (some 19) HT_ rfl rfl ?_
        refine sk 8 (some 20) HT_ rfl rfl ?_
        refine sk 9 (some 21) HT_ rfl rfl ?_
        refine sk 10 (some 22) HT_ rfl rfl ?_
        refine sk 11 (some 23) HT_ rfl rfl ?_
        refine sk 12 (some 24) HT_ rfl rfl ?_
        refine sk 13 (some 25) HT_ rfl rfl ?_
        refine sk 14 (some 26) HT_ rfl rfl ?_
        refine sk 15 (some 27) HT_ rfl rfl ?_
        refine pu 16 (some 28) HT_ rfl rfl ?_
        refine pu 17 (some 29) HT_ rfl rfl ?_
        refine done_ (done_of HT_.out (by kernel_rfl)) ?_
        try go_wp2
        go_roundg k1
        case measure=>have:=HK1.out;omega
        case rel=>exact ⟨(wrap64 (x7_1 + 1)),(by first | rfl),H',⟨by have:=HK1.out;omega⟩,⟨by repeat ((with_reducible first | exact HB.out))⟩⟩
      ·replace c6:=Bool.eq_false_iff.mpr c6
       subst c6
       rw [if_neg (show ¬ (false = true) by decide)] at H
       obtain rfl:=Option.some.inj H
       have p114 : 0 ≤ (x7_1 : Int):=of_decide_eq_true (by (with_reducible assumption))
       have q114 : x7_1 < (l0.length : Int):=of_decide_eq_true (by (with_reducible assumption))
       obtain ⟨ad114,e114,hx114_0,hx114_1,hx114_2,hx114_3,hx114_4,hx114_5,hx114_6⟩:=at_T62 HR0.out x7_1 p114 q114
       cases e114
       replace hx114_0:=(HB.out.cell (World.block_lt_of_cell? w _ hx114_0)).trans hx114_0
       replace hx114_1:=(HB.out.cell (World.block_lt_of_cell? w _ hx114_1)).trans hx114_1
       replace hx114_2:=(HB.out.cell (World.block_lt_of_cell? w _ hx114_2)).trans hx114_2
       replace hx114_3:=(HB.out.cell (World.block_lt_of_cell? w _ hx114_3)).trans hx114_3
       replace hx114_4:=(HB.out.cell (World.block_lt_of_cell? w _ hx114_4)).trans hx114_4
       replace hx114_5:=(HB.out.cell (World.block_lt_of_cell? w _ hx114_5)).trans hx114_5
       replace hx114_6:=(HB.out.cell (World.block_lt_of_cell? w _ hx114_6)).trans hx114_6
       replace p114:=eq_true p114
       replace q114:=eq_true q114
       try go_wp2_with (((with_reducible refine gate_dst (N:=4) rfl ?_);refine box_event ?hg (N:=4) ?hd (cs:=#[.int .u8 0,.int .u8 0,.int .u32 0,.int .u32 0,.int .i64 0,.int .u8 0,.int .u32 0]) (t:=62) ?hr ?_;(case hd=>rfl);(case hg=>rfl);(case hr=>(go_simp;done));intro gb115 hg w27 hbox hb;have n0_:=Aside0.mk (below_step (by repeat ((with_reducible first | exact HB.out))) hb);have n1_:=Aside0.mk (hbox);have n2_:=Aside0.mk ((by rw [hg];exact (below_size (by repeat ((with_reducible first | exact HB.out)))) : w.heap.size ≤ gb115));have n3_:=Aside0.mk ((by rw [hg];exact (below_size (by repeat ((with_reducible first | exact HB.out)))) : w.heap.size ≤ gb115));clear HB;have HB:=n0_;have BK115:=n1_;have GW115:=n2_;have GE115:=n3_;clear n0_ n1_ n2_ n3_ hb hbox hg;obtain ⟨hcz28_0,hcz28_1,hcz28_2,hcz28_3,hcz28_4,hcz28_5,hcz28_6⟩:=cells7 BK115.out;obtain ⟨hfz28_0,hfz28_1,hfz28_2,hfz28_3,hfz28_4,hfz28_5,hfz28_6,_,_,_,_,_,_⟩:=frz13 BK115.out))
       generalize hW : World.setCell (World.setCell (World.setCell (World.setCell (World.setCell (World.setCell (World.setCell w27 _ _) _ _) _ _) _ _) _ _) _ _) _ _ = w29
       replace BK115:=Aside0.mk (putg7 hW BK115.out)
       replace HB:=Aside0.mk (belg7 hW HB.out GE115.out)
       clear hW
       replace BK115:=Aside0.mk (blk_drew BK115.out)
       replace HB:=Aside0.mk (below_drew1 HB.out)
       refine start_ (n:=18) (S:=fun w'=>w'.cell? ⟨gb115,0,none⟩ = some (.int .u8 ((rd_T62 l0 x7_1).f0)) ∧ w'.cell? ⟨gb115,1,none⟩ = some (.int .u8 ((rd_T62 l0 x7_1).f1.f0)) ∧ w'.cell? ⟨gb115,2,none⟩ = some (.int .u32 ((rd_T62 l0 x7_1).f1.f1)) ∧ w'.cell? ⟨gb115,3,none⟩ = some (.int .u32 ((rd_T62 l0 x7_1).f1.f2)) ∧ w'.cell? ⟨gb115,4,none⟩ = some (.int .i64 ((rd_T62 l0 x7_1).f2)) ∧ w'.cell? ⟨gb115,5,none⟩ = some (.int .u8 ((rd_T62 l0 x7_1).f3)) ∧ w'.cell? ⟨gb115,6,none⟩ = some (.int .u32 ((rd_T62 l0 x7_1).f4))) (ds:=[]) #[false,false,false,false,false,false,false,false,false,false,false,false,false,false,false,false,false,false] (by kernel_rfl) rfl rfl ⟨(blk_cell BK115.out 0).trans rfl,(blk_cell BK115.out 1).trans rfl,(blk_cell BK115.out 2).trans rfl,(blk_cell BK115.out 3).trans rfl,(blk_cell BK115.out 4).trans rfl,(blk_cell BK115.out 5).trans rfl,(blk_cell BK115.out 6).trans rfl⟩ (fun hHeld=>?_);refine with_tabW item_Right.tab4 item_Right.bits4 (fun HT_ HW_=>?_)
       generalize w29.drew = w30 at BK115 HB hHeld ⊢
       refine ta 0 (some 12) HT_ HW_ hHeld rfl rfl (by rintro w' ⟨s0,s1,s2,s3,s4,s5,s6⟩;go_simp;with_reducible rfl) ?_
       refine one_ (i:=1) (N:=some 13) #[true,true,false,false,false,false,false,false,false,false,false,false,false,false,false,false,false,false] rfl rfl (one_of HT_.out (by kernel_rfl)) (by decide) (fun K hK=>?_)
       refine goes_ Tryz.func86 (by kernel_rfl) rfl #[.agg #[.int .u8 ((rd_T62 l0 x7_1).f0),.int .u8 ((rd_T62 l0 x7_1).f1.f0),.int .u32 ((rd_T62 l0 x7_1).f1.f1),.int .u32 ((rd_T62 l0 x7_1).f1.f2),.int .i64 ((rd_T62 l0 x7_1).f2),.int .u8 ((rd_T62 l0 x7_1).f3),.int .u32 ((rd_T62 l0 x7_1).f4)]] (by rfl) rfl rfl (by (try simp only [List.map_toArray,List.map_cons,List.map_nil]);first | rfl) ?_
       with_reducible refine (item_entry.calls ((rd_T62 l0 x7_1).f0) ((rd_T62 l0 x7_1).f1.f0) ((rd_T62 l0 x7_1).f1.f1) ((rd_T62 l0 x7_1).f1.f2) ((rd_T62 l0 x7_1).f2) ((rd_T62 l0 x7_1).f3) ((rd_T62 l0 x7_1).f4) false _ A5.out).mono ?_
       rintro e w31 ⟨rfl,hb⟩
       refine ⟨_,rfl,?_⟩
       replace BK115:=Aside0.mk (blk_below BK115.out hb)
       replace HB:=Aside0.mk (below_step (by repeat ((with_reducible first | exact HB.out))) hb)
       (try clear hb)
       refine hK.out _ _ ⟨(blk_cell BK115.out 0).trans rfl,(blk_cell BK115.out 1).trans rfl,(blk_cell BK115.out 2).trans rfl,(blk_cell BK115.out 3).trans rfl,(blk_cell BK115.out 4).trans rfl,(blk_cell BK115.out 5).trans rfl,(blk_cell BK115.out 6).trans rfl⟩ (fun hHeld=>?_)
       clear hK K
       refine no_ (some 13) ?_
       refine pu 2 (some 14) HT_ rfl rfl ?_
       refine pu 3 (some 15) HT_ rfl rfl ?_
       refine sk 4 (some 16) HT_ rfl rfl ?_
       refine sk 5 (some 17) HT_ rfl rfl ?_
       refine sk 6 (some 18) HT_ rfl rfl ?_
       refine sk 7 (some 19) HT_ rfl rfl ?_
       refine sk 8 (some 20) HT_ rfl rfl ?_
       refine sk 9 (some 21) HT_ rfl rfl ?_
       refine sk 10 (some 22) HT_ rfl rfl ?_
       refine sk 11 (some 23) HT_ rfl rfl ?_
       refine sk 12 (some 24) HT_ rfl rfl ?_
       refine sk 13 (some 25) HT_ rfl rfl ?_
       refine sk 14 (some 26) HT_ rfl rfl ?_
       refine sk 15 (some 27) HT_ rfl rfl ?_
       refine sk 16 (some 28) HT_ rfl rfl ?_
       refine pu 17 (some 29) HT_ rfl rfl ?_
       refine done_ (done_of HT_.out (by kernel_rfl)) ?_
       try go_wp2
       go_ret
       exact ⟨by first | rfl,by repeat ((with_reducible first | exact HB.out))⟩
     ·rw [if_neg c4] at H
      exact absurd H (by simp)
    ·rw [if_neg c3] at H
     exact absurd H (by simp)
   ·rw [if_neg c2] at H
    have c2b0 : decide (x7_1 < (l0.length : Int)) = false:=decide_eq_false c2
    clear c2
    obtain rfl:=Option.some.inj H
    go_wp2
    go_ret
    exact ⟨by first | rfl,by repeat ((with_reducible first | exact HB.out))⟩
end Go.Proofs.YtiminjibcafkaaaGreatDoor.X
