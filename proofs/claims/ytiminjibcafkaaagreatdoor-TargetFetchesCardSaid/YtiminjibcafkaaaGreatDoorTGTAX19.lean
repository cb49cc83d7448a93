/- A part of the proof. -/
import Derived.Test.YtiminjibcafkaaaGreatDoorTGTAJ5
import Derived.Test.YtiminjibcafkaaaGreatDoorTGTAJ4
set_option linter.unusedSimpArgs false
set_option linter.unusedVariables false
namespace Go.Proofs.YtiminjibcafkaaaGreatDoor.X
open RowKit YtiminjibcafkaaaGreatDoorW.PrintWords YtiminjibcafkaaaGreatDoorW.PrintLast YtiminjibcafkaaaGreatDoorW.PrintMore
attribute [local go_sem] max2_int min2_int max_two min_two max_three min_three max_four min_four
def item_Fade.f (a0_0 : Int) (a0_1 : Int) (a0_2 : Int) (a0_3 : Int) (a0_4 : Int) (a0_5 : Int) (a0_6 : Int) : Option (Int × Int × Int × Int × Int × Int × Int):=if a0_4 = 1 then (some (a0_0,a0_1,a0_2,a0_3,2,a0_5,0)) else (some (a0_0,a0_1,a0_2,a0_3,a0_4,a0_5,a0_6))
set_option maxHeartbeats 8000000 in
set_option maxRecDepth 100000 in
theorem item_Fade.calls (a0_0 : Int) (a0_1 : Int) (a0_2 : Int) (a0_3 : Int) (a0_4 : Int) (a0_5 : Int) (a0_6 : Int) (r1 : Int) (r2 : Int) (r3 : Int) (r4 : Int) (r5 : Int) (r6 : Int) (r7 : Int) (w : World) (h : item_Fade.f a0_0 a0_1 a0_2 a0_3 a0_4 a0_5 a0_6 = some (r1,r2,r3,r4,r5,r6,r7)) :
 Calls Tryz.prog 68 #[.agg #[.int .u8 a0_0,.int .u8 a0_1,.int .u32 a0_2,.int .u32 a0_3,.int .i64 a0_4,.int .u8 a0_5,.int .u32 a0_6]] w fun e w'=>e = .returned (.agg #[.int .u8 r1,.int .u8 r2,.int .u32 r3,.int .u32 r4,.int .i64 r5,.int .u8 r6,.int .u32 r7]) ∧ Below w.heap.size w w':=by
 have hu62:=Tryz.underlying62;have HB:=zA (zS w.heap.size w);have H : (if a0_4 = 1 then (some (a0_0,a0_1,a0_2,a0_3,2,a0_5,0)) else (some (a0_0,a0_1,a0_2,a0_3,a0_4,a0_5,a0_6))) = some (r1,r2,r3,r4,r5,r6,r7):=h;clear h;by_cases c2 : a0_4 = 1
 ·rw [if_pos c2] at H;have c2b0 : (a0_4 == 1) = true:=yB.mpr c2;have c2b1 : (a0_4 != 1) = false:=zU.mpr c2;clear c2;simp only [Option.some.injEq,Prod.mk.injEq] at H;obtain ⟨rfl,rfl,rfl,rfl,rfl,rfl,rfl⟩:=H;go_enter Tryz.func68,Tryz.ntmps68;go_wp2_with (first | ((with_reducible refine gate_dst (N:=1) rfl ?_);refine box_event ?hg (N:=1) ?hd (cs:=#[.int .u8 a0_0,.int .u8 a0_1,.int .u32 a0_2,.int .u32 a0_3,.int .i64 a0_4,.int .u8 a0_5,.int .u32 a0_6]) (t:=62) ?hr ?_;(case hd=>rfl);(case hg=>rfl);(case hr=>(go_simp;done));intro gb247 hg w3 hbox hb;have n0_:=zA (zG HB.out hb);have n1_:=zA (hbox);have n2_:=zA ((by rw [hg];exact (zX HB.out) : w.heap.size ≤ gb247));have n3_:=zA ((by rw [hg];exact (zX HB.out) : w.heap.size ≤ gb247));clear HB;have HB:=n0_;have BK247:=n1_;have GW247:=n2_;have GE247:=n3_;clear n0_ n1_ n2_ n3_ hb hbox hg) | ((with_reducible refine gate_dst (N:=2) rfl ?_);refine box_event ?hg (N:=2) ?hd (cs:=#[.int .u8 0,.int .u8 0,.int .u32 0,.int .u32 0,.int .i64 0,.int .u8 0,.int .u32 0]) (t:=62) ?hr ?_;(case hd=>rfl);(case hg=>rfl);(case hr=>(go_simp;done));intro gb248 hg w4 hbox hb;have n0_:=zA (zC BK247.out hb);have n1_:=zA (zG HB.out hb);have n2_:=zA (hbox);have n3_:=zA ((by rw [hg];exact (zX HB.out) : w.heap.size ≤ gb248));have n4_:=zA ((by rw [hg];exact (zX HB.out) : w.heap.size ≤ gb248));have n5_:=zA ((by rw [hg];exact Nat.ne_of_lt (blk_lt (g:=gb247) (o:=.cells #[.int .u8 a0_0,.int .u8 a0_1,.int .u32 a0_2,.int .u32 a0_3,.int .i64 a0_4,.int .u8 a0_5,.int .u32 a0_6] 62 (0,0)) BK247.out) : gb247 ≠ gb248));have n6_:=zA ((by rw [hg];exact Nat.ne_of_gt (blk_lt (g:=gb247) (o:=.cells #[.int .u8 a0_0,.int .u8 a0_1,.int .u32 a0_2,.int .u32 a0_3,.int .i64 a0_4,.int .u8 a0_5,.int .u32 a0_6] 62 (0,0)) BK247.out) : gb248 ≠ gb247));clear BK247 HB;have BK247:=n0_;have HB:=n1_;have BK248:=n2_;have GW248:=n3_;have GE248:=n4_;have NB247_248:=n5_;have NB248_247:=n6_;clear n0_ n1_ n2_ n3_ n4_ n5_ n6_ hb hbox hg;have hnb5:=NB247_248.out;have hnc5:=NB248_247.out;have hcz6_:=cells7 BK247.out;obtain ⟨hfz6_0,hfz6_1,hfz6_2,hfz6_3,hfz6_4,hfz6_5,hfz6_6,_,_,_,_,_,_⟩:=frz13 BK247.out;have hcz7_:=cells7 BK248.out;obtain ⟨hfz7_0,hfz7_1,hfz7_2,hfz7_3,hfz7_4,hfz7_5,hfz7_6,_,_,_,_,_,_⟩:=frz13 BK248.out))
  refine bodyPost_ret (results_cell_row rfl _ _ gb248 62 #[.int .u8 a0_0,.int .u8 a0_1,.int .u32 a0_2,.int .u32 a0_3,.int .i64 2,.int .u8 a0_5,.int .u32 0] (0,0) _ rfl (by refine blk_put (cs:=#[.int .u8 a0_0,.int .u8 a0_1,.int .u32 a0_2,.int .u32 a0_3,.int .i64 2,.int .u8 a0_5,.int .u32 0]) ?_ 6 _ rfl;refine blk_put (cs:=#[.int .u8 a0_0,.int .u8 a0_1,.int .u32 a0_2,.int .u32 a0_3,.int .i64 2,.int .u8 0,.int .u32 0]) ?_ 5 _ rfl;refine blk_put (cs:=#[.int .u8 a0_0,.int .u8 a0_1,.int .u32 a0_2,.int .u32 a0_3,.int .i64 0,.int .u8 0,.int .u32 0]) ?_ 4 _ rfl;refine blk_put (cs:=#[.int .u8 a0_0,.int .u8 a0_1,.int .u32 a0_2,.int .u32 0,.int .i64 0,.int .u8 0,.int .u32 0]) ?_ 3 _ rfl;refine blk_put (cs:=#[.int .u8 a0_0,.int .u8 a0_1,.int .u32 0,.int .u32 0,.int .i64 0,.int .u8 0,.int .u32 0]) ?_ 2 _ rfl;refine blk_put (cs:=#[.int .u8 a0_0,.int .u8 0,.int .u32 0,.int .u32 0,.int .i64 0,.int .u8 0,.int .u32 0]) ?_ 1 _ rfl;refine blk_put (cs:=#[.int .u8 0,.int .u8 0,.int .u32 0,.int .u32 0,.int .i64 0,.int .u8 0,.int .u32 0]) ?_ 0 _ rfl;refine blk_far ?_ NB248_247.out _;refine blk_far ?_ NB248_247.out _;exact BK248.out) Tryz.underlying62 rfl (by kernel_rfl)) rfl ?_;exact ⟨by rfl,by repeat ((with_reducible first | exact HB.out | refine below_set ?_ GE247.out | refine below_set ?_ GE248.out))⟩
 ·rw [if_neg c2] at H;have c2b0 : (a0_4 == 1) = false:=zR.mpr c2;have c2b1 : (a0_4 != 1) = true:=yF.mpr c2;simp only [Option.some.injEq,Prod.mk.injEq] at H;obtain ⟨rfl,rfl,rfl,rfl,rfl,rfl,rfl⟩:=H;go_enter Tryz.func68,Tryz.ntmps68;go_wp2_with (first | ((with_reducible refine gate_dst (N:=1) rfl ?_);refine box_event ?hg (N:=1) ?hd (cs:=#[.int .u8 a0_0,.int .u8 a0_1,.int .u32 a0_2,.int .u32 a0_3,.int .i64 a0_4,.int .u8 a0_5,.int .u32 a0_6]) (t:=62) ?hr ?_;(case hd=>rfl);(case hg=>rfl);(case hr=>(go_simp;done));intro gb247 hg w8 hbox hb;have n0_:=zA (zG HB.out hb);have n1_:=zA (hbox);have n2_:=zA ((by rw [hg];exact (zX HB.out) : w.heap.size ≤ gb247));have n3_:=zA ((by rw [hg];exact (zX HB.out) : w.heap.size ≤ gb247));clear HB;have HB:=n0_;have BK247:=n1_;have GW247:=n2_;have GE247:=n3_;clear n0_ n1_ n2_ n3_ hb hbox hg) | ((with_reducible refine gate_dst (N:=2) rfl ?_);refine box_event ?hg (N:=2) ?hd (cs:=#[.int .u8 0,.int .u8 0,.int .u32 0,.int .u32 0,.int .i64 0,.int .u8 0,.int .u32 0]) (t:=62) ?hr ?_;(case hd=>rfl);(case hg=>rfl);(case hr=>(go_simp;done));intro gb248 hg w9 hbox hb;have n0_:=zA (zC BK247.out hb);have n1_:=zA (zG HB.out hb);have n2_:=zA (hbox);have n3_:=zA ((by rw [hg];exact (zX HB.out) : w.heap.size ≤ gb248));have n4_:=zA ((by rw [hg];exact (zX HB.out) : w.heap.size ≤ gb248));have n5_:=zA ((by rw [hg];exact Nat.ne_of_lt (blk_lt (g:=gb247) (o:=.cells #[.int .u8 a0_0,.int .u8 a0_1,.int .u32 a0_2,.int .u32 a0_3,.int .i64 a0_4,.int .u8 a0_5,.int .u32 a0_6] 62 (0,0)) BK247.out) : gb247 ≠ gb248));have n6_:=zA ((by rw [hg];exact Nat.ne_of_gt (blk_lt (g:=gb247) (o:=.cells #[.int .u8 a0_0,.int .u8 a0_1,.int .u32 a0_2,.int .u32 a0_3,.int .i64 a0_4,.int .u8 a0_5,.int .u32 a0_6] 62 (0,0)) BK247.out) : gb248 ≠ gb247));clear BK247 HB;have BK247:=n0_;have HB:=n1_;have BK248:=n2_;have GW248:=n3_;have GE248:=n4_;have NB247_248:=n5_;have NB248_247:=n6_;clear n0_ n1_ n2_ n3_ n4_ n5_ n6_ hb hbox hg;have hnb10:=NB247_248.out;have hnc10:=NB248_247.out;have hcz11_:=cells7 BK247.out;obtain ⟨hfz11_0,hfz11_1,hfz11_2,hfz11_3,hfz11_4,hfz11_5,hfz11_6,_,_,_,_,_,_⟩:=frz13 BK247.out;have hcz12_:=cells7 BK248.out;obtain ⟨hfz12_0,hfz12_1,hfz12_2,hfz12_3,hfz12_4,hfz12_5,hfz12_6,_,_,_,_,_,_⟩:=frz13 BK248.out))
  refine bodyPost_ret (results_cell_row rfl _ _ gb248 62 #[.int .u8 a0_0,.int .u8 a0_1,.int .u32 a0_2,.int .u32 a0_3,.int .i64 a0_4,.int .u8 a0_5,.int .u32 a0_6] (0,0) _ rfl (by refine blk_put (cs:=#[.int .u8 a0_0,.int .u8 a0_1,.int .u32 a0_2,.int .u32 a0_3,.int .i64 a0_4,.int .u8 a0_5,.int .u32 0]) ?_ 6 _ rfl;refine blk_put (cs:=#[.int .u8 a0_0,.int .u8 a0_1,.int .u32 a0_2,.int .u32 a0_3,.int .i64 a0_4,.int .u8 0,.int .u32 0]) ?_ 5 _ rfl;refine blk_put (cs:=#[.int .u8 a0_0,.int .u8 a0_1,.int .u32 a0_2,.int .u32 a0_3,.int .i64 0,.int .u8 0,.int .u32 0]) ?_ 4 _ rfl;refine blk_put (cs:=#[.int .u8 a0_0,.int .u8 a0_1,.int .u32 a0_2,.int .u32 0,.int .i64 0,.int .u8 0,.int .u32 0]) ?_ 3 _ rfl;refine blk_put (cs:=#[.int .u8 a0_0,.int .u8 a0_1,.int .u32 0,.int .u32 0,.int .i64 0,.int .u8 0,.int .u32 0]) ?_ 2 _ rfl;refine blk_put (cs:=#[.int .u8 a0_0,.int .u8 0,.int .u32 0,.int .u32 0,.int .i64 0,.int .u8 0,.int .u32 0]) ?_ 1 _ rfl;refine blk_put (cs:=#[.int .u8 0,.int .u8 0,.int .u32 0,.int .u32 0,.int .i64 0,.int .u8 0,.int .u32 0]) ?_ 0 _ rfl;exact BK248.out) Tryz.underlying62 rfl (by kernel_rfl)) rfl ?_;exact ⟨by rfl,by repeat ((with_reducible first | exact HB.out | refine below_set ?_ GE248.out))⟩
mutual
def tidingsref01_Right.l0 : Nat → List (S67) → Int → Option (Bool)
 | 0,_,_=>none
 | k + 1,x0,x3=>if x3 < (x0.length : Int) then (if 0 ≤ x3 then (if ((rd_T67 x0 x3).f0) ≥ 8 then (tidingsref01_Right.j1 k x0 x3 true) else (if ((rd_T67 x0 x3).f1) = 0 then (tidingsref01_Right.j1 k x0 x3 true) else (tidingsref01_Right.j1 k x0 x3 (decide (((rd_T67 x0 x3).f1) > ((rd_T67 x0 x3).f2)))))) else (none)) else (some (decide ((x0.length : Int) ≤ 64)))
def tidingsref01_Right.j1 : Nat → List (S67) → Int → Bool → Option (Bool)
 | 0,_,_,_=>none
 | k + 1,x0,x3,x36=>if x36 = true then (some false) else (if x3 > 0 then (if 0 ≤ (wrap64 (x3 - 1)) then (if (wrap64 (x3 - 1)) < (x0.length : Int) then (if 0 ≤ x3 then (if x3 < (x0.length : Int) then (if ((rd_T67 x0 (wrap64 (x3 - 1))).f0) > ((rd_T67 x0 x3).f0) then (some false) else (if ((rd_T67 x0 (wrap64 (x3 - 1))).f0) = ((rd_T67 x0 x3).f0) then (if (IntKind.u64.wrap ((IntKind.u64.wrap ((rd_T67 x0 (wrap64 (x3 - 1))).f2)) + 1)) ≥ (IntKind.u64.wrap ((rd_T67 x0 x3).f1)) then (some false) else (tidingsref01_Right.l0 k x0 (wrap64 (x3 + 1)))) else (tidingsref01_Right.l0 k x0 (wrap64 (x3 + 1))))) else (none)) else (none)) else (none)) else (none)) else (tidingsref01_Right.l0 k x0 (wrap64 (x3 + 1))))
end
def tidingsref01_Right.f (k : Nat) (l0 : List (S67)) : Option (Bool):=tidingsref01_Right.l0 k l0 0
set_option maxHeartbeats 8000000 in
set_option maxRecDepth 100000 in
theorem tidingsref01_Right.calls (k : Nat) (A0 : Option Addr) (c0 : Nat) (l0 : List (S67)) (r : Bool) (w : World) (hr0 : Kd.C k67 w A0 l0.length l0) (hc0 : l0.length ≤ c0) (h : tidingsref01_Right.f k l0 = some r) :
 Calls Tryz.prog 61 #[.slice A0 l0.length c0] w fun e w'=>e = .returned (.bool r) ∧ Drawn0 w w':=by
 have HR0:=zA hr0;have HC0:=zA hc0;clear hr0 hc0;have H : (tidingsref01_Right.l0 k l0 0) = some r:=h;clear h;have H':=zA H;clear H;go_enter Tryz.func61,Tryz.ntmps61;go_wp2;go_loopg [3] k (fun kq v3 w'=>∃ (x3_1 : Int),v3 = .int .i64 x3_1 ∧ Aside0 (tidingsref01_Right.l0 kq l0 x3_1 = some r) ∧ Aside0 (kq ≤ k) ∧ Drawn0 w w')
 case atStart=>exact ⟨(0),(by rfl),H',⟨zM _⟩,by repeat (first | exact Drawn0.refl _)⟩
 case round =>
  clear H';obtain ⟨x3_1,rfl,HA,HK1,⟨m1,rfl⟩⟩:=hrel;cases gk with
  | zero=>exact absurd HA.out (by simp [tidingsref01_Right.l0])
  | succ k1 =>
   have H:=HA.out;clear HA;simp only [tidingsref01_Right.l0] at H;by_cases c2 : x3_1 < (l0.length : Int)
   ·rw [if_pos c2] at H;have c2b0 : decide (x3_1 < (l0.length : Int)) = true:=zE c2;clear c2;have HC3:=zA H;clear H;go_upto_region 4 with (fail)
    go_cut [36] (fun v36 wc=>∃ (kq : Nat) (x36_2 : Bool),v36 = .bool x36_2 ∧ Aside0 (tidingsref01_Right.j1 kq l0 x3_1 x36_2 = some r) ∧ Aside0 (kq ≤ k1) ∧ Drawn0 w wc)
    case first =>
     have H:=HC3.out;clear HC3;by_cases c4 : 0 ≤ x3_1
     ·rw [if_pos c4] at H;have c4b0 : decide (0 ≤ x3_1) = true:=zE c4;clear c4;(first | skip);by_cases c5 : ((rd_T67 l0 x3_1).f0) ≥ 8
      ·rw [if_pos c5] at H;have c5b0 : decide (8 ≤ ((rd_T67 l0 x3_1).f0)) = true:=zE c5;clear c5;have H':=zA H;clear H;have p249 : 0 ≤ (x3_1 : Int):=oA;have q249 : x3_1 < (l0.length : Int):=oA;obtain ⟨ad249,e249,hx249_0,hx249_1,hx249_2⟩:=at_T67 HR0.out x3_1 p249 q249;cases e249;replace p249:=eq_true p249;replace q249:=eq_true q249;go_wp2
       repeat (go_quiet (fail);try go_wp2)
       go_meet
       case rel=>exact ⟨_,(true),(by rfl),H',⟨by have:=HK1.out;first | omega⟩,by repeat (first | exact Drawn0.refl _ | apply Drawn0.step)⟩
      ·rw [if_neg c5] at H;have c5b0 : decide (8 ≤ ((rd_T67 l0 x3_1).f0)) = false:=zF c5;clear c5;by_cases c6 : ((rd_T67 l0 x3_1).f1) = 0
       ·rw [if_pos c6] at H;have c6b0 : (((rd_T67 l0 x3_1).f1) == 0) = true:=yB.mpr c6;have c6b1 : (((rd_T67 l0 x3_1).f1) != 0) = false:=zU.mpr c6;clear c6;have H':=zA H;clear H;have p249 : 0 ≤ (x3_1 : Int):=oA;have q249 : x3_1 < (l0.length : Int):=oA;obtain ⟨ad249,e249,hx249_0,hx249_1,hx249_2⟩:=at_T67 HR0.out x3_1 p249 q249;cases e249;replace p249:=eq_true p249;replace q249:=eq_true q249;have p250 : 0 ≤ (x3_1 : Int):=oA;have q250 : x3_1 < (l0.length : Int):=oA;obtain ⟨ad250,e250,hx250_0,hx250_1,hx250_2⟩:=at_T67 HR0.out x3_1 p250 q250;obtain rfl : ad249 = ad250:=(by injection e250)
        replace p250:=eq_true p250;replace q250:=eq_true q250;go_wp2
        repeat (go_quiet (fail);try go_wp2)
        go_meet
        case rel=>exact ⟨_,(true),(by rfl),H',⟨by have:=HK1.out;first | omega⟩,by repeat (first | exact Drawn0.refl _ | apply Drawn0.step)⟩
       ·rw [if_neg c6] at H;have c6b0 : (((rd_T67 l0 x3_1).f1) == 0) = false:=zR.mpr c6;have c6b1 : (((rd_T67 l0 x3_1).f1) != 0) = true:=yF.mpr c6;have H':=zA H;clear H;have p249 : 0 ≤ (x3_1 : Int):=oA;have q249 : x3_1 < (l0.length : Int):=oA;obtain ⟨ad249,e249,hx249_0,hx249_1,hx249_2⟩:=at_T67 HR0.out x3_1 p249 q249;cases e249;replace p249:=eq_true p249;replace q249:=eq_true q249;have p250 : 0 ≤ (x3_1 : Int):=oA;have q250 : x3_1 < (l0.length : Int):=oA;obtain ⟨ad250,e250,hx250_0,hx250_1,hx250_2⟩:=at_T67 HR0.out x3_1 p250 q250;obtain rfl : ad249 = ad250:=(by injection e250)
        replace p250:=eq_true p250;replace q250:=eq_true q250;have p251 : 0 ≤ (x3_1 : Int):=oA;have q251 : x3_1 < (l0.length : Int):=oA;obtain ⟨ad251,e251,hx251_0,hx251_1,hx251_2⟩:=at_T67 HR0.out x3_1 p251 q251;obtain rfl : ad249 = ad251:=(by injection e251)
        replace p251:=eq_true p251;replace q251:=eq_true q251;have p252 : 0 ≤ (x3_1 : Int):=oA;have q252 : x3_1 < (l0.length : Int):=oA;obtain ⟨ad252,e252,hx252_0,hx252_1,hx252_2⟩:=at_T67 HR0.out x3_1 p252 q252;obtain rfl : ad249 = ad252:=(by injection e252)
        replace p252:=eq_true p252;replace q252:=eq_true q252;go_wp2
        repeat (go_quiet (fail);try go_wp2)
        go_meet
        case rel=>exact ⟨_,(decide (((rd_T67 l0 x3_1).f1) > ((rd_T67 l0 x3_1).f2))),(by rfl),H',⟨by have:=HK1.out;first | omega⟩,by repeat (first | exact Drawn0.refl _ | apply Drawn0.step)⟩
     ·rw [if_neg c4] at H;exact absurd H (by simp)
    case rest =>
     clear HC3;clear c2b0;obtain ⟨kq,x36_2,rfl,HA,HJ2,⟨mc2,rfl⟩⟩:=hcut;cases kq with
     | zero=>exact absurd HA.out (by simp [tidingsref01_Right.j1])
     | succ kj2 =>
      have H:=HA.out;clear HA;simp only [tidingsref01_Right.j1] at H;by_cases c7 : x36_2 = true
      ·subst c7;rw [if_pos rfl] at H;obtain rfl:=zH H;go_wp2;go_ret;exact ⟨by rfl,by repeat (first | exact Drawn0.refl _ | apply Drawn0.step)⟩
      ·replace c7:=Bool.eq_false_iff.mpr c7;subst c7;rw [if_neg (show ¬ (false = true) by decide)] at H;by_cases c8 : x3_1 > 0
       ·rw [if_pos c8] at H;have c8b0 : decide (0 < x3_1) = true:=zE c8;clear c8;obtain ⟨ji9,hji9⟩ : ∃ j_ : Int,(wrap64 (x3_1 - 1)) = j_:=⟨_,rfl⟩
        replace H : (if 0 ≤ (ji9) then (if (ji9) < (l0.length : Int) then (if 0 ≤ x3_1 then (if x3_1 < (l0.length : Int) then (if ((rd_T67 l0 (ji9)).f0) > ((rd_T67 l0 x3_1).f0) then (some false) else (if ((rd_T67 l0 (ji9)).f0) = ((rd_T67 l0 x3_1).f0) then (if (IntKind.u64.wrap ((IntKind.u64.wrap ((rd_T67 l0 (ji9)).f2)) + 1)) ≥ (IntKind.u64.wrap ((rd_T67 l0 x3_1).f1)) then (some false) else (tidingsref01_Right.l0 kj2 l0 (wrap64 (x3_1 + 1)))) else (tidingsref01_Right.l0 kj2 l0 (wrap64 (x3_1 + 1))))) else (none)) else (none)) else (none)) else (none)) = some r:=by (rw [hji9] at H;exact H)
        have hji9w : (IntKind.i64.wrap (x3_1 - 1)) = ji9:=(i64_w _).trans hji9;by_cases c10 : 0 ≤ (ji9)
        ·rw [if_pos c10] at H;have c10b0 : decide (0 ≤ (ji9)) = true:=zE c10;clear c10;by_cases c11 : (ji9) < (l0.length : Int)
         ·rw [if_pos c11] at H;have c11b0 : decide ((ji9) < (l0.length : Int)) = true:=zE c11;clear c11;by_cases c12 : 0 ≤ x3_1
          ·rw [if_pos c12] at H;have c12b0 : decide (0 ≤ x3_1) = true:=zE c12;clear c12;by_cases c13 : x3_1 < (l0.length : Int)
           ·rw [if_pos c13] at H;have c13b0 : decide (x3_1 < (l0.length : Int)) = true:=zE c13;clear c13;by_cases c14 : ((rd_T67 l0 (ji9)).f0) > ((rd_T67 l0 x3_1).f0)
            ·rw [if_pos c14] at H;have c14b0 : decide (((rd_T67 l0 x3_1).f0) < ((rd_T67 l0 (ji9)).f0)) = true:=zE c14;clear c14;obtain rfl:=zH H;have p253 : 0 ≤ ((ji9) : Int):=oA;have q253 : (ji9) < (l0.length : Int):=oA;obtain ⟨ad253,e253,hx253_0,hx253_1,hx253_2⟩:=at_T67 HR0.out (ji9) p253 q253;cases e253;replace p253:=eq_true p253;replace q253:=eq_true q253;have p254 : 0 ≤ (x3_1 : Int):=oA;have q254 : x3_1 < (l0.length : Int):=oA;obtain ⟨ad254,e254,hx254_0,hx254_1,hx254_2⟩:=at_T67 HR0.out x3_1 p254 q254;obtain rfl : ad253 = ad254:=(by injection e254)
             replace p254:=eq_true p254;replace q254:=eq_true q254;go_wp2
             repeat (go_quiet (fail);try go_wp2)
             go_ret;exact ⟨by rfl,by repeat (first | exact Drawn0.refl _ | apply Drawn0.step)⟩
            ·rw [if_neg c14] at H;have c14b0 : decide (((rd_T67 l0 x3_1).f0) < ((rd_T67 l0 (ji9)).f0)) = false:=zF c14;clear c14;by_cases c15 : ((rd_T67 l0 (ji9)).f0) = ((rd_T67 l0 x3_1).f0)
             ·rw [if_pos c15] at H;have c15b0 : (((rd_T67 l0 (ji9)).f0) == ((rd_T67 l0 x3_1).f0)) = true:=yB.mpr c15;have c15b1 : (((rd_T67 l0 (ji9)).f0) != ((rd_T67 l0 x3_1).f0)) = false:=zU.mpr c15;clear c15;by_cases c16 : (IntKind.u64.wrap ((IntKind.u64.wrap ((rd_T67 l0 (ji9)).f2)) + 1)) ≥ (IntKind.u64.wrap ((rd_T67 l0 x3_1).f1))
              ·rw [if_pos c16] at H;have c16b0 : decide ((IntKind.u64.wrap ((rd_T67 l0 x3_1).f1)) ≤ (IntKind.u64.wrap ((IntKind.u64.wrap ((rd_T67 l0 (ji9)).f2)) + 1))) = true:=zE c16;clear c16;obtain rfl:=zH H;have p253 : 0 ≤ ((ji9) : Int):=oA;have q253 : (ji9) < (l0.length : Int):=oA;obtain ⟨ad253,e253,hx253_0,hx253_1,hx253_2⟩:=at_T67 HR0.out (ji9) p253 q253;cases e253;replace p253:=eq_true p253;replace q253:=eq_true q253;have p254 : 0 ≤ (x3_1 : Int):=oA;have q254 : x3_1 < (l0.length : Int):=oA;obtain ⟨ad254,e254,hx254_0,hx254_1,hx254_2⟩:=at_T67 HR0.out x3_1 p254 q254;obtain rfl : ad253 = ad254:=(by injection e254)
               replace p254:=eq_true p254;replace q254:=eq_true q254;have p255 : 0 ≤ ((ji9) : Int):=oA;have q255 : (ji9) < (l0.length : Int):=oA;obtain ⟨ad255,e255,hx255_0,hx255_1,hx255_2⟩:=at_T67 HR0.out (ji9) p255 q255;obtain rfl : ad253 = ad255:=(by injection e255)
               replace p255:=eq_true p255;replace q255:=eq_true q255;have p256 : 0 ≤ (x3_1 : Int):=oA;have q256 : x3_1 < (l0.length : Int):=oA;obtain ⟨ad256,e256,hx256_0,hx256_1,hx256_2⟩:=at_T67 HR0.out x3_1 p256 q256;obtain rfl : ad253 = ad256:=(by injection e256)
               replace p256:=eq_true p256;replace q256:=eq_true q256;have p257 : 0 ≤ ((ji9) : Int):=oA;have q257 : (ji9) < (l0.length : Int):=oA;obtain ⟨ad257,e257,hx257_0,hx257_1,hx257_2⟩:=at_T67 HR0.out (ji9) p257 q257;obtain rfl : ad253 = ad257:=(by injection e257)
               replace p257:=eq_true p257;replace q257:=eq_true q257;have p258 : 0 ≤ (x3_1 : Int):=oA;have q258 : x3_1 < (l0.length : Int):=oA;obtain ⟨ad258,e258,hx258_0,hx258_1,hx258_2⟩:=at_T67 HR0.out x3_1 p258 q258;obtain rfl : ad253 = ad258:=(by injection e258)
               replace p258:=eq_true p258;replace q258:=eq_true q258;go_wp2
               repeat (go_quiet (fail);try go_wp2)
               go_ret;exact ⟨by rfl,by repeat (first | exact Drawn0.refl _ | apply Drawn0.step)⟩
              ·rw [if_neg c16] at H;have c16b0 : decide ((IntKind.u64.wrap ((rd_T67 l0 x3_1).f1)) ≤ (IntKind.u64.wrap ((IntKind.u64.wrap ((rd_T67 l0 (ji9)).f2)) + 1))) = false:=zF c16;clear c16;have H':=zA H;clear H;have p253 : 0 ≤ ((ji9) : Int):=oA;have q253 : (ji9) < (l0.length : Int):=oA;obtain ⟨ad253,e253,hx253_0,hx253_1,hx253_2⟩:=at_T67 HR0.out (ji9) p253 q253;cases e253;replace p253:=eq_true p253;replace q253:=eq_true q253;have p254 : 0 ≤ (x3_1 : Int):=oA;have q254 : x3_1 < (l0.length : Int):=oA;obtain ⟨ad254,e254,hx254_0,hx254_1,hx254_2⟩:=at_T67 HR0.out x3_1 p254 q254;obtain rfl : ad253 = ad254:=(by injection e254)
               replace p254:=eq_true p254;replace q254:=eq_true q254;have p255 : 0 ≤ ((ji9) : Int):=oA;have q255 : (ji9) < (l0.length : Int):=oA;obtain ⟨ad255,e255,hx255_0,hx255_1,hx255_2⟩:=at_T67 HR0.out (ji9) p255 q255;obtain rfl : ad253 = ad255:=(by injection e255)
               replace p255:=eq_true p255;replace q255:=eq_true q255;have p256 : 0 ≤ (x3_1 : Int):=oA;have q256 : x3_1 < (l0.length : Int):=oA;obtain ⟨ad256,e256,hx256_0,hx256_1,hx256_2⟩:=at_T67 HR0.out x3_1 p256 q256;obtain rfl : ad253 = ad256:=(by injection e256)
               replace p256:=eq_true p256;replace q256:=eq_true q256;have p257 : 0 ≤ ((ji9) : Int):=oA;have q257 : (ji9) < (l0.length : Int):=oA;obtain ⟨ad257,e257,hx257_0,hx257_1,hx257_2⟩:=at_T67 HR0.out (ji9) p257 q257;obtain rfl : ad253 = ad257:=(by injection e257)
               replace p257:=eq_true p257;replace q257:=eq_true q257;have p258 : 0 ≤ (x3_1 : Int):=oA;have q258 : x3_1 < (l0.length : Int):=oA;obtain ⟨ad258,e258,hx258_0,hx258_1,hx258_2⟩:=at_T67 HR0.out x3_1 p258 q258;obtain rfl : ad253 = ad258:=(by injection e258)
               replace p258:=eq_true p258;replace q258:=eq_true q258;go_wp2
               repeat (go_quiet (fail);try go_wp2)
               go_roundg kj2
               case measure=>have:=HK1.out;have:=HJ2.out;omega
               case rel=>exact ⟨(wrap64 (x3_1 + 1)),(by rfl),H',⟨by have:=HK1.out;have:=HJ2.out;omega⟩,by repeat (first | exact Drawn0.refl _ | apply Drawn0.step)⟩
             ·rw [if_neg c15] at H;have c15b0 : (((rd_T67 l0 (ji9)).f0) == ((rd_T67 l0 x3_1).f0)) = false:=zR.mpr c15;have c15b1 : (((rd_T67 l0 (ji9)).f0) != ((rd_T67 l0 x3_1).f0)) = true:=yF.mpr c15;have H':=zA H;clear H;have p253 : 0 ≤ ((ji9) : Int):=oA;have q253 : (ji9) < (l0.length : Int):=oA;obtain ⟨ad253,e253,hx253_0,hx253_1,hx253_2⟩:=at_T67 HR0.out (ji9) p253 q253;cases e253;replace p253:=eq_true p253;replace q253:=eq_true q253;have p254 : 0 ≤ (x3_1 : Int):=oA;have q254 : x3_1 < (l0.length : Int):=oA;obtain ⟨ad254,e254,hx254_0,hx254_1,hx254_2⟩:=at_T67 HR0.out x3_1 p254 q254;obtain rfl : ad253 = ad254:=(by injection e254)
              replace p254:=eq_true p254;replace q254:=eq_true q254;have p255 : 0 ≤ ((ji9) : Int):=oA;have q255 : (ji9) < (l0.length : Int):=oA;obtain ⟨ad255,e255,hx255_0,hx255_1,hx255_2⟩:=at_T67 HR0.out (ji9) p255 q255;obtain rfl : ad253 = ad255:=(by injection e255)
              replace p255:=eq_true p255;replace q255:=eq_true q255;have p256 : 0 ≤ (x3_1 : Int):=oA;have q256 : x3_1 < (l0.length : Int):=oA;obtain ⟨ad256,e256,hx256_0,hx256_1,hx256_2⟩:=at_T67 HR0.out x3_1 p256 q256;obtain rfl : ad253 = ad256:=(by injection e256)
              replace p256:=eq_true p256;replace q256:=eq_true q256;go_wp2
              repeat (go_quiet (fail);try go_wp2)
              go_roundg kj2
              case measure=>have:=HK1.out;have:=HJ2.out;omega
              case rel=>exact ⟨(wrap64 (x3_1 + 1)),(by rfl),H',⟨by have:=HK1.out;have:=HJ2.out;omega⟩,by repeat (first | exact Drawn0.refl _ | apply Drawn0.step)⟩
           ·rw [if_neg c13] at H;exact absurd H (by simp)
          ·rw [if_neg c12] at H;exact absurd H (by simp)
         ·rw [if_neg c11] at H;exact absurd H (by simp)
        ·rw [if_neg c10] at H;exact absurd H (by simp)
       ·rw [if_neg c8] at H;have c8b0 : decide (0 < x3_1) = false:=zF c8;clear c8;have H':=zA H;clear H;go_wp2
        repeat (go_quiet (fail);try go_wp2)
        go_roundg kj2
        case measure=>have:=HK1.out;have:=HJ2.out;omega
        case rel=>exact ⟨(wrap64 (x3_1 + 1)),(by rfl),H',⟨by have:=HK1.out;have:=HJ2.out;omega⟩,by repeat (first | exact Drawn0.refl _ | apply Drawn0.step)⟩
   ·rw [if_neg c2] at H;have c2b0 : decide (x3_1 < (l0.length : Int)) = false:=zF c2;clear c2;obtain rfl:=zH H;go_wp2;go_ret;exact ⟨by rfl,by repeat (first | exact Drawn0.refl _ | apply Drawn0.step)⟩
def tidingsref02_RightVer.f (a0_0 : Int) (a0_1 : Int) (a0_2 : Int) : Option (Bool):=if a0_0 < 8 then (if a0_1 > 0 then (some (decide (a0_2 > 0))) else (some false)) else (some false)
set_option maxHeartbeats 8000000 in
set_option maxRecDepth 100000 in
theorem tidingsref02_RightVer.calls (a0_0 : Int) (a0_1 : Int) (a0_2 : Int) (r : Bool) (w : World) (h : tidingsref02_RightVer.f a0_0 a0_1 a0_2 = some r) :
 Calls Tryz.prog 114 #[.agg #[.int .u8 a0_0,.int .u32 a0_1,.int .u32 a0_2]] w fun e w'=>e = .returned (.bool r) ∧ Below w.heap.size w w':=by
 have hu60:=Tryz.underlying60;have H:=zA h;clear h;go_enter Tryz.func114,Tryz.ntmps114;go_wp2
 all_goals (try go_ret)
 all_goals (have h:=H.out;clear H;simp only [tidingsref02_RightVer.f] at h)
 all_goals (refine ⟨?_,by ((repeat (first | exact zS _ _ | refine Below.alloc ?_ (by first | exact zM _) _));done)⟩)
 all_goals (first | (simp [*] at h;simp [*];done) | ((repeat' (split at h))<;>first | (exfalso;omega) | (simp [*] at h;subst h;simp [*];done)))
def tidingsref02_RightEntry.j0 : Nat → Bool → Int → Int → Int → Int → Int → Int → Int → Option (Bool)
 | 0,_,_,_,_,_,_,_,_=>none
 | k + 1,x11,x261000,x261001,x261002,x261003,x261004,x261005,x261006=>if x11 = true then (some false) else (if x261004 = 1 then (some (((x261005) % 4294967296) == (Int.tmod x261006 8))) else (if x261004 = 2 then (if x261005 < 8 then (some (x261006 == 0)) else (some false)) else (if x261004 = 3 then (if x261005 = 0 then (some (x261006 == 0)) else (some false)) else (some false))))
def tidingsref02_RightEntry.f (k : Nat) (a0_0 : Int) (a0_1 : Int) (a0_2 : Int) (a0_3 : Int) (a0_4 : Int) (a0_5 : Int) (a0_6 : Int) : Option (Bool):=(tidingsref02_RightVer.f a0_1 a0_2 a0_3).bind fun t261=>(if t261 = true then (tidingsref02_RightEntry.j0 k (decide (a0_0 ≥ 64)) a0_0 a0_1 a0_2 a0_3 a0_4 a0_5 a0_6) else (tidingsref02_RightEntry.j0 k true a0_0 a0_1 a0_2 a0_3 a0_4 a0_5 a0_6))
set_option maxHeartbeats 8000000 in
set_option maxRecDepth 100000 in
theorem tidingsref02_RightEntry.calls (k : Nat) (a0_0 : Int) (a0_1 : Int) (a0_2 : Int) (a0_3 : Int) (a0_4 : Int) (a0_5 : Int) (a0_6 : Int) (r : Bool) (w : World) (h : tidingsref02_RightEntry.f k a0_0 a0_1 a0_2 a0_3 a0_4 a0_5 a0_6 = some r) :
 Calls Tryz.prog 91 #[.agg #[.int .u8 a0_0,.int .u8 a0_1,.int .u32 a0_2,.int .u32 a0_3,.int .i64 a0_4,.int .u8 a0_5,.int .u32 a0_6]] w fun e w'=>e = .returned (.bool r) ∧ Below w.heap.size w w':=by
 have hu62:=Tryz.underlying62;have hu60:=Tryz.underlying60;have HB:=zA (zS w.heap.size w);have H : ((tidingsref02_RightVer.f a0_1 a0_2 a0_3).bind fun t261=>(if t261 = true then (tidingsref02_RightEntry.j0 k (decide (a0_0 ≥ 64)) a0_0 a0_1 a0_2 a0_3 a0_4 a0_5 a0_6) else (tidingsref02_RightEntry.j0 k true a0_0 a0_1 a0_2 a0_3 a0_4 a0_5 a0_6))) = some r:=h;clear h;have HC2:=zA H;clear H;go_enter Tryz.func91,Tryz.ntmps91;go_upto_region 1 with (((with_reducible refine gate_dst (N:=1) rfl ?_);refine box_event ?hg (N:=1) ?hd (cs:=#[.int .u8 a0_0,.int .u8 a0_1,.int .u32 a0_2,.int .u32 a0_3,.int .i64 a0_4,.int .u8 a0_5,.int .u32 a0_6]) (t:=62) ?hr ?_;(case hd=>rfl);(case hg=>rfl);(case hr=>(go_simp;done));intro gb260 hg w3 hbox hb;have n0_:=zA (zG HB.out hb);have n1_:=zA (hbox);have n2_:=zA ((by rw [hg];exact (zX HB.out) : w.heap.size ≤ gb260));have n3_:=zA ((by rw [hg];exact (zX HB.out) : w.heap.size ≤ gb260));clear HB;have HB:=n0_;have BK260:=n1_;have GW260:=n2_;have GE260:=n3_;clear n0_ n1_ n2_ n3_ hb hbox hg))
 go_cut [11] (fun v11 wc=>∃ (kq : Nat) (x11_1 : Bool),v11 = .bool x11_1 ∧ Aside0 (tidingsref02_RightEntry.j0 kq x11_1 a0_0 a0_1 a0_2 a0_3 a0_4 a0_5 a0_6 = some r) ∧ Aside0 (kq ≤ k) ∧ Aside0 (wc.heap[gb260]? = some (.cells #[.int .u8 a0_0,.int .u8 a0_1,.int .u32 a0_2,.int .u32 a0_3,.int .i64 a0_4,.int .u8 a0_5,.int .u32 a0_6] 62 (0,0))) ∧ Aside0 (Below w.heap.size w wc))
 case first =>
  have H:=HC2.out;clear HC2;replace H:=zJ.mp H;obtain ⟨t261,A40,H⟩:=H;have A4:=zA A40;clear A40;by_cases c5 : t261 = true
  ·subst c5;rw [if_pos rfl] at H;have H':=zA H;clear H;have hcz6_:=cells7 BK260.out;obtain ⟨hfz6_0,hfz6_1,hfz6_2,hfz6_3,hfz6_4,hfz6_5,hfz6_6,_,_,_,_,_,_⟩:=frz13 BK260.out;go_wp2_with (((with_reducible refine gate_callee (f:=114) rfl ?_);refine goesL_ (some 5) rfl rfl Tryz.func114 (by kernel_rfl) rfl #[.agg #[.int .u8 a0_1,.int .u32 a0_2,.int .u32 a0_3]] rfl (by (try simp only [zN,zT,zY]);first | rfl) ?_;(with_reducible refine (tidingsref02_RightVer.calls a0_1 a0_2 a0_3 true _ A4.out).mono ?_);rintro e w7 ⟨rfl,hb⟩;refine ⟨_,rfl,?_⟩;replace BK260:=zA (zC BK260.out hb);replace HB:=zA (zG HB.out hb);(try clear hb);have hcz8_:=cells7 BK260.out;obtain ⟨hfz8_0,hfz8_1,hfz8_2,hfz8_3,hfz8_4,hfz8_5,hfz8_6,_,_,_,_,_,_⟩:=frz13 BK260.out))
   go_meet
   case rel=>exact ⟨_,(decide (a0_0 ≥ 64)),(by rfl),H',⟨by first | omega⟩,⟨BK260.out⟩,⟨HB.out⟩⟩
  ·replace c5:=Bool.eq_false_iff.mpr c5;subst c5;rw [if_neg (show ¬ (false = true) by decide)] at H;have H':=zA H;clear H;have hcz9_:=cells7 BK260.out;obtain ⟨hfz9_0,hfz9_1,hfz9_2,hfz9_3,hfz9_4,hfz9_5,hfz9_6,_,_,_,_,_,_⟩:=frz13 BK260.out;go_wp2_with (((with_reducible refine gate_callee (f:=114) rfl ?_);refine goesL_ (some 5) rfl rfl Tryz.func114 (by kernel_rfl) rfl #[.agg #[.int .u8 a0_1,.int .u32 a0_2,.int .u32 a0_3]] rfl (by (try simp only [zN,zT,zY]);first | rfl) ?_;(with_reducible refine (tidingsref02_RightVer.calls a0_1 a0_2 a0_3 false _ A4.out).mono ?_);rintro e w10 ⟨rfl,hb⟩;refine ⟨_,rfl,?_⟩;replace BK260:=zA (zC BK260.out hb);replace HB:=zA (zG HB.out hb);(try clear hb)))
   go_meet
   case rel=>exact ⟨_,(true),(by rfl),H',⟨by first | omega⟩,⟨BK260.out⟩,⟨HB.out⟩⟩
 case rest =>
  clear HC2;obtain ⟨kq,x11_1,rfl,HA,HJ1,BK260,HB⟩:=hcut;cases kq with
  | zero=>exact absurd HA.out (by simp [tidingsref02_RightEntry.j0])
  | succ kj1 =>
   have H:=HA.out;clear HA;simp only [tidingsref02_RightEntry.j0] at H;by_cases c11 : x11_1 = true
   ·subst c11;rw [if_pos rfl] at H;obtain rfl:=zH H;go_wp2;go_ret;exact ⟨by rfl,HB.out⟩
   ·replace c11:=Bool.eq_false_iff.mpr c11;subst c11;rw [if_neg (show ¬ (false = true) by decide)] at H;by_cases c12 : a0_4 = 1
    ·rw [if_pos c12] at H;have c12b0 : (a0_4 == 1) = true:=yB.mpr c12;have c12b1 : (a0_4 != 1) = false:=zU.mpr c12;clear c12;obtain rfl:=zH H;have hcz13_:=cells7 BK260.out;obtain ⟨hfz13_0,hfz13_1,hfz13_2,hfz13_3,hfz13_4,hfz13_5,hfz13_6,_,_,_,_,_,_⟩:=frz13 BK260.out;go_wp2;go_ret;exact ⟨by rfl,HB.out⟩
    ·rw [if_neg c12] at H;have c12b0 : (a0_4 == 1) = false:=zR.mpr c12;have c12b1 : (a0_4 != 1) = true:=yF.mpr c12;by_cases c14 : a0_4 = 2
     ·rw [if_pos c14] at H;have c14b0 : (a0_4 == 2) = true:=yB.mpr c14;have c14b1 : (a0_4 != 2) = false:=zU.mpr c14;clear c14;by_cases c15 : a0_5 < 8
      ·rw [if_pos c15] at H;have c15b0 : decide (a0_5 < 8) = true:=zE c15;clear c15;obtain rfl:=zH H;have hcz16_:=cells7 BK260.out;obtain ⟨hfz16_0,hfz16_1,hfz16_2,hfz16_3,hfz16_4,hfz16_5,hfz16_6,_,_,_,_,_,_⟩:=frz13 BK260.out;go_wp2;go_ret;exact ⟨by rfl,HB.out⟩
      ·rw [if_neg c15] at H;have c15b0 : decide (a0_5 < 8) = false:=zF c15;clear c15;obtain rfl:=zH H;have hcz17_:=cells7 BK260.out;obtain ⟨hfz17_0,hfz17_1,hfz17_2,hfz17_3,hfz17_4,hfz17_5,hfz17_6,_,_,_,_,_,_⟩:=frz13 BK260.out;go_wp2;go_ret;exact ⟨by rfl,HB.out⟩
     ·rw [if_neg c14] at H;have c14b0 : (a0_4 == 2) = false:=zR.mpr c14;have c14b1 : (a0_4 != 2) = true:=yF.mpr c14;by_cases c18 : a0_4 = 3
      ·rw [if_pos c18] at H;have c18b0 : (a0_4 == 3) = true:=yB.mpr c18;have c18b1 : (a0_4 != 3) = false:=zU.mpr c18;clear c18;by_cases c19 : a0_5 = 0
       ·rw [if_pos c19] at H;have c19b0 : (a0_5 == 0) = true:=yB.mpr c19;have c19b1 : (a0_5 != 0) = false:=zU.mpr c19;clear c19;obtain rfl:=zH H;have hcz20_:=cells7 BK260.out;obtain ⟨hfz20_0,hfz20_1,hfz20_2,hfz20_3,hfz20_4,hfz20_5,hfz20_6,_,_,_,_,_,_⟩:=frz13 BK260.out;go_wp2;go_ret;exact ⟨by rfl,HB.out⟩
       ·rw [if_neg c19] at H;have c19b0 : (a0_5 == 0) = false:=zR.mpr c19;have c19b1 : (a0_5 != 0) = true:=yF.mpr c19;obtain rfl:=zH H;have hcz21_:=cells7 BK260.out;obtain ⟨hfz21_0,hfz21_1,hfz21_2,hfz21_3,hfz21_4,hfz21_5,hfz21_6,_,_,_,_,_,_⟩:=frz13 BK260.out;go_wp2;go_ret;exact ⟨by rfl,HB.out⟩
      ·rw [if_neg c18] at H;have c18b0 : (a0_4 == 3) = false:=zR.mpr c18;have c18b1 : (a0_4 != 3) = true:=yF.mpr c18;obtain rfl:=zH H;have hcz22_:=cells7 BK260.out;obtain ⟨hfz22_0,hfz22_1,hfz22_2,hfz22_3,hfz22_4,hfz22_5,hfz22_6,_,_,_,_,_,_⟩:=frz13 BK260.out;go_wp2;go_ret;exact ⟨by rfl,HB.out⟩
end Go.Proofs.YtiminjibcafkaaaGreatDoor.X
