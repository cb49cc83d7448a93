-- MADE BY wip/prx.py (the kit's printer, with contracts proved by hand). Not trusted: Lean checks it.
import Derived.Test.YtiminjibcafkaaaGreatDoorTBJ5
import Derived.Test.YtiminjibcafkaaaGreatDoorTBJ4
import Derived.Test.YtiminjibcafkaaaGreatDoorTBX5
import Derived.Test.YtiminjibcafkaaaGreatDoorTBJ6
namespace Go.Proofs.YtiminjibcafkaaaGreatDoor.X
open Go.RowKit Go.Proofs.YtiminjibcafkaaaGreatDoorW.PrintWords Go.Proofs.YtiminjibcafkaaaGreatDoorW.PrintLast Go.Proofs.YtiminjibcafkaaaGreatDoorW.PrintMore
attribute [local go_sem] max2_int min2_int max_two min_two max_three min_three max_four min_four   -- for this text's walks alone
set_option linter.unusedVariables false
set_option linter.unusedSimpArgs false
/-! ### replica_Get: function 29 -/
def replica_Get.f (a0_0 : Int) (a0_1 : Int) (a0_2 : Int) (a0_3 : Int) (l0_4 : List (S67)) (l0_5 : List (S62)) (a0_6 : Bool) (a0_7 : Int) (a0_8 : Int) (a0_9 : Int) (a0_10 : Int) (l0_11 : List (S67)) (a0_12 : Int) (a1 : Int) : Option (Int × Option Int):=(item_Find.f l0_5 a1).bind fun bt123=>(if bt123.2.2.2.2.2.2.2 = true then (if bt123.2.2.2.2.1 = 1 then (some (bt123.2.2.2.2.2.2.1,none)) else (some (0,some 8))) else (some (0,some 8)))
set_option maxHeartbeats 8000000 in
set_option maxRecDepth 100000 in
theorem replica_Get.calls (a0_0 : Int) (a0_1 : Int) (a0_2 : Int) (a0_3 : Int) (A0_4 : Option Addr) (c0_4 : Nat) (l0_4 : List (S67)) (A0_5 : Option Addr) (c0_5 : Nat) (l0_5 : List (S62)) (a0_6 : Bool) (a0_7 : Int) (a0_8 : Int) (a0_9 : Int) (a0_10 : Int) (A0_11 : Option Addr) (c0_11 : Nat) (l0_11 : List (S67)) (a0_12 : Int) (a1 : Int) (r1 : Int) (r2 : Option Int) (w : World) (hr0_4 : Kd.C k67 w A0_4 l0_4.length l0_4) (hc0_4 : l0_4.length ≤ c0_4) (hr0_5 : Kd.C k62 w A0_5 l0_5.length l0_5) (hc0_5 : l0_5.length ≤ c0_5) (hr0_11 : Kd.C k67 w A0_11 l0_11.length l0_11) (hc0_11 : l0_11.length ≤ c0_11) (h : replica_Get.f a0_0 a0_1 a0_2 a0_3 l0_4 l0_5 a0_6 a0_7 a0_8 a0_9 a0_10 l0_11 a0_12 a1 = some (r1,r2)) :
 Calls Tryz.prog 29 #[.agg #[.int .u8 a0_0,.int .u8 a0_1,.int .u32 a0_2,.int .u32 a0_3,.slice A0_4 l0_4.length c0_4,.slice A0_5 l0_5.length c0_5,.bool a0_6,.int .u32 a0_7,.int .u8 a0_8,.int .u8 a0_9,.int .u32 a0_10,.slice A0_11 l0_11.length c0_11,.int .u32 a0_12],.int .u8 a1] w fun e w'=>e = .returned (.tuple #[.int .u32 r1,errW r2]) ∧ Below w.heap.size w w':=by
 have hu28:=Tryz.underlying28
 have hu62:=Tryz.underlying62
 have hu35:=Tryz.underlying35
 have hu70:=Tryz.underlying70
 have HR0_4:=Aside0.mk hr0_4
 have HC0_4:=Aside0.mk hc0_4
 clear hr0_4 hc0_4
 have HR0_5:=Aside0.mk hr0_5
 have HC0_5:=Aside0.mk hc0_5
 clear hr0_5 hc0_5
 have HR0_11:=Aside0.mk hr0_11
 have HC0_11:=Aside0.mk hc0_11
 clear hr0_11 hc0_11
 have HB:=Aside0.mk (Below.refl w.heap.size w)
 have H : ((item_Find.f l0_5 a1).bind fun bt123=>(if bt123.2.2.2.2.2.2.2 = true then (if bt123.2.2.2.2.1 = 1 then (some (bt123.2.2.2.2.2.2.1,none)) else (some (0,some 8))) else (some (0,some 8)))) = some (r1,r2):=h
 clear h
 replace H:=Option.bind_eq_some_iff.mp H
 obtain ⟨⟨t123,t124,t125,t126,t127,t128,t129,t130⟩,A30,H⟩:=H
 have A3:=Aside0.mk A30
 clear A30
 by_cases c4 : t130 = true
 ·subst c4
  rw [if_pos rfl] at H
  by_cases c5 : t127 = 1
  ·rw [if_pos c5] at H
   have c5b0 : (t127 == 1) = true:=beq_iff_eq.mpr c5
   have c5b1 : (t127 != 1) = false:=bne_eq_false_iff_eq.mpr c5
   clear c5
   simp only [Option.some.injEq,Prod.mk.injEq] at H
   obtain ⟨rfl,rfl⟩:=H
   go_enter Tryz.func29,Tryz.ntmps29
   go_wp2_with (first | ((with_reducible refine gate_dst (N:=2) rfl ?_);refine box_event ?hg (N:=2) ?hd (cs:=#[.int .u8 a0_0,.int .u8 a0_1,.int .u32 a0_2,.int .u32 a0_3,.slice A0_4 l0_4.length c0_4,.slice A0_5 l0_5.length c0_5,.bool a0_6,.int .u32 a0_7,.int .u8 a0_8,.int .u8 a0_9,.int .u32 a0_10,.slice A0_11 l0_11.length c0_11,.int .u32 a0_12]) (t:=28) ?hr ?_;(case hd=>rfl);(case hg=>rfl);(case hr=>(go_simp;done));intro gb122 hg w6 hbox hb;have n0_:=Aside0.mk (below_step (by repeat ((with_reducible first | exact HB.out))) hb);have n1_:=Aside0.mk (hbox);have n2_:=Aside0.mk ((by rw [hg];exact (below_size (by repeat ((with_reducible first | exact HB.out)))) : w.heap.size ≤ gb122));have n3_:=Aside0.mk ((by rw [hg];exact (below_size (by repeat ((with_reducible first | exact HB.out)))) : w.heap.size ≤ gb122));clear HB;have HB:=n0_;have BK122:=n1_;have GW122:=n2_;have GE122:=n3_;clear n0_ n1_ n2_ n3_ hb hbox hg;obtain ⟨hcz7_0,hcz7_1,hcz7_2,hcz7_3,hcz7_4,hcz7_5,hcz7_6,hcz7_7,hcz7_8,hcz7_9,hcz7_10,hcz7_11,hcz7_12⟩:=cells13 BK122.out;obtain ⟨hfz7_0,hfz7_1,hfz7_2,hfz7_3,hfz7_4,hfz7_5,hfz7_6,hfz7_7,hfz7_8,hfz7_9,hfz7_10,hfz7_11,hfz7_12⟩:=frz13 BK122.out) | ((with_reducible refine gate_callee (f:=70) rfl ?_);refine goesL_ (some 12) rfl rfl Tryz.func70 (by kernel_rfl) rfl #[.slice A0_5 l0_5.length c0_5,.int .u8 a1] rfl (by (try simp only [List.map_toArray,List.map_cons,List.map_nil]);first | rfl) ?_;(with_reducible refine (item_Find.calls _ _ l0_5 a1 t123 t124 t125 t126 t127 t128 t129 true _ ?side1 ?side2 A3.out).mono ?_);(case side1=>repeat (first | exact (Kd.C_below HR0_5.out HB.out)));(case side2=>exact HC0_5.out);rintro e w8 ⟨rfl,hb⟩;refine ⟨_,rfl,?_⟩;replace BK122:=Aside0.mk (blk_below BK122.out hb);replace HB:=Aside0.mk (below_step (by repeat ((with_reducible first | exact HB.out))) hb);(try clear hb)) | ((with_reducible refine gate_dst (N:=6) rfl ?_);refine box_event ?hg (N:=6) ?hd (cs:=#[.int .u8 0,.int .u8 0,.int .u32 0,.int .u32 0,.int .i64 0,.int .u8 0,.int .u32 0]) (t:=62) ?hr ?_;(case hd=>rfl);(case hg=>rfl);(case hr=>(go_simp;done));intro gb131 hg w9 hbox hb;have n0_:=Aside0.mk (blk_below BK122.out hb);have n1_:=Aside0.mk (below_step (by repeat ((with_reducible first | exact HB.out))) hb);have n2_:=Aside0.mk (hbox);have n3_:=Aside0.mk ((by rw [hg];exact (below_size (by repeat ((with_reducible first | exact HB.out)))) : w.heap.size ≤ gb131));have n4_:=Aside0.mk ((by rw [hg];exact (below_size (by repeat ((with_reducible first | exact HB.out)))) : w.heap.size ≤ gb131));have n5_:=Aside0.mk ((by rw [hg];exact Nat.ne_of_lt (blk_lt (g:=gb122) (o:=.cells #[.int .u8 a0_0,.int .u8 a0_1,.int .u32 a0_2,.int .u32 a0_3,.slice A0_4 l0_4.length c0_4,.slice A0_5 l0_5.length c0_5,.bool a0_6,.int .u32 a0_7,.int .u8 a0_8,.int .u8 a0_9,.int .u32 a0_10,.slice A0_11 l0_11.length c0_11,.int .u32 a0_12] 28 (0,0)) BK122.out) : gb122 ≠ gb131));have n6_:=Aside0.mk ((by rw [hg];exact Nat.ne_of_gt (blk_lt (g:=gb122) (o:=.cells #[.int .u8 a0_0,.int .u8 a0_1,.int .u32 a0_2,.int .u32 a0_3,.slice A0_4 l0_4.length c0_4,.slice A0_5 l0_5.length c0_5,.bool a0_6,.int .u32 a0_7,.int .u8 a0_8,.int .u8 a0_9,.int .u32 a0_10,.slice A0_11 l0_11.length c0_11,.int .u32 a0_12] 28 (0,0)) BK122.out) : gb131 ≠ gb122));clear BK122 HB;have BK122:=n0_;have HB:=n1_;have BK131:=n2_;have GW131:=n3_;have GE131:=n4_;have NB122_131:=n5_;have NB131_122:=n6_;clear n0_ n1_ n2_ n3_ n4_ n5_ n6_ hb hbox hg;have hnb10:=NB131_122.out;have hnc10:=NB122_131.out;obtain ⟨hcz11_0,hcz11_1,hcz11_2,hcz11_3,hcz11_4,hcz11_5,hcz11_6⟩:=cells7 BK131.out;obtain ⟨hfz11_0,hfz11_1,hfz11_2,hfz11_3,hfz11_4,hfz11_5,hfz11_6,_,_,_,_,_,_⟩:=frz13 BK131.out))
   go_ret2
   exact ⟨by first | rfl,by repeat ((with_reducible first | exact HB.out | refine below_set ?_ GE131.out))⟩
  ·rw [if_neg c5] at H
   have c5b0 : (t127 == 1) = false:=beq_eq_false_iff_ne.mpr c5
   have c5b1 : (t127 != 1) = true:=bne_iff_ne.mpr c5
   simp only [Option.some.injEq,Prod.mk.injEq] at H
   obtain ⟨rfl,rfl⟩:=H
   go_enter Tryz.func29,Tryz.ntmps29
   go_wp2_with (first | ((with_reducible refine gate_dst (N:=2) rfl ?_);refine box_event ?hg (N:=2) ?hd (cs:=#[.int .u8 a0_0,.int .u8 a0_1,.int .u32 a0_2,.int .u32 a0_3,.slice A0_4 l0_4.length c0_4,.slice A0_5 l0_5.length c0_5,.bool a0_6,.int .u32 a0_7,.int .u8 a0_8,.int .u8 a0_9,.int .u32 a0_10,.slice A0_11 l0_11.length c0_11,.int .u32 a0_12]) (t:=28) ?hr ?_;(case hd=>rfl);(case hg=>rfl);(case hr=>(go_simp;done));intro gb122 hg w12 hbox hb;have n0_:=Aside0.mk (below_step (by repeat ((with_reducible first | exact HB.out))) hb);have n1_:=Aside0.mk (hbox);have n2_:=Aside0.mk ((by rw [hg];exact (below_size (by repeat ((with_reducible first | exact HB.out)))) : w.heap.size ≤ gb122));have n3_:=Aside0.mk ((by rw [hg];exact (below_size (by repeat ((with_reducible first | exact HB.out)))) : w.heap.size ≤ gb122));clear HB;have HB:=n0_;have BK122:=n1_;have GW122:=n2_;have GE122:=n3_;clear n0_ n1_ n2_ n3_ hb hbox hg;obtain ⟨hcz13_0,hcz13_1,hcz13_2,hcz13_3,hcz13_4,hcz13_5,hcz13_6,hcz13_7,hcz13_8,hcz13_9,hcz13_10,hcz13_11,hcz13_12⟩:=cells13 BK122.out;obtain ⟨hfz13_0,hfz13_1,hfz13_2,hfz13_3,hfz13_4,hfz13_5,hfz13_6,hfz13_7,hfz13_8,hfz13_9,hfz13_10,hfz13_11,hfz13_12⟩:=frz13 BK122.out) | ((with_reducible refine gate_callee (f:=70) rfl ?_);refine goesL_ (some 12) rfl rfl Tryz.func70 (by kernel_rfl) rfl #[.slice A0_5 l0_5.length c0_5,.int .u8 a1] rfl (by (try simp only [List.map_toArray,List.map_cons,List.map_nil]);first | rfl) ?_;(with_reducible refine (item_Find.calls _ _ l0_5 a1 t123 t124 t125 t126 t127 t128 t129 true _ ?side1 ?side2 A3.out).mono ?_);(case side1=>repeat (first | exact (Kd.C_below HR0_5.out HB.out)));(case side2=>exact HC0_5.out);rintro e w14 ⟨rfl,hb⟩;refine ⟨_,rfl,?_⟩;replace BK122:=Aside0.mk (blk_below BK122.out hb);replace HB:=Aside0.mk (below_step (by repeat ((with_reducible first | exact HB.out))) hb);(try clear hb)) | ((with_reducible refine gate_dst (N:=6) rfl ?_);refine box_event ?hg (N:=6) ?hd (cs:=#[.int .u8 0,.int .u8 0,.int .u32 0,.int .u32 0,.int .i64 0,.int .u8 0,.int .u32 0]) (t:=62) ?hr ?_;(case hd=>rfl);(case hg=>rfl);(case hr=>(go_simp;done));intro gb131 hg w15 hbox hb;have n0_:=Aside0.mk (blk_below BK122.out hb);have n1_:=Aside0.mk (below_step (by repeat ((with_reducible first | exact HB.out))) hb);have n2_:=Aside0.mk (hbox);have n3_:=Aside0.mk ((by rw [hg];exact (below_size (by repeat ((with_reducible first | exact HB.out)))) : w.heap.size ≤ gb131));have n4_:=Aside0.mk ((by rw [hg];exact (below_size (by repeat ((with_reducible first | exact HB.out)))) : w.heap.size ≤ gb131));have n5_:=Aside0.mk ((by rw [hg];exact Nat.ne_of_lt (blk_lt (g:=gb122) (o:=.cells #[.int .u8 a0_0,.int .u8 a0_1,.int .u32 a0_2,.int .u32 a0_3,.slice A0_4 l0_4.length c0_4,.slice A0_5 l0_5.length c0_5,.bool a0_6,.int .u32 a0_7,.int .u8 a0_8,.int .u8 a0_9,.int .u32 a0_10,.slice A0_11 l0_11.length c0_11,.int .u32 a0_12] 28 (0,0)) BK122.out) : gb122 ≠ gb131));have n6_:=Aside0.mk ((by rw [hg];exact Nat.ne_of_gt (blk_lt (g:=gb122) (o:=.cells #[.int .u8 a0_0,.int .u8 a0_1,.int .u32 a0_2,.int .u32 a0_3,.slice A0_4 l0_4.length c0_4,.slice A0_5 l0_5.length c0_5,.bool a0_6,.int .u32 a0_7,.int .u8 a0_8,.int .u8 a0_9,.int .u32 a0_10,.slice A0_11 l0_11.length c0_11,.int .u32 a0_12] 28 (0,0)) BK122.out) : gb131 ≠ gb122));clear BK122 HB;have BK122:=n0_;have HB:=n1_;have BK131:=n2_;have GW131:=n3_;have GE131:=n4_;have NB122_131:=n5_;have NB131_122:=n6_;clear n0_ n1_ n2_ n3_ n4_ n5_ n6_ hb hbox hg;have hnb16:=NB131_122.out;have hnc16:=NB122_131.out;obtain ⟨hcz17_0,hcz17_1,hcz17_2,hcz17_3,hcz17_4,hcz17_5,hcz17_6⟩:=cells7 BK131.out;obtain ⟨hfz17_0,hfz17_1,hfz17_2,hfz17_3,hfz17_4,hfz17_5,hfz17_6,_,_,_,_,_,_⟩:=frz13 BK131.out))
   go_ret2
   exact ⟨by first | rfl,by repeat ((with_reducible first | exact HB.out | refine below_set ?_ GE131.out))⟩
 ·replace c4:=Bool.eq_false_iff.mpr c4
  subst c4
  rw [if_neg (show ¬ (false = true) by decide)] at H
  simp only [Option.some.injEq,Prod.mk.injEq] at H
  obtain ⟨rfl,rfl⟩:=H
  go_enter Tryz.func29,Tryz.ntmps29
  go_wp2_with (first | ((with_reducible refine gate_dst (N:=2) rfl ?_);refine box_event ?hg (N:=2) ?hd (cs:=#[.int .u8 a0_0,.int .u8 a0_1,.int .u32 a0_2,.int .u32 a0_3,.slice A0_4 l0_4.length c0_4,.slice A0_5 l0_5.length c0_5,.bool a0_6,.int .u32 a0_7,.int .u8 a0_8,.int .u8 a0_9,.int .u32 a0_10,.slice A0_11 l0_11.length c0_11,.int .u32 a0_12]) (t:=28) ?hr ?_;(case hd=>rfl);(case hg=>rfl);(case hr=>(go_simp;done));intro gb122 hg w18 hbox hb;have n0_:=Aside0.mk (below_step (by repeat ((with_reducible first | exact HB.out))) hb);have n1_:=Aside0.mk (hbox);have n2_:=Aside0.mk ((by rw [hg];exact (below_size (by repeat ((with_reducible first | exact HB.out)))) : w.heap.size ≤ gb122));have n3_:=Aside0.mk ((by rw [hg];exact (below_size (by repeat ((with_reducible first | exact HB.out)))) : w.heap.size ≤ gb122));clear HB;have HB:=n0_;have BK122:=n1_;have GW122:=n2_;have GE122:=n3_;clear n0_ n1_ n2_ n3_ hb hbox hg;obtain ⟨hcz19_0,hcz19_1,hcz19_2,hcz19_3,hcz19_4,hcz19_5,hcz19_6,hcz19_7,hcz19_8,hcz19_9,hcz19_10,hcz19_11,hcz19_12⟩:=cells13 BK122.out;obtain ⟨hfz19_0,hfz19_1,hfz19_2,hfz19_3,hfz19_4,hfz19_5,hfz19_6,hfz19_7,hfz19_8,hfz19_9,hfz19_10,hfz19_11,hfz19_12⟩:=frz13 BK122.out) | ((with_reducible refine gate_callee (f:=70) rfl ?_);refine goesL_ (some 12) rfl rfl Tryz.func70 (by kernel_rfl) rfl #[.slice A0_5 l0_5.length c0_5,.int .u8 a1] rfl (by (try simp only [List.map_toArray,List.map_cons,List.map_nil]);first | rfl) ?_;(with_reducible refine (item_Find.calls _ _ l0_5 a1 t123 t124 t125 t126 t127 t128 t129 false _ ?side1 ?side2 A3.out).mono ?_);(case side1=>repeat (first | exact (Kd.C_below HR0_5.out HB.out)));(case side2=>exact HC0_5.out);rintro e w20 ⟨rfl,hb⟩;refine ⟨_,rfl,?_⟩;replace BK122:=Aside0.mk (blk_below BK122.out hb);replace HB:=Aside0.mk (below_step (by repeat ((with_reducible first | exact HB.out))) hb);(try clear hb)) | ((with_reducible refine gate_dst (N:=6) rfl ?_);refine box_event ?hg (N:=6) ?hd (cs:=#[.int .u8 0,.int .u8 0,.int .u32 0,.int .u32 0,.int .i64 0,.int .u8 0,.int .u32 0]) (t:=62) ?hr ?_;(case hd=>rfl);(case hg=>rfl);(case hr=>(go_simp;done));intro gb131 hg w21 hbox hb;have n0_:=Aside0.mk (blk_below BK122.out hb);have n1_:=Aside0.mk (below_step (by repeat ((with_reducible first | exact HB.out))) hb);have n2_:=Aside0.mk (hbox);have n3_:=Aside0.mk ((by rw [hg];exact (below_size (by repeat ((with_reducible first | exact HB.out)))) : w.heap.size ≤ gb131));have n4_:=Aside0.mk ((by rw [hg];exact (below_size (by repeat ((with_reducible first | exact HB.out)))) : w.heap.size ≤ gb131));have n5_:=Aside0.mk ((by rw [hg];exact Nat.ne_of_lt (blk_lt (g:=gb122) (o:=.cells #[.int .u8 a0_0,.int .u8 a0_1,.int .u32 a0_2,.int .u32 a0_3,.slice A0_4 l0_4.length c0_4,.slice A0_5 l0_5.length c0_5,.bool a0_6,.int .u32 a0_7,.int .u8 a0_8,.int .u8 a0_9,.int .u32 a0_10,.slice A0_11 l0_11.length c0_11,.int .u32 a0_12] 28 (0,0)) BK122.out) : gb122 ≠ gb131));have n6_:=Aside0.mk ((by rw [hg];exact Nat.ne_of_gt (blk_lt (g:=gb122) (o:=.cells #[.int .u8 a0_0,.int .u8 a0_1,.int .u32 a0_2,.int .u32 a0_3,.slice A0_4 l0_4.length c0_4,.slice A0_5 l0_5.length c0_5,.bool a0_6,.int .u32 a0_7,.int .u8 a0_8,.int .u8 a0_9,.int .u32 a0_10,.slice A0_11 l0_11.length c0_11,.int .u32 a0_12] 28 (0,0)) BK122.out) : gb131 ≠ gb122));clear BK122 HB;have BK122:=n0_;have HB:=n1_;have BK131:=n2_;have GW131:=n3_;have GE131:=n4_;have NB122_131:=n5_;have NB131_122:=n6_;clear n0_ n1_ n2_ n3_ n4_ n5_ n6_ hb hbox hg;have hnb22:=NB131_122.out;have hnc22:=NB122_131.out;obtain ⟨hcz23_0,hcz23_1,hcz23_2,hcz23_3,hcz23_4,hcz23_5,hcz23_6⟩:=cells7 BK131.out;obtain ⟨hfz23_0,hfz23_1,hfz23_2,hfz23_3,hfz23_4,hfz23_5,hfz23_6,_,_,_,_,_,_⟩:=frz13 BK131.out))
  go_ret2
  exact ⟨by first | rfl,by repeat ((with_reducible first | exact HB.out | refine below_set ?_ GE131.out))⟩
/-! ### note_pull: function 48 -/
def note_pull.f (k : Nat) (a0_0 : Int) (a0_1 : Int) (a0_2 : Int) (a0_3 : Int) (a0_4 : Int) (a0_5 : Int) (l0_6 : List (S67)) (a0_7 : Int) (l0_8 : List (S62)) (a0_9 : Int) (a0_10 : Bool) (l0_11 : List (S67)) : Option (Bool):=(know_Right.f k l0_6).bind fun t133=>(if t133 = true then (if a0_7 = 0 then (if (l0_8.length : Int) = 0 then (if a0_9 = 0 then (if a0_10 = true then (some false) else (some ((l0_11.length : Int) == 0))) else (some false)) else (some false)) else (some false)) else (some false))
set_option maxHeartbeats 8000000 in
set_option maxRecDepth 100000 in
theorem note_pull.calls (k : Nat) (a0_0 : Int) (a0_1 : Int) (a0_2 : Int) (a0_3 : Int) (a0_4 : Int) (a0_5 : Int) (A0_6 : Option Addr) (c0_6 : Nat) (l0_6 : List (S67)) (a0_7 : Int) (A0_8 : Option Addr) (c0_8 : Nat) (l0_8 : List (S62)) (a0_9 : Int) (a0_10 : Bool) (A0_11 : Option Addr) (c0_11 : Nat) (l0_11 : List (S67)) (r : Bool) (w : World) (hr0_6 : Kd.C k67 w A0_6 l0_6.length l0_6) (hc0_6 : l0_6.length ≤ c0_6) (hr0_8 : Kd.C k62 w A0_8 l0_8.length l0_8) (hc0_8 : l0_8.length ≤ c0_8) (hr0_11 : Kd.C k67 w A0_11 l0_11.length l0_11) (hc0_11 : l0_11.length ≤ c0_11) (h : note_pull.f k a0_0 a0_1 a0_2 a0_3 a0_4 a0_5 l0_6 a0_7 l0_8 a0_9 a0_10 l0_11 = some r) :
 Calls Tryz.prog 48 #[.agg #[.int .i64 a0_0,.int .u8 a0_1,.int .u8 a0_2,.int .u32 a0_3,.int .u8 a0_4,.int .u8 a0_5,.slice A0_6 l0_6.length c0_6,.int .u32 a0_7,.slice A0_8 l0_8.length c0_8,.int .u8 a0_9,.bool a0_10,.slice A0_11 l0_11.length c0_11]] w fun e w'=>e = .returned (.bool r) ∧ Below w.heap.size w w':=by
 have hu30:=Tryz.underlying30
 have HR0_6':=Aside0.mk hr0_6
 have HC0_6':=Aside0.mk hc0_6
 have HR0_8':=Aside0.mk hr0_8
 have HC0_8':=Aside0.mk hc0_8
 have HR0_11':=Aside0.mk hr0_11
 have HC0_11':=Aside0.mk hc0_11
 clear hr0_6 hc0_6 hr0_8 hc0_8 hr0_11 hc0_11
 have H:=Aside0.mk h
 clear h
 go_enter Tryz.func48,Tryz.ntmps48
 go_wp2_with ((go_at_call 50;rcases hv0 : know_Right.f k l0_6 with _ | v_;(exfalso;have h_:=H.out;((simp only [note_pull.f,hv0,Option.bind_none] at h_;repeat' (split at h_))<;>(simp at h_;done)));(refine (know_Right.calls k _ _ l0_6 v_ _ (Kd.C_below HR0_6'.out (by repeat (first | exact Below.refl _ _ | refine Below.alloc ?_ (by first | exact Nat.le_refl _) _))) HC0_6'.out hv0).mono ?_);rintro e w1_ ⟨rfl,hx_⟩;have hx:=hx_;have B0_:=blk_below (blk_new _ _) hx;obtain ⟨u0_0,u0_1,u0_2,u0_3,u0_4,u0_5,u0_6,u0_7,u0_8,u0_9,u0_10,u0_11⟩:=cells12 B0_;cases v_))
 all_goals (try go_ret)
 all_goals (have h:=H.out;clear H;simp only [note_pull.f] at h)
 all_goals (refine ⟨?_,by (refine below_step ?_ hx;(repeat (first | exact Below.refl _ _ | refine Below.alloc ?_ (by first | exact Nat.le_refl _) _));done)⟩)
 all_goals ((try simp only [hv0,Option.bind_some] at h);(simp [*] at h;simp [*];done))
end Go.Proofs.YtiminjibcafkaaaGreatDoor.X
