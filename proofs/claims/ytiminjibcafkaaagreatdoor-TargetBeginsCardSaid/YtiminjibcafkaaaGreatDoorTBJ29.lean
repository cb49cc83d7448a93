/- Texts that this claim's law comes to, joined by wip/slim.py: X30, Xquit. -/
import Derived.Test.YtiminjibcafkaaaGreatDoorTBJ4
import Derived.Test.YtiminjibcafkaaaGreatDoorTBXhreplicaRight
import Derived.Test.YtiminjibcafkaaaGreatDoorTBX12
import Derived.Test.YtiminjibcafkaaaGreatDoorTBJ8
section
-- MADE BY wip/prx.py (the kit's printer, with contracts proved by hand). Not trusted: Lean checks it.
namespace Go.Proofs.YtiminjibcafkaaaGreatDoor.X
open Go.RowKit Go.Proofs.YtiminjibcafkaaaGreatDoorW.PrintWords Go.Proofs.YtiminjibcafkaaaGreatDoorW.PrintLast Go.Proofs.YtiminjibcafkaaaGreatDoorW.PrintMore
attribute [local go_sem] max2_int min2_int max_two min_two max_three min_three max_four min_four   -- for this text's walks alone
set_option linter.unusedVariables false
set_option linter.unusedSimpArgs false
/-! ### tidingsref02_Find: function 27 -/
def tidingsref02_Find.l0 : Nat → List (S62) → Int → Int → Option (Int × Int × Int × Int × Int × Int × Int × Bool)
 | 0,_,_,_=>none
 | k + 1,x0,x1,x6=>if x6 < (x0.length : Int) then (if 0 ≤ x6 then (if ((rd_T62 x0 x6).f0) = x1 then (some ((rd_T62 x0 x6).f0,(rd_T62 x0 x6).f1.f0,(rd_T62 x0 x6).f1.f1,(rd_T62 x0 x6).f1.f2,(rd_T62 x0 x6).f2,(rd_T62 x0 x6).f3,(rd_T62 x0 x6).f4,true)) else (tidingsref02_Find.l0 k x0 x1 (wrap64 (x6 + 1)))) else (none)) else (some (0,0,0,0,0,0,0,false))
def tidingsref02_Find.f (k : Nat) (l0 : List (S62)) (a1 : Int) : Option (Int × Int × Int × Int × Int × Int × Int × Bool):=tidingsref02_Find.l0 k l0 a1 0
/-! ### source_check: function 65 -/
def source_check.f (k : Nat) (a0_0 : Int) (a0_1 : Int) (a0_2 : Int) (a0_3 : Int) (l0_4 : List (S67)) (l0_5 : List (S62)) (a0_6 : Bool) (a0_7 : Int) (a0_8 : Int) (a0_9 : Int) (a0_10 : Int) (l0_11 : List (S67)) (a0_12 : Int) (a1_0 : Int) (a1_1 : Int) (a1_2 : Int) (a1_3 : Int) (a1_4 : Int) (a1_5 : Int) (l1_6 : List (S67)) (a1_7 : Int) (l1_8 : List (S62)) (a1_9 : Int) (a1_10 : Bool) (l1_11 : List (S67)) : Option (Option Int):=(replica_Right.f k a0_0 a0_1 a0_2 a0_3 l0_4 l0_5 a0_6 a0_7 a0_8 a0_9 a0_10 l0_11 a0_12).bind fun t437=>(if t437 = true then ((note_Right.f k a1_0 a1_1 a1_2 a1_3 a1_4 a1_5 l1_6 a1_7 l1_8 a1_9 a1_10 l1_11).bind fun t438=>(if t438 = true then (if a1_0 = 1 then (if a1_2 = a0_0 then (some none) else (some (some 4))) else (some (some 4))) else (some (some 3)))) else (some (some 9)))
end Go.Proofs.YtiminjibcafkaaaGreatDoor.X
end
section
/- target.Quit, both ways. -/
namespace Go.Proofs.YtiminjibcafkaaaGreatDoor.X
open Go.RowKit Go.Proofs.YtiminjibcafkaaaGreatDoorW.PrintWords Go.Proofs.YtiminjibcafkaaaGreatDoorW.PrintLast Go.Proofs.YtiminjibcafkaaaGreatDoorW.PrintMore
set_option linter.unusedVariables false
set_option linter.unusedSimpArgs false
set_option maxRecDepth 100000 in
set_option maxHeartbeats 8000000 in
theorem Quit_ok (k : Nat) (a0 a1 a2 a3 : Int) (l4 : List S67) (l5 : List S62) (a6 : Bool) (a7 a8 a9 a10 : Int) (l11 : List S67) (a12 : Int) (A4 A5 A11 : Option Addr) (c4 c5 c11 : Nat) (w : World) (r4 : Kd.C k67 w A4 l4.length l4) (i4 : l4.length ≤ c4) (r5 : Kd.C k62 w A5 l5.length l5) (i5 : l5.length ≤ c5) (r11 : Kd.C k67 w A11 l11.length l11) (i11 : l11.length ≤ c11) (hon : target_on.f k a0 a1 a2 a3 l4 l5 a6 a7 a8 a9 a10 l11 a12 = some none) : Calls Tryz.prog 19 #[.agg #[.int .u8 a0,.int .u8 a1,.int .u32 a2,.int .u32 a3,.slice A4 l4.length c4,.slice A5 l5.length c5,.bool a6,.int .u32 a7,.int .u8 a8,.int .u8 a9,.int .u32 a10,.slice A11 l11.length c11,.int .u32 a12]] w fun e w'=>e = .returned (.tuple #[.agg #[.int .u8 a0,.int .u8 a1,.int .u32 a2,.int .u32 a3,.slice A4 l4.length c4,.slice A5 l5.length c5,.bool false,.int .u32 0,.int .u8 0,.int .u8 0,.int .u32 0,.slice none 0 0,.int .u32 a12],errW none]) ∧ Below w.heap.size w w':=by
 have huR:=Tryz.underlying28
 have huN:=Tryz.underlying30
 have huS:=Tryz.underlying26
 have hu35:=Tryz.underlying35
 have eN:=errW_none
 have eS:=errW_some
 have R4':=Aside0.mk r4
 have I4':=Aside0.mk i4
 have R5':=Aside0.mk r5
 have I5':=Aside0.mk i5
 have R11':=Aside0.mk r11
 have I11':=Aside0.mk i11
 have HON':=Aside0.mk hon
 clear r4 i4 r5 i5 r11 i11 hon
 go_enter Tryz.func19,Tryz.ntmps19
 go_wp2_with fail
 generalize hW : World.alloc (World.alloc w _) _ = w0
 have Br0:=Aside0.mk (al2_0 hW)
 have Bo0:=Aside0.mk (al2_1 hW)
 have HB0:=Aside0.mk (al2B hW)
 clear hW
 have GG:=Aside0.mk (show w.heap.size + 2 ≤ w0.heap.size by have:=blk_lt Bo0.out;omega)
 have HG0:=Aside0.mk (Nat.le_refl w0.heap.size)
 obtain ⟨r_0,r_1,r_2,r_3,r_4,r_5,r_6,r_7,r_8,r_9,r_10,r_11,r_12⟩:=cells13 Br0.out
 go_wp2_with fail
 refine (target_on.calls k a0 a1 a2 a3 _ _ l4 _ _ l5 a6 a7 a8 a9 a10 _ _ l11 a12 none _ (Kd.C_below R4'.out HB0.out) I4'.out (Kd.C_below R5'.out HB0.out) I5'.out (Kd.C_below R11'.out HB0.out) I11'.out HON'.out).mono ?_
 rintro ev w1 ⟨rfl,hx⟩
 have Br1:=Aside0.mk (blk_below Br0.out hx)
 have Bo1:=Aside0.mk (blk_below Bo0.out hx)
 have HB1:=Aside0.mk (below_step HB0.out hx)
 have HG1:=Aside0.mk (Nat.le_trans HG0.out hx.size)
 clear r_0 r_1 r_2 r_3 r_4 r_5 r_6 r_7 r_8 r_9 r_10 r_11 r_12
 clear hx HB0 HG0 Br0 Bo0
 obtain ⟨r_0,r_1,r_2,r_3,r_4,r_5,r_6,r_7,r_8,r_9,r_10,r_11,r_12⟩:=cells13 Br1.out
 obtain ⟨o_0,o_1,o_2,o_3,o_4,o_5,o_6,o_7,o_8,o_9,o_10,o_11,o_12⟩:=cells13 Bo1.out
 go_wp2_with fail
 refine (off_is a0 a1 a2 a3 l4 l5 a6 a7 a8 a9 a10 l11 a12 A4 A5 A11 c4 c5 c11 _).mono ?_
 rintro ev w2 ⟨rfl,hx⟩
 have Br2:=Aside0.mk (blk_below Br1.out hx)
 have Bo2:=Aside0.mk (blk_below Bo1.out hx)
 have HB2:=Aside0.mk (below_step HB1.out hx)
 have HG2:=Aside0.mk (Nat.le_trans HG1.out hx.size)
 clear r_0 r_1 r_2 r_3 r_4 r_5 r_6 r_7 r_8 r_9 r_10 r_11 r_12 o_0 o_1 o_2 o_3 o_4 o_5 o_6 o_7 o_8 o_9 o_10 o_11 o_12
 clear hx HB1 HG1 Br1 Bo1
 obtain ⟨o_0,o_1,o_2,o_3,o_4,o_5,o_6,o_7,o_8,o_9,o_10,o_11,o_12⟩:=cells13 Bo2.out
 go_wp2_with (first | ((with_reducible refine gate_store (t:=28) (p:=2) rfl ?_);refine store_event (t:=28) (p:=2) (v:=?vo7_) (w1:=put_ w2 (w.heap.size + 1) 0 [.int .u8 a0,.int .u8 a1,.int .u32 a2,.int .u32 a3,.slice A4 l4.length c4,.slice A5 l5.length c5,.bool false,.int .u32 0,.int .u8 0,.int .u8 0,.int .u32 0,.slice none 0 0,.int .u32 a12]) ?hg ?ho ?hn ?hr ?_;(case ho=>rfl);(case hg=>rfl);(case hn=>rfl);(case hr=>obtain ⟨_,_,_,_,_,_,_,_,_,_,_,_,_⟩:=frz13 Bo2.out;go_simp;rfl);intro w3 hw;have Br3:=Aside0.mk (far_ hw (by omega) Br2.out);have Bo3:=Aside0.mk (own13_0_13 hw Bo2.out);have HB3:=Aside0.mk (bel_ hw (by omega) HB2.out);have HG3:=Aside0.mk (siz_ hw HG2.out);clear hw HB2 HG2 Br2 Bo2 o_0 o_1 o_2 o_3 o_4 o_5 o_6 o_7 o_8 o_9 o_10 o_11 o_12;obtain ⟨r3_0,r3_1,r3_2,r3_3,r3_4,r3_5,r3_6,r3_7,r3_8,r3_9,r3_10,r3_11,r3_12⟩:=cells13 Br3.out;obtain ⟨o3_0,o3_1,o3_2,o3_3,o3_4,o3_5,o3_6,o3_7,o3_8,o3_9,o3_10,o3_11,o3_12⟩:=cells13 Bo3.out))
 refine bodyPost_ret (results_ct rfl _ _ (w.heap.size + 1) 28 #[.int .u8 a0,.int .u8 a1,.int .u32 a2,.int .u32 a3,.slice A4 l4.length c4,.slice A5 l5.length c5,.bool false,.int .u32 0,.int .u8 0,.int .u8 0,.int .u32 0,.slice none 0 0,.int .u32 a12] (0,0) _ rfl Bo3.out Tryz.underlying28 rfl (by kernel_rfl)) rfl ?_
 exact ⟨by first | rfl | rw [eN] | rw [eS],HB3.out⟩
set_option maxRecDepth 100000 in
set_option maxHeartbeats 8000000 in
theorem Quit_no (k : Nat) (a0 a1 a2 a3 : Int) (l4 : List S67) (l5 : List S62) (a6 : Bool) (a7 a8 a9 a10 : Int) (l11 : List S67) (a12 : Int) (A4 A5 A11 : Option Addr) (c4 c5 c11 : Nat) (w : World) (r4 : Kd.C k67 w A4 l4.length l4) (i4 : l4.length ≤ c4) (r5 : Kd.C k62 w A5 l5.length l5) (i5 : l5.length ≤ c5) (r11 : Kd.C k67 w A11 l11.length l11) (i11 : l11.length ≤ c11) (c : Int) (hon : target_on.f k a0 a1 a2 a3 l4 l5 a6 a7 a8 a9 a10 l11 a12 = some (some c)) : Calls Tryz.prog 19 #[.agg #[.int .u8 a0,.int .u8 a1,.int .u32 a2,.int .u32 a3,.slice A4 l4.length c4,.slice A5 l5.length c5,.bool a6,.int .u32 a7,.int .u8 a8,.int .u8 a9,.int .u32 a10,.slice A11 l11.length c11,.int .u32 a12]] w fun e w'=>e = .returned (.tuple #[.agg #[.int .u8 0,.int .u8 0,.int .u32 0,.int .u32 0,.slice none 0 0,.slice none 0 0,.bool false,.int .u32 0,.int .u8 0,.int .u8 0,.int .u32 0,.slice none 0 0,.int .u32 0],errW (some c)]) ∧ Below w.heap.size w w':=by
 have huR:=Tryz.underlying28
 have huN:=Tryz.underlying30
 have huS:=Tryz.underlying26
 have hu35:=Tryz.underlying35
 have eN:=errW_none
 have eS:=errW_some
 have R4':=Aside0.mk r4
 have I4':=Aside0.mk i4
 have R5':=Aside0.mk r5
 have I5':=Aside0.mk i5
 have R11':=Aside0.mk r11
 have I11':=Aside0.mk i11
 have HON':=Aside0.mk hon
 clear r4 i4 r5 i5 r11 i11 hon
 go_enter Tryz.func19,Tryz.ntmps19
 go_wp2_with fail
 generalize hW : World.alloc (World.alloc w _) _ = w0
 have Br0:=Aside0.mk (al2_0 hW)
 have Bo0:=Aside0.mk (al2_1 hW)
 have HB0:=Aside0.mk (al2B hW)
 clear hW
 have GG:=Aside0.mk (show w.heap.size + 2 ≤ w0.heap.size by have:=blk_lt Bo0.out;omega)
 have HG0:=Aside0.mk (Nat.le_refl w0.heap.size)
 obtain ⟨r_0,r_1,r_2,r_3,r_4,r_5,r_6,r_7,r_8,r_9,r_10,r_11,r_12⟩:=cells13 Br0.out
 go_wp2_with fail
 refine (target_on.calls k a0 a1 a2 a3 _ _ l4 _ _ l5 a6 a7 a8 a9 a10 _ _ l11 a12 (some c) _ (Kd.C_below R4'.out HB0.out) I4'.out (Kd.C_below R5'.out HB0.out) I5'.out (Kd.C_below R11'.out HB0.out) I11'.out HON'.out).mono ?_
 rintro ev w1 ⟨rfl,hx⟩
 have Br1:=Aside0.mk (blk_below Br0.out hx)
 have Bo1:=Aside0.mk (blk_below Bo0.out hx)
 have HB1:=Aside0.mk (below_step HB0.out hx)
 have HG1:=Aside0.mk (Nat.le_trans HG0.out hx.size)
 clear r_0 r_1 r_2 r_3 r_4 r_5 r_6 r_7 r_8 r_9 r_10 r_11 r_12
 clear hx HB0 HG0 Br0 Bo0
 obtain ⟨r_0,r_1,r_2,r_3,r_4,r_5,r_6,r_7,r_8,r_9,r_10,r_11,r_12⟩:=cells13 Br1.out
 obtain ⟨o_0,o_1,o_2,o_3,o_4,o_5,o_6,o_7,o_8,o_9,o_10,o_11,o_12⟩:=cells13 Bo1.out
 go_wp2_with (first | ((with_reducible refine gate_store (t:=28) (p:=2) rfl ?_);refine store_event (t:=28) (p:=2) (v:=?vo8_) (w1:=put_ w1 (w.heap.size + 1) 0 [.int .u8 0,.int .u8 0,.int .u32 0,.int .u32 0,.slice none 0 0,.slice none 0 0,.bool false,.int .u32 0,.int .u8 0,.int .u8 0,.int .u32 0,.slice none 0 0,.int .u32 0]) ?hg ?ho ?hn ?hr ?_;(case ho=>rfl);(case hg=>rfl);(case hn=>rfl);(case hr=>obtain ⟨_,_,_,_,_,_,_,_,_,_,_,_,_⟩:=frz13 Bo1.out;go_simp;rfl);intro w2 hw;have Br2:=Aside0.mk (far_ hw (by omega) Br1.out);have Bo2:=Aside0.mk (own13_0_13 hw Bo1.out);have HB2:=Aside0.mk (bel_ hw (by omega) HB1.out);have HG2:=Aside0.mk (siz_ hw HG1.out);clear hw HB1 HG1 Br1 Bo1 r_0 r_1 r_2 r_3 r_4 r_5 r_6 r_7 r_8 r_9 r_10 r_11 r_12 o_0 o_1 o_2 o_3 o_4 o_5 o_6 o_7 o_8 o_9 o_10 o_11 o_12;obtain ⟨r2_0,r2_1,r2_2,r2_3,r2_4,r2_5,r2_6,r2_7,r2_8,r2_9,r2_10,r2_11,r2_12⟩:=cells13 Br2.out;obtain ⟨o2_0,o2_1,o2_2,o2_3,o2_4,o2_5,o2_6,o2_7,o2_8,o2_9,o2_10,o2_11,o2_12⟩:=cells13 Bo2.out))
 refine bodyPost_ret (results_ct rfl _ _ (w.heap.size + 1) 28 #[.int .u8 0,.int .u8 0,.int .u32 0,.int .u32 0,.slice none 0 0,.slice none 0 0,.bool false,.int .u32 0,.int .u8 0,.int .u8 0,.int .u32 0,.slice none 0 0,.int .u32 0] (0,0) _ rfl Bo2.out Tryz.underlying28 rfl (by kernel_rfl)) rfl ?_
 exact ⟨by first | rfl | rw [eN] | rw [eS],HB2.out⟩
end Go.Proofs.YtiminjibcafkaaaGreatDoor.X
end
