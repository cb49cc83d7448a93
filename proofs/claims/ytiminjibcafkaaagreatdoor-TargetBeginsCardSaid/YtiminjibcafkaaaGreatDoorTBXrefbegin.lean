/- tidingsref07.Begin: every way. -/
import Derived.Test.YtiminjibcafkaaaGreatDoorTBXhtidingsref05Right
import Derived.Test.YtiminjibcafkaaaGreatDoorTBJ7
import Derived.Test.YtiminjibcafkaaaGreatDoorTBJ8
import Derived.Test.YtiminjibcafkaaaGreatDoorTBXpull
namespace Go.Proofs.YtiminjibcafkaaaGreatDoor.X
open Go.RowKit Go.Proofs.YtiminjibcafkaaaGreatDoorW.PrintWords Go.Proofs.YtiminjibcafkaaaGreatDoorW.PrintLast Go.Proofs.YtiminjibcafkaaaGreatDoorW.PrintMore
set_option linter.unusedVariables false
set_option linter.unusedSimpArgs false
set_option maxRecDepth 100000 in
set_option maxHeartbeats 8000000 in
theorem RBegin_right (k : Nat) (a0 a1 a2 a3 : Int) (l4 : List S67) (l5 : List S62) (a6 : Bool) (a7 a8 a9 a10 : Int) (l11 : List S67) (a12 : Int) (A4 A5 A11 : Option Addr) (c4 c5 c11 : Nat) (b : Int) (w : World) (r4 : Kd.C k67 w A4 l4.length l4) (i4 : l4.length ≤ c4) (r5 : Kd.C k62 w A5 l5.length l5) (i5 : l5.length ≤ c5) (r11 : Kd.C k67 w A11 l11.length l11) (i11 : l11.length ≤ c11) (hR : tidingsref05_Right.f k a0 a1 a2 a3 l4 l5 a6 a7 a8 a9 a10 l11 a12 = some false) : Calls Tryz.prog 15 #[.agg #[.int .u8 a0,.int .u8 a1,.int .u32 a2,.int .u32 a3,.slice A4 l4.length c4,.slice A5 l5.length c5,.bool a6,.int .u32 a7,.int .u8 a8,.int .u8 a9,.int .u32 a10,.slice A11 l11.length c11,.int .u32 a12],.int .u8 b] w fun e w'=>e = .returned (.tuple #[.agg #[.int .u8 0,.int .u8 0,.int .u32 0,.int .u32 0,.slice none 0 0,.slice none 0 0,.bool false,.int .u32 0,.int .u8 0,.int .u8 0,.int .u32 0,.slice none 0 0,.int .u32 0],.agg #[.int .i64 0,.int .u8 0,.int .u8 0,.int .u32 0,.int .u8 0,.int .u8 0,.slice none 0 0,.int .u32 0,.slice none 0 0,.int .u8 0,.bool false,.slice none 0 0],.int .i64 9]) ∧ Below w.heap.size w w':=by
 have huR:=Tryz.underlying28
 have huN:=Tryz.underlying30
 have huS:=Tryz.underlying26
 have hu3:=Tryz.underlying3
 have R4':=Aside0.mk r4
 have I4':=Aside0.mk i4
 have R5':=Aside0.mk r5
 have I5':=Aside0.mk i5
 have R11':=Aside0.mk r11
 have I11':=Aside0.mk i11
 clear r4 i4 r5 i5 r11 i11
 have HR':=Aside0.mk hR
 clear hR
 go_enter Tryz.func15,Tryz.ntmps15
 go_wp2_with fail
 generalize hW : World.alloc (World.alloc (World.alloc w _) _) _ = w0
 have Br0:=Aside0.mk (al3_0 hW)
 have Bo0:=Aside0.mk (al3_1 hW)
 have Bn0:=Aside0.mk (al3_2 hW)
 have HB0:=Aside0.mk (al3B hW)
 clear hW
 have GG:=Aside0.mk (show w.heap.size + 3 ≤ w0.heap.size by have:=blk_lt Bn0.out;omega)
 have HG0:=Aside0.mk (Nat.le_refl w0.heap.size)
 obtain ⟨r_0,r_1,r_2,r_3,r_4,r_5,r_6,r_7,r_8,r_9,r_10,r_11,r_12⟩:=cells13 Br0.out
 go_wp2_with fail
 refine (tidingsref05_Right.calls k a0 a1 a2 a3 _ _ l4 _ _ l5 a6 a7 a8 a9 a10 _ _ l11 a12 false _ (Kd.C_below R4'.out HB0.out) I4'.out (Kd.C_below R5'.out HB0.out) I5'.out (Kd.C_below R11'.out HB0.out) I11'.out HR'.out).mono ?_
 rintro ev w1 ⟨rfl,hx⟩
 have Br1:=Aside0.mk (blk_below Br0.out hx)
 have Bo1:=Aside0.mk (blk_below Bo0.out hx)
 have Bn1:=Aside0.mk (blk_below Bn0.out hx)
 have HB1:=Aside0.mk (below_step HB0.out hx)
 have HG1:=Aside0.mk (Nat.le_trans HG0.out hx.size)
 clear r_0 r_1 r_2 r_3 r_4 r_5 r_6 r_7 r_8 r_9 r_10 r_11 r_12
 clear hx HB0 HG0 Br0 Bo0 Bn0
 obtain ⟨r_0,r_1,r_2,r_3,r_4,r_5,r_6,r_7,r_8,r_9,r_10,r_11,r_12⟩:=cells13 Br1.out
 obtain ⟨o_0,o_1,o_2,o_3,o_4,o_5,o_6,o_7,o_8,o_9,o_10,o_11,o_12⟩:=cells13 Bo1.out
 obtain ⟨n_0,n_1,n_2,n_3,n_4,n_5,n_6,n_7,n_8,n_9,n_10,n_11⟩:=cells12 Bn1.out
 go_wp2_with (first | ((with_reducible refine gate_store (t:=28) (p:=4) rfl ?_);refine store_event (t:=28) (p:=4) (v:=?vo17_) (w1:=put_ w1 (w.heap.size + 1) 0 [.int .u8 0,.int .u8 0,.int .u32 0,.int .u32 0,.slice none 0 0,.slice none 0 0,.bool false,.int .u32 0,.int .u8 0,.int .u8 0,.int .u32 0,.slice none 0 0,.int .u32 0]) ?hg ?ho ?hn ?hr ?_;(case ho=>rfl);(case hg=>rfl);(case hn=>rfl);(case hr=>obtain ⟨_,_,_,_,_,_,_,_,_,_,_,_,_⟩:=frz13 Bo1.out;go_simp;rfl);intro w2 hw;have Br2:=Aside0.mk (far_ hw (by omega) Br1.out);have Bo2:=Aside0.mk (own13_0_13 hw Bo1.out);have Bn2:=Aside0.mk (far_ hw (by omega) Bn1.out);have HB2:=Aside0.mk (bel_ hw (by omega) HB1.out);have HG2:=Aside0.mk (siz_ hw HG1.out);clear hw HB1 HG1 Br1 Bo1 Bn1 r_0 r_1 r_2 r_3 r_4 r_5 r_6 r_7 r_8 r_9 r_10 r_11 r_12 o_0 o_1 o_2 o_3 o_4 o_5 o_6 o_7 o_8 o_9 o_10 o_11 o_12 n_0 n_1 n_2 n_3 n_4 n_5 n_6 n_7 n_8 n_9 n_10 n_11;obtain ⟨r2_0,r2_1,r2_2,r2_3,r2_4,r2_5,r2_6,r2_7,r2_8,r2_9,r2_10,r2_11,r2_12⟩:=cells13 Br2.out;obtain ⟨o2_0,o2_1,o2_2,o2_3,o2_4,o2_5,o2_6,o2_7,o2_8,o2_9,o2_10,o2_11,o2_12⟩:=cells13 Bo2.out;obtain ⟨n2_0,n2_1,n2_2,n2_3,n2_4,n2_5,n2_6,n2_7,n2_8,n2_9,n2_10,n2_11⟩:=cells12 Bn2.out) | ((with_reducible refine gate_store (t:=30) (p:=5) rfl ?_);refine store_event (t:=30) (p:=5) (v:=?vo18_) (w1:=put_ w2 (w.heap.size + 1 + 1) 0 [.int .i64 0,.int .u8 0,.int .u8 0,.int .u32 0,.int .u8 0,.int .u8 0,.slice none 0 0,.int .u32 0,.slice none 0 0,.int .u8 0,.bool false,.slice none 0 0]) ?hg ?ho ?hn ?hr ?_;(case ho=>rfl);(case hg=>rfl);(case hn=>rfl);(case hr=>obtain ⟨_,_,_,_,_,_,_,_,_,_,_,_,_⟩:=frz13 Bn2.out;go_simp;rfl);intro w3 hw;have Br3:=Aside0.mk (far_ hw (by omega) Br2.out);have Bo3:=Aside0.mk (far_ hw (by omega) Bo2.out);have Bn3:=Aside0.mk (own12_0_12 hw Bn2.out);have HB3:=Aside0.mk (bel_ hw (by omega) HB2.out);have HG3:=Aside0.mk (siz_ hw HG2.out);clear hw HB2 HG2 Br2 Bo2 Bn2 r2_0 r2_1 r2_2 r2_3 r2_4 r2_5 r2_6 r2_7 r2_8 r2_9 r2_10 r2_11 r2_12 o2_0 o2_1 o2_2 o2_3 o2_4 o2_5 o2_6 o2_7 o2_8 o2_9 o2_10 o2_11 o2_12 n2_0 n2_1 n2_2 n2_3 n2_4 n2_5 n2_6 n2_7 n2_8 n2_9 n2_10 n2_11;obtain ⟨r3_0,r3_1,r3_2,r3_3,r3_4,r3_5,r3_6,r3_7,r3_8,r3_9,r3_10,r3_11,r3_12⟩:=cells13 Br3.out;obtain ⟨o3_0,o3_1,o3_2,o3_3,o3_4,o3_5,o3_6,o3_7,o3_8,o3_9,o3_10,o3_11,o3_12⟩:=cells13 Bo3.out;obtain ⟨n3_0,n3_1,n3_2,n3_3,n3_4,n3_5,n3_6,n3_7,n3_8,n3_9,n3_10,n3_11⟩:=cells12 Bn3.out))
 refine bodyPost_ret (results_list (rs:=[.cell 4 28,.cell 5 30,.tmp 6]) rfl (by simp) (.cell (w.heap.size + 1) 28 #[.int .u8 0,.int .u8 0,.int .u32 0,.int .u32 0,.slice none 0 0,.slice none 0 0,.bool false,.int .u32 0,.int .u8 0,.int .u8 0,.int .u32 0,.slice none 0 0,.int .u32 0] (0,0) _ rfl Bo3.out Tryz.underlying28 rfl (by kernel_rfl) (.cell (w.heap.size + 1 + 1) 30 #[.int .i64 0,.int .u8 0,.int .u8 0,.int .u32 0,.int .u8 0,.int .u8 0,.slice none 0 0,.int .u32 0,.slice none 0 0,.int .u8 0,.bool false,.slice none 0 0] (0,0) _ rfl Bn3.out Tryz.underlying30 rfl (by kernel_rfl) (.tmp .nil)))) rfl ?_
 exact ⟨rfl,HB3.out⟩
set_option maxRecDepth 100000 in
set_option maxHeartbeats 8000000 in
theorem RBegin_from (k : Nat) (a0 a1 a2 a3 : Int) (l4 : List S67) (l5 : List S62) (a6 : Bool) (a7 a8 a9 a10 : Int) (l11 : List S67) (a12 : Int) (A4 A5 A11 : Option Addr) (c4 c5 c11 : Nat) (b : Int) (w : World) (r4 : Kd.C k67 w A4 l4.length l4) (i4 : l4.length ≤ c4) (r5 : Kd.C k62 w A5 l5.length l5) (i5 : l5.length ≤ c5) (r11 : Kd.C k67 w A11 l11.length l11) (i11 : l11.length ≤ c11) (hR : tidingsref05_Right.f k a0 a1 a2 a3 l4 l5 a6 a7 a8 a9 a10 l11 a12 = some true) (hf : 7 < b) : Calls Tryz.prog 15 #[.agg #[.int .u8 a0,.int .u8 a1,.int .u32 a2,.int .u32 a3,.slice A4 l4.length c4,.slice A5 l5.length c5,.bool a6,.int .u32 a7,.int .u8 a8,.int .u8 a9,.int .u32 a10,.slice A11 l11.length c11,.int .u32 a12],.int .u8 b] w fun e w'=>e = .returned (.tuple #[.agg #[.int .u8 0,.int .u8 0,.int .u32 0,.int .u32 0,.slice none 0 0,.slice none 0 0,.bool false,.int .u32 0,.int .u8 0,.int .u8 0,.int .u32 0,.slice none 0 0,.int .u32 0],.agg #[.int .i64 0,.int .u8 0,.int .u8 0,.int .u32 0,.int .u8 0,.int .u8 0,.slice none 0 0,.int .u32 0,.slice none 0 0,.int .u8 0,.bool false,.slice none 0 0],.int .i64 9]) ∧ Below w.heap.size w w':=by
 have huR:=Tryz.underlying28
 have huN:=Tryz.underlying30
 have huS:=Tryz.underlying26
 have hu3:=Tryz.underlying3
 have R4':=Aside0.mk r4
 have I4':=Aside0.mk i4
 have R5':=Aside0.mk r5
 have I5':=Aside0.mk i5
 have R11':=Aside0.mk r11
 have I11':=Aside0.mk i11
 clear r4 i4 r5 i5 r11 i11
 have HR':=Aside0.mk hR
 clear hR
 have hf1 : decide (b > 7) = true:=decide_eq_true hf
 have hf2 : decide (7 < b) = true:=decide_eq_true hf
 clear hf
 go_enter Tryz.func15,Tryz.ntmps15
 go_wp2_with fail
 generalize hW : World.alloc (World.alloc (World.alloc w _) _) _ = w0
 have Br0:=Aside0.mk (al3_0 hW)
 have Bo0:=Aside0.mk (al3_1 hW)
 have Bn0:=Aside0.mk (al3_2 hW)
 have HB0:=Aside0.mk (al3B hW)
 clear hW
 have GG:=Aside0.mk (show w.heap.size + 3 ≤ w0.heap.size by have:=blk_lt Bn0.out;omega)
 have HG0:=Aside0.mk (Nat.le_refl w0.heap.size)
 obtain ⟨r_0,r_1,r_2,r_3,r_4,r_5,r_6,r_7,r_8,r_9,r_10,r_11,r_12⟩:=cells13 Br0.out
 go_wp2_with fail
 refine (tidingsref05_Right.calls k a0 a1 a2 a3 _ _ l4 _ _ l5 a6 a7 a8 a9 a10 _ _ l11 a12 true _ (Kd.C_below R4'.out HB0.out) I4'.out (Kd.C_below R5'.out HB0.out) I5'.out (Kd.C_below R11'.out HB0.out) I11'.out HR'.out).mono ?_
 rintro ev w1 ⟨rfl,hx⟩
 have Br1:=Aside0.mk (blk_below Br0.out hx)
 have Bo1:=Aside0.mk (blk_below Bo0.out hx)
 have Bn1:=Aside0.mk (blk_below Bn0.out hx)
 have HB1:=Aside0.mk (below_step HB0.out hx)
 have HG1:=Aside0.mk (Nat.le_trans HG0.out hx.size)
 clear r_0 r_1 r_2 r_3 r_4 r_5 r_6 r_7 r_8 r_9 r_10 r_11 r_12
 clear hx HB0 HG0 Br0 Bo0 Bn0
 obtain ⟨r_0,r_1,r_2,r_3,r_4,r_5,r_6,r_7,r_8,r_9,r_10,r_11,r_12⟩:=cells13 Br1.out
 obtain ⟨o_0,o_1,o_2,o_3,o_4,o_5,o_6,o_7,o_8,o_9,o_10,o_11,o_12⟩:=cells13 Bo1.out
 obtain ⟨n_0,n_1,n_2,n_3,n_4,n_5,n_6,n_7,n_8,n_9,n_10,n_11⟩:=cells12 Bn1.out
 go_wp2_with (first | ((with_reducible refine gate_store (t:=28) (p:=4) rfl ?_);refine store_event (t:=28) (p:=4) (v:=?vo19_) (w1:=put_ w1 (w.heap.size + 1) 0 [.int .u8 0,.int .u8 0,.int .u32 0,.int .u32 0,.slice none 0 0,.slice none 0 0,.bool false,.int .u32 0,.int .u8 0,.int .u8 0,.int .u32 0,.slice none 0 0,.int .u32 0]) ?hg ?ho ?hn ?hr ?_;(case ho=>rfl);(case hg=>rfl);(case hn=>rfl);(case hr=>obtain ⟨_,_,_,_,_,_,_,_,_,_,_,_,_⟩:=frz13 Bo1.out;go_simp;rfl);intro w2 hw;have Br2:=Aside0.mk (far_ hw (by omega) Br1.out);have Bo2:=Aside0.mk (own13_0_13 hw Bo1.out);have Bn2:=Aside0.mk (far_ hw (by omega) Bn1.out);have HB2:=Aside0.mk (bel_ hw (by omega) HB1.out);have HG2:=Aside0.mk (siz_ hw HG1.out);clear hw HB1 HG1 Br1 Bo1 Bn1 r_0 r_1 r_2 r_3 r_4 r_5 r_6 r_7 r_8 r_9 r_10 r_11 r_12 o_0 o_1 o_2 o_3 o_4 o_5 o_6 o_7 o_8 o_9 o_10 o_11 o_12 n_0 n_1 n_2 n_3 n_4 n_5 n_6 n_7 n_8 n_9 n_10 n_11;obtain ⟨r2_0,r2_1,r2_2,r2_3,r2_4,r2_5,r2_6,r2_7,r2_8,r2_9,r2_10,r2_11,r2_12⟩:=cells13 Br2.out;obtain ⟨o2_0,o2_1,o2_2,o2_3,o2_4,o2_5,o2_6,o2_7,o2_8,o2_9,o2_10,o2_11,o2_12⟩:=cells13 Bo2.out;obtain ⟨n2_0,n2_1,n2_2,n2_3,n2_4,n2_5,n2_6,n2_7,n2_8,n2_9,n2_10,n2_11⟩:=cells12 Bn2.out) | ((with_reducible refine gate_store (t:=30) (p:=5) rfl ?_);refine store_event (t:=30) (p:=5) (v:=?vo20_) (w1:=put_ w2 (w.heap.size + 1 + 1) 0 [.int .i64 0,.int .u8 0,.int .u8 0,.int .u32 0,.int .u8 0,.int .u8 0,.slice none 0 0,.int .u32 0,.slice none 0 0,.int .u8 0,.bool false,.slice none 0 0]) ?hg ?ho ?hn ?hr ?_;(case ho=>rfl);(case hg=>rfl);(case hn=>rfl);(case hr=>obtain ⟨_,_,_,_,_,_,_,_,_,_,_,_,_⟩:=frz13 Bn2.out;go_simp;rfl);intro w3 hw;have Br3:=Aside0.mk (far_ hw (by omega) Br2.out);have Bo3:=Aside0.mk (far_ hw (by omega) Bo2.out);have Bn3:=Aside0.mk (own12_0_12 hw Bn2.out);have HB3:=Aside0.mk (bel_ hw (by omega) HB2.out);have HG3:=Aside0.mk (siz_ hw HG2.out);clear hw HB2 HG2 Br2 Bo2 Bn2 r2_0 r2_1 r2_2 r2_3 r2_4 r2_5 r2_6 r2_7 r2_8 r2_9 r2_10 r2_11 r2_12 o2_0 o2_1 o2_2 o2_3 o2_4 o2_5 o2_6 o2_7 o2_8 o2_9 o2_10 o2_11 o2_12 n2_0 n2_1 n2_2 n2_3 n2_4 n2_5 n2_6 n2_7 n2_8 n2_9 n2_10 n2_11;obtain ⟨r3_0,r3_1,r3_2,r3_3,r3_4,r3_5,r3_6,r3_7,r3_8,r3_9,r3_10,r3_11,r3_12⟩:=cells13 Br3.out;obtain ⟨o3_0,o3_1,o3_2,o3_3,o3_4,o3_5,o3_6,o3_7,o3_8,o3_9,o3_10,o3_11,o3_12⟩:=cells13 Bo3.out;obtain ⟨n3_0,n3_1,n3_2,n3_3,n3_4,n3_5,n3_6,n3_7,n3_8,n3_9,n3_10,n3_11⟩:=cells12 Bn3.out))
 refine bodyPost_ret (results_list (rs:=[.cell 4 28,.cell 5 30,.tmp 6]) rfl (by simp) (.cell (w.heap.size + 1) 28 #[.int .u8 0,.int .u8 0,.int .u32 0,.int .u32 0,.slice none 0 0,.slice none 0 0,.bool false,.int .u32 0,.int .u8 0,.int .u8 0,.int .u32 0,.slice none 0 0,.int .u32 0] (0,0) _ rfl Bo3.out Tryz.underlying28 rfl (by kernel_rfl) (.cell (w.heap.size + 1 + 1) 30 #[.int .i64 0,.int .u8 0,.int .u8 0,.int .u32 0,.int .u8 0,.int .u8 0,.slice none 0 0,.int .u32 0,.slice none 0 0,.int .u8 0,.bool false,.slice none 0 0] (0,0) _ rfl Bn3.out Tryz.underlying30 rfl (by kernel_rfl) (.tmp .nil)))) rfl ?_
 exact ⟨rfl,HB3.out⟩
set_option maxRecDepth 100000 in
set_option maxHeartbeats 8000000 in
theorem RBegin_self (k : Nat) (a0 a1 a2 a3 : Int) (l4 : List S67) (l5 : List S62) (a6 : Bool) (a7 a8 a9 a10 : Int) (l11 : List S67) (a12 : Int) (A4 A5 A11 : Option Addr) (c4 c5 c11 : Nat) (b : Int) (w : World) (r4 : Kd.C k67 w A4 l4.length l4) (i4 : l4.length ≤ c4) (r5 : Kd.C k62 w A5 l5.length l5) (i5 : l5.length ≤ c5) (r11 : Kd.C k67 w A11 l11.length l11) (i11 : l11.length ≤ c11) (hR : tidingsref05_Right.f k a0 a1 a2 a3 l4 l5 a6 a7 a8 a9 a10 l11 a12 = some true) (hf : ¬ 7 < b) (hs : b = a0) : Calls Tryz.prog 15 #[.agg #[.int .u8 a0,.int .u8 a1,.int .u32 a2,.int .u32 a3,.slice A4 l4.length c4,.slice A5 l5.length c5,.bool a6,.int .u32 a7,.int .u8 a8,.int .u8 a9,.int .u32 a10,.slice A11 l11.length c11,.int .u32 a12],.int .u8 b] w fun e w'=>e = .returned (.tuple #[.agg #[.int .u8 0,.int .u8 0,.int .u32 0,.int .u32 0,.slice none 0 0,.slice none 0 0,.bool false,.int .u32 0,.int .u8 0,.int .u8 0,.int .u32 0,.slice none 0 0,.int .u32 0],.agg #[.int .i64 0,.int .u8 0,.int .u8 0,.int .u32 0,.int .u8 0,.int .u8 0,.slice none 0 0,.int .u32 0,.slice none 0 0,.int .u8 0,.bool false,.slice none 0 0],.int .i64 9]) ∧ Below w.heap.size w w':=by
 have huR:=Tryz.underlying28
 have huN:=Tryz.underlying30
 have huS:=Tryz.underlying26
 have hu3:=Tryz.underlying3
 have R4':=Aside0.mk r4
 have I4':=Aside0.mk i4
 have R5':=Aside0.mk r5
 have I5':=Aside0.mk i5
 have R11':=Aside0.mk r11
 have I11':=Aside0.mk i11
 clear r4 i4 r5 i5 r11 i11
 have HR':=Aside0.mk hR
 clear hR
 have hf1 : decide (b > 7) = false:=decide_eq_false hf
 have hf2 : decide (7 < b) = false:=decide_eq_false hf
 clear hf
 have hs1 : decide (b = a0) = true:=decide_eq_true hs
 have hs2 : (b == a0) = true:=by simp [hs]
 clear hs
 go_enter Tryz.func15,Tryz.ntmps15
 go_wp2_with fail
 generalize hW : World.alloc (World.alloc (World.alloc w _) _) _ = w0
 have Br0:=Aside0.mk (al3_0 hW)
 have Bo0:=Aside0.mk (al3_1 hW)
 have Bn0:=Aside0.mk (al3_2 hW)
 have HB0:=Aside0.mk (al3B hW)
 clear hW
 have GG:=Aside0.mk (show w.heap.size + 3 ≤ w0.heap.size by have:=blk_lt Bn0.out;omega)
 have HG0:=Aside0.mk (Nat.le_refl w0.heap.size)
 obtain ⟨r_0,r_1,r_2,r_3,r_4,r_5,r_6,r_7,r_8,r_9,r_10,r_11,r_12⟩:=cells13 Br0.out
 go_wp2_with fail
 refine (tidingsref05_Right.calls k a0 a1 a2 a3 _ _ l4 _ _ l5 a6 a7 a8 a9 a10 _ _ l11 a12 true _ (Kd.C_below R4'.out HB0.out) I4'.out (Kd.C_below R5'.out HB0.out) I5'.out (Kd.C_below R11'.out HB0.out) I11'.out HR'.out).mono ?_
 rintro ev w1 ⟨rfl,hx⟩
 have Br1:=Aside0.mk (blk_below Br0.out hx)
 have Bo1:=Aside0.mk (blk_below Bo0.out hx)
 have Bn1:=Aside0.mk (blk_below Bn0.out hx)
 have HB1:=Aside0.mk (below_step HB0.out hx)
 have HG1:=Aside0.mk (Nat.le_trans HG0.out hx.size)
 clear r_0 r_1 r_2 r_3 r_4 r_5 r_6 r_7 r_8 r_9 r_10 r_11 r_12
 clear hx HB0 HG0 Br0 Bo0 Bn0
 obtain ⟨r_0,r_1,r_2,r_3,r_4,r_5,r_6,r_7,r_8,r_9,r_10,r_11,r_12⟩:=cells13 Br1.out
 obtain ⟨o_0,o_1,o_2,o_3,o_4,o_5,o_6,o_7,o_8,o_9,o_10,o_11,o_12⟩:=cells13 Bo1.out
 obtain ⟨n_0,n_1,n_2,n_3,n_4,n_5,n_6,n_7,n_8,n_9,n_10,n_11⟩:=cells12 Bn1.out
 go_wp2_with (first | ((with_reducible refine gate_store (t:=28) (p:=4) rfl ?_);refine store_event (t:=28) (p:=4) (v:=?vo21_) (w1:=put_ w1 (w.heap.size + 1) 0 [.int .u8 0,.int .u8 0,.int .u32 0,.int .u32 0,.slice none 0 0,.slice none 0 0,.bool false,.int .u32 0,.int .u8 0,.int .u8 0,.int .u32 0,.slice none 0 0,.int .u32 0]) ?hg ?ho ?hn ?hr ?_;(case ho=>rfl);(case hg=>rfl);(case hn=>rfl);(case hr=>obtain ⟨_,_,_,_,_,_,_,_,_,_,_,_,_⟩:=frz13 Bo1.out;go_simp;rfl);intro w2 hw;have Br2:=Aside0.mk (far_ hw (by omega) Br1.out);have Bo2:=Aside0.mk (own13_0_13 hw Bo1.out);have Bn2:=Aside0.mk (far_ hw (by omega) Bn1.out);have HB2:=Aside0.mk (bel_ hw (by omega) HB1.out);have HG2:=Aside0.mk (siz_ hw HG1.out);clear hw HB1 HG1 Br1 Bo1 Bn1 r_0 r_1 r_2 r_3 r_4 r_5 r_6 r_7 r_8 r_9 r_10 r_11 r_12 o_0 o_1 o_2 o_3 o_4 o_5 o_6 o_7 o_8 o_9 o_10 o_11 o_12 n_0 n_1 n_2 n_3 n_4 n_5 n_6 n_7 n_8 n_9 n_10 n_11;obtain ⟨r2_0,r2_1,r2_2,r2_3,r2_4,r2_5,r2_6,r2_7,r2_8,r2_9,r2_10,r2_11,r2_12⟩:=cells13 Br2.out;obtain ⟨o2_0,o2_1,o2_2,o2_3,o2_4,o2_5,o2_6,o2_7,o2_8,o2_9,o2_10,o2_11,o2_12⟩:=cells13 Bo2.out;obtain ⟨n2_0,n2_1,n2_2,n2_3,n2_4,n2_5,n2_6,n2_7,n2_8,n2_9,n2_10,n2_11⟩:=cells12 Bn2.out) | ((with_reducible refine gate_store (t:=30) (p:=5) rfl ?_);refine store_event (t:=30) (p:=5) (v:=?vo22_) (w1:=put_ w2 (w.heap.size + 1 + 1) 0 [.int .i64 0,.int .u8 0,.int .u8 0,.int .u32 0,.int .u8 0,.int .u8 0,.slice none 0 0,.int .u32 0,.slice none 0 0,.int .u8 0,.bool false,.slice none 0 0]) ?hg ?ho ?hn ?hr ?_;(case ho=>rfl);(case hg=>rfl);(case hn=>rfl);(case hr=>obtain ⟨_,_,_,_,_,_,_,_,_,_,_,_,_⟩:=frz13 Bn2.out;go_simp;rfl);intro w3 hw;have Br3:=Aside0.mk (far_ hw (by omega) Br2.out);have Bo3:=Aside0.mk (far_ hw (by omega) Bo2.out);have Bn3:=Aside0.mk (own12_0_12 hw Bn2.out);have HB3:=Aside0.mk (bel_ hw (by omega) HB2.out);have HG3:=Aside0.mk (siz_ hw HG2.out);clear hw HB2 HG2 Br2 Bo2 Bn2 r2_0 r2_1 r2_2 r2_3 r2_4 r2_5 r2_6 r2_7 r2_8 r2_9 r2_10 r2_11 r2_12 o2_0 o2_1 o2_2 o2_3 o2_4 o2_5 o2_6 o2_7 o2_8 o2_9 o2_10 o2_11 o2_12 n2_0 n2_1 n2_2 n2_3 n2_4 n2_5 n2_6 n2_7 n2_8 n2_9 n2_10 n2_11;obtain ⟨r3_0,r3_1,r3_2,r3_3,r3_4,r3_5,r3_6,r3_7,r3_8,r3_9,r3_10,r3_11,r3_12⟩:=cells13 Br3.out;obtain ⟨o3_0,o3_1,o3_2,o3_3,o3_4,o3_5,o3_6,o3_7,o3_8,o3_9,o3_10,o3_11,o3_12⟩:=cells13 Bo3.out;obtain ⟨n3_0,n3_1,n3_2,n3_3,n3_4,n3_5,n3_6,n3_7,n3_8,n3_9,n3_10,n3_11⟩:=cells12 Bn3.out))
 refine bodyPost_ret (results_list (rs:=[.cell 4 28,.cell 5 30,.tmp 6]) rfl (by simp) (.cell (w.heap.size + 1) 28 #[.int .u8 0,.int .u8 0,.int .u32 0,.int .u32 0,.slice none 0 0,.slice none 0 0,.bool false,.int .u32 0,.int .u8 0,.int .u8 0,.int .u32 0,.slice none 0 0,.int .u32 0] (0,0) _ rfl Bo3.out Tryz.underlying28 rfl (by kernel_rfl) (.cell (w.heap.size + 1 + 1) 30 #[.int .i64 0,.int .u8 0,.int .u8 0,.int .u32 0,.int .u8 0,.int .u8 0,.slice none 0 0,.int .u32 0,.slice none 0 0,.int .u8 0,.bool false,.slice none 0 0] (0,0) _ rfl Bn3.out Tryz.underlying30 rfl (by kernel_rfl) (.tmp .nil)))) rfl ?_
 exact ⟨rfl,HB3.out⟩
set_option maxRecDepth 100000 in
set_option maxHeartbeats 8000000 in
theorem RBegin_last (k : Nat) (a0 a1 a2 a3 : Int) (l4 : List S67) (l5 : List S62) (a6 : Bool) (a7 a8 a9 a10 : Int) (l11 : List S67) (a12 : Int) (A4 A5 A11 : Option Addr) (c4 c5 c11 : Nat) (b : Int) (w : World) (r4 : Kd.C k67 w A4 l4.length l4) (i4 : l4.length ≤ c4) (r5 : Kd.C k62 w A5 l5.length l5) (i5 : l5.length ≤ c5) (r11 : Kd.C k67 w A11 l11.length l11) (i11 : l11.length ≤ c11) (hR : tidingsref05_Right.f k a0 a1 a2 a3 l4 l5 a6 a7 a8 a9 a10 l11 a12 = some true) (hf : ¬ 7 < b) (hs : ¬ b = a0) (hl : a12 = 4294967295) : Calls Tryz.prog 15 #[.agg #[.int .u8 a0,.int .u8 a1,.int .u32 a2,.int .u32 a3,.slice A4 l4.length c4,.slice A5 l5.length c5,.bool a6,.int .u32 a7,.int .u8 a8,.int .u8 a9,.int .u32 a10,.slice A11 l11.length c11,.int .u32 a12],.int .u8 b] w fun e w'=>e = .returned (.tuple #[.agg #[.int .u8 0,.int .u8 0,.int .u32 0,.int .u32 0,.slice none 0 0,.slice none 0 0,.bool false,.int .u32 0,.int .u8 0,.int .u8 0,.int .u32 0,.slice none 0 0,.int .u32 0],.agg #[.int .i64 0,.int .u8 0,.int .u8 0,.int .u32 0,.int .u8 0,.int .u8 0,.slice none 0 0,.int .u32 0,.slice none 0 0,.int .u8 0,.bool false,.slice none 0 0],.int .i64 5]) ∧ Below w.heap.size w w':=by
 have huR:=Tryz.underlying28
 have huN:=Tryz.underlying30
 have huS:=Tryz.underlying26
 have hu3:=Tryz.underlying3
 have R4':=Aside0.mk r4
 have I4':=Aside0.mk i4
 have R5':=Aside0.mk r5
 have I5':=Aside0.mk i5
 have R11':=Aside0.mk r11
 have I11':=Aside0.mk i11
 clear r4 i4 r5 i5 r11 i11
 have HR':=Aside0.mk hR
 clear hR
 have hf1 : decide (b > 7) = false:=decide_eq_false hf
 have hf2 : decide (7 < b) = false:=decide_eq_false hf
 clear hf
 have hs1 : decide (b = a0) = false:=decide_eq_false hs
 have hs2 : (b == a0) = false:=by simp [hs]
 clear hs
 have hl1 : decide (a12 = 4294967295) = true:=decide_eq_true hl
 have hl2 : (a12 == 4294967295) = true:=by simp [hl]
 clear hl
 go_enter Tryz.func15,Tryz.ntmps15
 go_wp2_with fail
 generalize hW : World.alloc (World.alloc (World.alloc w _) _) _ = w0
 have Br0:=Aside0.mk (al3_0 hW)
 have Bo0:=Aside0.mk (al3_1 hW)
 have Bn0:=Aside0.mk (al3_2 hW)
 have HB0:=Aside0.mk (al3B hW)
 clear hW
 have GG:=Aside0.mk (show w.heap.size + 3 ≤ w0.heap.size by have:=blk_lt Bn0.out;omega)
 have HG0:=Aside0.mk (Nat.le_refl w0.heap.size)
 obtain ⟨r_0,r_1,r_2,r_3,r_4,r_5,r_6,r_7,r_8,r_9,r_10,r_11,r_12⟩:=cells13 Br0.out
 go_wp2_with fail
 refine (tidingsref05_Right.calls k a0 a1 a2 a3 _ _ l4 _ _ l5 a6 a7 a8 a9 a10 _ _ l11 a12 true _ (Kd.C_below R4'.out HB0.out) I4'.out (Kd.C_below R5'.out HB0.out) I5'.out (Kd.C_below R11'.out HB0.out) I11'.out HR'.out).mono ?_
 rintro ev w1 ⟨rfl,hx⟩
 have Br1:=Aside0.mk (blk_below Br0.out hx)
 have Bo1:=Aside0.mk (blk_below Bo0.out hx)
 have Bn1:=Aside0.mk (blk_below Bn0.out hx)
 have HB1:=Aside0.mk (below_step HB0.out hx)
 have HG1:=Aside0.mk (Nat.le_trans HG0.out hx.size)
 clear r_0 r_1 r_2 r_3 r_4 r_5 r_6 r_7 r_8 r_9 r_10 r_11 r_12
 clear hx HB0 HG0 Br0 Bo0 Bn0
 obtain ⟨r_0,r_1,r_2,r_3,r_4,r_5,r_6,r_7,r_8,r_9,r_10,r_11,r_12⟩:=cells13 Br1.out
 obtain ⟨o_0,o_1,o_2,o_3,o_4,o_5,o_6,o_7,o_8,o_9,o_10,o_11,o_12⟩:=cells13 Bo1.out
 obtain ⟨n_0,n_1,n_2,n_3,n_4,n_5,n_6,n_7,n_8,n_9,n_10,n_11⟩:=cells12 Bn1.out
 go_wp2_with (first | ((with_reducible refine gate_store (t:=28) (p:=4) rfl ?_);refine store_event (t:=28) (p:=4) (v:=?vo23_) (w1:=put_ w1 (w.heap.size + 1) 0 [.int .u8 0,.int .u8 0,.int .u32 0,.int .u32 0,.slice none 0 0,.slice none 0 0,.bool false,.int .u32 0,.int .u8 0,.int .u8 0,.int .u32 0,.slice none 0 0,.int .u32 0]) ?hg ?ho ?hn ?hr ?_;(case ho=>rfl);(case hg=>rfl);(case hn=>rfl);(case hr=>obtain ⟨_,_,_,_,_,_,_,_,_,_,_,_,_⟩:=frz13 Bo1.out;go_simp;rfl);intro w2 hw;have Br2:=Aside0.mk (far_ hw (by omega) Br1.out);have Bo2:=Aside0.mk (own13_0_13 hw Bo1.out);have Bn2:=Aside0.mk (far_ hw (by omega) Bn1.out);have HB2:=Aside0.mk (bel_ hw (by omega) HB1.out);have HG2:=Aside0.mk (siz_ hw HG1.out);clear hw HB1 HG1 Br1 Bo1 Bn1 r_0 r_1 r_2 r_3 r_4 r_5 r_6 r_7 r_8 r_9 r_10 r_11 r_12 o_0 o_1 o_2 o_3 o_4 o_5 o_6 o_7 o_8 o_9 o_10 o_11 o_12 n_0 n_1 n_2 n_3 n_4 n_5 n_6 n_7 n_8 n_9 n_10 n_11;obtain ⟨r2_0,r2_1,r2_2,r2_3,r2_4,r2_5,r2_6,r2_7,r2_8,r2_9,r2_10,r2_11,r2_12⟩:=cells13 Br2.out;obtain ⟨o2_0,o2_1,o2_2,o2_3,o2_4,o2_5,o2_6,o2_7,o2_8,o2_9,o2_10,o2_11,o2_12⟩:=cells13 Bo2.out;obtain ⟨n2_0,n2_1,n2_2,n2_3,n2_4,n2_5,n2_6,n2_7,n2_8,n2_9,n2_10,n2_11⟩:=cells12 Bn2.out) | ((with_reducible refine gate_store (t:=30) (p:=5) rfl ?_);refine store_event (t:=30) (p:=5) (v:=?vo24_) (w1:=put_ w2 (w.heap.size + 1 + 1) 0 [.int .i64 0,.int .u8 0,.int .u8 0,.int .u32 0,.int .u8 0,.int .u8 0,.slice none 0 0,.int .u32 0,.slice none 0 0,.int .u8 0,.bool false,.slice none 0 0]) ?hg ?ho ?hn ?hr ?_;(case ho=>rfl);(case hg=>rfl);(case hn=>rfl);(case hr=>obtain ⟨_,_,_,_,_,_,_,_,_,_,_,_,_⟩:=frz13 Bn2.out;go_simp;rfl);intro w3 hw;have Br3:=Aside0.mk (far_ hw (by omega) Br2.out);have Bo3:=Aside0.mk (far_ hw (by omega) Bo2.out);have Bn3:=Aside0.mk (own12_0_12 hw Bn2.out);have HB3:=Aside0.mk (bel_ hw (by omega) HB2.out);have HG3:=Aside0.mk (siz_ hw HG2.out);clear hw HB2 HG2 Br2 Bo2 Bn2 r2_0 r2_1 r2_2 r2_3 r2_4 r2_5 r2_6 r2_7 r2_8 r2_9 r2_10 r2_11 r2_12 o2_0 o2_1 o2_2 o2_3 o2_4 o2_5 o2_6 o2_7 o2_8 o2_9 o2_10 o2_11 o2_12 n2_0 n2_1 n2_2 n2_3 n2_4 n2_5 n2_6 n2_7 n2_8 n2_9 n2_10 n2_11;obtain ⟨r3_0,r3_1,r3_2,r3_3,r3_4,r3_5,r3_6,r3_7,r3_8,r3_9,r3_10,r3_11,r3_12⟩:=cells13 Br3.out;obtain ⟨o3_0,o3_1,o3_2,o3_3,o3_4,o3_5,o3_6,o3_7,o3_8,o3_9,o3_10,o3_11,o3_12⟩:=cells13 Bo3.out;obtain ⟨n3_0,n3_1,n3_2,n3_3,n3_4,n3_5,n3_6,n3_7,n3_8,n3_9,n3_10,n3_11⟩:=cells12 Bn3.out))
 refine bodyPost_ret (results_list (rs:=[.cell 4 28,.cell 5 30,.tmp 6]) rfl (by simp) (.cell (w.heap.size + 1) 28 #[.int .u8 0,.int .u8 0,.int .u32 0,.int .u32 0,.slice none 0 0,.slice none 0 0,.bool false,.int .u32 0,.int .u8 0,.int .u8 0,.int .u32 0,.slice none 0 0,.int .u32 0] (0,0) _ rfl Bo3.out Tryz.underlying28 rfl (by kernel_rfl) (.cell (w.heap.size + 1 + 1) 30 #[.int .i64 0,.int .u8 0,.int .u8 0,.int .u32 0,.int .u8 0,.int .u8 0,.slice none 0 0,.int .u32 0,.slice none 0 0,.int .u8 0,.bool false,.slice none 0 0] (0,0) _ rfl Bn3.out Tryz.underlying30 rfl (by kernel_rfl) (.tmp .nil)))) rfl ?_
 exact ⟨rfl,HB3.out⟩
set_option maxRecDepth 100000 in
set_option maxHeartbeats 8000000 in
theorem RBegin_ok (k : Nat) (a0 a1 a2 a3 : Int) (l4 : List S67) (l5 : List S62) (a6 : Bool) (a7 a8 a9 a10 : Int) (l11 : List S67) (a12 : Int) (A4 A5 A11 : Option Addr) (c4 c5 c11 : Nat) (b : Int) (w : World) (r4 : Kd.C k67 w A4 l4.length l4) (i4 : l4.length ≤ c4) (r5 : Kd.C k62 w A5 l5.length l5) (i5 : l5.length ≤ c5) (r11 : Kd.C k67 w A11 l11.length l11) (i11 : l11.length ≤ c11) (hR : tidingsref05_Right.f k a0 a1 a2 a3 l4 l5 a6 a7 a8 a9 a10 l11 a12 = some true) (hf : ¬ 7 < b) (hs : ¬ b = a0) (hl : ¬ a12 = 4294967295) : Calls Tryz.prog 15 #[.agg #[.int .u8 a0,.int .u8 a1,.int .u32 a2,.int .u32 a3,.slice A4 l4.length c4,.slice A5 l5.length c5,.bool a6,.int .u32 a7,.int .u8 a8,.int .u8 a9,.int .u32 a10,.slice A11 l11.length c11,.int .u32 a12],.int .u8 b] w fun e w'=>e = .returned (.tuple #[.agg #[.int .u8 a0,.int .u8 a1,.int .u32 a2,.int .u32 a3,.slice A4 l4.length c4,.slice A5 l5.length c5,.bool true,.int .u32 (IntKind.u32.wrap (a12 + 1)),.int .u8 b,.int .u8 0,.int .u32 0,.slice none 0 0,.int .u32 (IntKind.u32.wrap (a12 + 1))],.agg #[.int .i64 1,.int .u8 a0,.int .u8 b,.int .u32 (IntKind.u32.wrap (a12 + 1)),.int .u8 0,.int .u8 a1,.slice A4 l4.length c4,.int .u32 0,.slice none 0 0,.int .u8 0,.bool false,.slice none 0 0],.int .i64 0]) ∧ Below w.heap.size w w':=by
 have huR:=Tryz.underlying28
 have huN:=Tryz.underlying30
 have huS:=Tryz.underlying26
 have hu3:=Tryz.underlying3
 have R4':=Aside0.mk r4
 have I4':=Aside0.mk i4
 have R5':=Aside0.mk r5
 have I5':=Aside0.mk i5
 have R11':=Aside0.mk r11
 have I11':=Aside0.mk i11
 clear r4 i4 r5 i5 r11 i11
 have HR':=Aside0.mk hR
 clear hR
 have hf1 : decide (b > 7) = false:=decide_eq_false hf
 have hf2 : decide (7 < b) = false:=decide_eq_false hf
 clear hf
 have hs1 : decide (b = a0) = false:=decide_eq_false hs
 have hs2 : (b == a0) = false:=by simp [hs]
 clear hs
 have hl1 : decide (a12 = 4294967295) = false:=decide_eq_false hl
 have hl2 : (a12 == 4294967295) = false:=by simp [hl]
 clear hl
 go_enter Tryz.func15,Tryz.ntmps15
 go_wp2_with fail
 generalize hW : World.alloc (World.alloc (World.alloc w _) _) _ = w0
 have Br0:=Aside0.mk (al3_0 hW)
 have Bo0:=Aside0.mk (al3_1 hW)
 have Bn0:=Aside0.mk (al3_2 hW)
 have HB0:=Aside0.mk (al3B hW)
 clear hW
 have GG:=Aside0.mk (show w.heap.size + 3 ≤ w0.heap.size by have:=blk_lt Bn0.out;omega)
 have HG0:=Aside0.mk (Nat.le_refl w0.heap.size)
 obtain ⟨r_0,r_1,r_2,r_3,r_4,r_5,r_6,r_7,r_8,r_9,r_10,r_11,r_12⟩:=cells13 Br0.out
 go_wp2_with fail
 refine (tidingsref05_Right.calls k a0 a1 a2 a3 _ _ l4 _ _ l5 a6 a7 a8 a9 a10 _ _ l11 a12 true _ (Kd.C_below R4'.out HB0.out) I4'.out (Kd.C_below R5'.out HB0.out) I5'.out (Kd.C_below R11'.out HB0.out) I11'.out HR'.out).mono ?_
 rintro ev w1 ⟨rfl,hx⟩
 have Br1:=Aside0.mk (blk_below Br0.out hx)
 have Bo1:=Aside0.mk (blk_below Bo0.out hx)
 have Bn1:=Aside0.mk (blk_below Bn0.out hx)
 have HB1:=Aside0.mk (below_step HB0.out hx)
 have HG1:=Aside0.mk (Nat.le_trans HG0.out hx.size)
 clear r_0 r_1 r_2 r_3 r_4 r_5 r_6 r_7 r_8 r_9 r_10 r_11 r_12
 clear hx HB0 HG0 Br0 Bo0 Bn0
 have HGN : w.heap.size + 3 ≤ w1.heap.size:=by have:=GG.out;have:=HG1.out;omega
 obtain ⟨r_0,r_1,r_2,r_3,r_4,r_5,r_6,r_7,r_8,r_9,r_10,r_11,r_12⟩:=cells13 Br1.out
 obtain ⟨r2q_0,r2q_1,r2q_2,r2q_3,r2q_4,r2q_5,r2q_6,r2q_7,r2q_8,r2q_9,r2q_10,r2q_11,r2q_12⟩:=cells13 (blk_alloc (Br1.out) (.cells #[.int .u8 a0,.int .u8 a1,.int .u32 a2,.int .u32 a3,.slice A4 l4.length c4,.slice A5 l5.length c5,.bool a6,.int .u32 a7,.int .u8 a8,.int .u8 a9,.int .u32 a10,.slice A11 l11.length c11,.int .u32 a12] 28))
 obtain ⟨y2q_0,y2q_1,y2q_2,y2q_3,y2q_4,y2q_5,y2q_6,y2q_7,y2q_8,y2q_9,y2q_10,y2q_11,y2q_12⟩:=cells13 (blk_new w1 (.cells #[.int .u8 a0,.int .u8 a1,.int .u32 a2,.int .u32 a3,.slice A4 l4.length c4,.slice A5 l5.length c5,.bool a6,.int .u32 a7,.int .u8 a8,.int .u8 a9,.int .u32 a10,.slice A11 l11.length c11,.int .u32 a12] 28))
 go_wp2_with (first | ((with_reducible refine gate_store (t:=26) (p:=40) rfl ?_);clear r_0 r_1 r_2 r_3 r_4 r_5 r_6 r_7 r_8 r_9 r_10 r_11 r_12 r2q_0 r2q_1 r2q_2 r2q_3 r2q_4 r2q_5 r2q_6 r2q_7 r2q_8 r2q_9 r2q_10 r2q_11 r2q_12 y2q_0 y2q_1 y2q_2 y2q_3 y2q_4 y2q_5 y2q_6 y2q_7 y2q_8 y2q_9 y2q_10 y2q_11 y2q_12;generalize hW : World.alloc w1 _ = w2;have Br2:=Aside0.mk (blk_below Br1.out (al1B hW));have Bo2:=Aside0.mk (blk_below Bo1.out (al1B hW));have Bn2:=Aside0.mk (blk_below Bn1.out (al1B hW));have By2:=Aside0.mk (al1_0 hW);have HB2:=Aside0.mk (below_step HB1.out (al1B hW));have HG2:=Aside0.mk (Nat.le_trans HG1.out (al1B hW).size);clear hW HB1 HG1 Br1 Bo1 Bn1;obtain ⟨y2p_0,y2p_1,y2p_2,y2p_3,y2p_4,y2p_5,y2p_6,y2p_7,y2p_8,y2p_9,y2p_10,y2p_11,y2p_12⟩:=cells13 By2.out;refine store_event (t:=26) (p:=40) (v:=?vo25_) (w1:=put_ w2 w1.heap.size 6 [.bool true,.int .u32 (IntKind.u32.wrap (a12 + 1)),.int .u8 b,.int .u8 0,.int .u32 0,.slice none 0 0,.int .u32 (IntKind.u32.wrap (a12 + 1))]) ?hg ?ho ?hn ?hr ?_;(case ho=>rfl);(case hg=>rfl);(case hn=>rfl);(case hr=>obtain ⟨_,_,_,_,_,_,_,_,_,_,_,_,_⟩:=frz13 By2.out;go_simp;rfl);intro w3 hw;have Br3:=Aside0.mk (far_ hw (by omega) Br2.out);have Bo3:=Aside0.mk (far_ hw (by omega) Bo2.out);have Bn3:=Aside0.mk (far_ hw (by omega) Bn2.out);have By3:=Aside0.mk (own13_6_7 hw By2.out);have HB3:=Aside0.mk (bel_ hw (by omega) HB2.out);have HG3:=Aside0.mk (siz_ hw HG2.out);clear hw HB2 HG2 Br2 Bo2 Bn2 By2 y2p_0 y2p_1 y2p_2 y2p_3 y2p_4 y2p_5 y2p_6 y2p_7 y2p_8 y2p_9 y2p_10 y2p_11 y2p_12;obtain ⟨r3_0,r3_1,r3_2,r3_3,r3_4,r3_5,r3_6,r3_7,r3_8,r3_9,r3_10,r3_11,r3_12⟩:=cells13 Br3.out;obtain ⟨o3_0,o3_1,o3_2,o3_3,o3_4,o3_5,o3_6,o3_7,o3_8,o3_9,o3_10,o3_11,o3_12⟩:=cells13 Bo3.out;obtain ⟨n3_0,n3_1,n3_2,n3_3,n3_4,n3_5,n3_6,n3_7,n3_8,n3_9,n3_10,n3_11⟩:=cells12 Bn3.out;obtain ⟨y3_0,y3_1,y3_2,y3_3,y3_4,y3_5,y3_6,y3_7,y3_8,y3_9,y3_10,y3_11,y3_12⟩:=cells13 By3.out))
 refine region_lex (fun (s : Option (Unit)) d w'=>Below w.heap.size w w' ∧ w0.heap.size ≤ w'.heap.size ∧ w'.heap[w.heap.size]? = w3.heap[w.heap.size]? ∧ w'.heap[w.heap.size + 1]? = (if d 3 = true then some (.cells #[.int .u8 a0,.int .u8 a1,.int .u32 a2,.int .u32 a3,.slice A4 l4.length c4,.slice A5 l5.length c5,.bool true,.int .u32 (IntKind.u32.wrap (a12 + 1)),.int .u8 b,.int .u8 0,.int .u32 0,.slice none 0 0,.int .u32 (IntKind.u32.wrap (a12 + 1))] 28 (0,0)) else w3.heap[w.heap.size + 1]?) ∧ w'.heap[w.heap.size + 1 + 1]? = (if d 4 = true then some (.cells #[.int .i64 1,.int .u8 a0,.int .u8 b,.int .u32 (IntKind.u32.wrap (a12 + 1)),.int .u8 0,.int .u8 a1,.slice A4 l4.length c4,.int .u32 0,.slice none 0 0,.int .u8 0,.bool false,.slice none 0 0] 30 (0,0)) else w3.heap[w.heap.size + 1 + 1]?) ∧ w'.heap[w1.heap.size]? = w3.heap[w1.heap.size]?) 6 #[false,false,false,false,false,false] (by kernel_rfl) rfl rfl ?_ ?_
 ·exact ⟨pw_below_drewN HB3.out 1,HG3.out,rfl,rfl,rfl,rfl⟩
 clear r3_0 r3_1 r3_2 r3_3 r3_4 r3_5 r3_6 r3_7 r3_8 r3_9 r3_10 r3_11 r3_12 o3_0 o3_1 o3_2 o3_3 o3_4 o3_5 o3_6 o3_7 o3_8 o3_9 o3_10 o3_11 o3_12 n3_0 n3_1 n3_2 n3_3 n3_4 n3_5 n3_6 n3_7 n3_8 n3_9 n3_10 n3_11 y3_0 y3_1 y3_2 y3_3 y3_4 y3_5 y3_6 y3_7 y3_8 y3_9 y3_10 y3_11 y3_12
 refine lex_val (k:=0) (N:=some 41) (a':=?a0_26) (.agg #[.int .u8 a0,.int .u8 a1,.int .u32 a2,.int .u32 a3,.slice A4 l4.length c4,.slice A5 l5.length c5,.bool true,.int .u32 (IntKind.u32.wrap (a12 + 1)),.int .u8 b,.int .u8 0,.int .u32 0,.slice none 0 0,.int .u32 (IntKind.u32.wrap (a12 + 1))]) #[true,false,false,false,false,false] rfl rfl (by kernel_rfl) (by rfl) ?h0_26 ?ha0_26 ?r0_26
 case h0_26 =>
  rintro s hs_ d w' hd ⟨hB,hG,hr,ho,hn,hy⟩
  obtain ⟨qy0,qy1,qy2,qy3,qy4,qy5,qy6,qy7,qy8,qy9,qy10,qy11,qy12⟩:=cells13 (hy.trans By3.out)
  refine ⟨w',?_,?_⟩
  ·go_simp
   try with_reducible rfl
  ·exact ⟨hB,hG,hr,ho,hn,hy⟩
 case ha0_26 =>
  simp only [Act.put,List.setIfInBounds_toArray,List.set_cons_zero,List.set_cons_succ,i64_w,i32_w]
  rfl
 case r0_26 =>
  refine lex_val (k:=1) (N:=some 42) (a':=?a1_26) (.agg #[.int .u8 a0,.int .u8 a1,.int .u32 a2,.int .u32 a3,.slice A4 l4.length c4,.slice A5 l5.length c5,.bool true,.int .u32 (IntKind.u32.wrap (a12 + 1)),.int .u8 b,.int .u8 0,.int .u32 0,.slice none 0 0,.int .u32 (IntKind.u32.wrap (a12 + 1))]) #[true,true,false,false,false,false] rfl rfl (by kernel_rfl) (by rfl) ?h1_26 ?ha1_26 ?r1_26
  case h1_26 =>
   rintro s hs_ d w' hd ⟨hB,hG,hr,ho,hn,hy⟩
   obtain ⟨qy0,qy1,qy2,qy3,qy4,qy5,qy6,qy7,qy8,qy9,qy10,qy11,qy12⟩:=cells13 (hy.trans By3.out)
   refine ⟨w',?_,?_⟩
   ·go_simp
    try with_reducible rfl
   ·exact ⟨hB,hG,hr,ho,hn,hy⟩
  case ha1_26 =>
   simp only [Act.put,List.setIfInBounds_toArray,List.set_cons_zero,List.set_cons_succ,i64_w,i32_w]
   rfl
  case r1_26 =>
   refine lex_call (k:=2) (N:=some 43) (a':=?a2_26) 21 #[.agg #[.int .u8 a0,.int .u8 a1,.int .u32 a2,.int .u32 a3,.slice A4 l4.length c4,.slice A5 l5.length c5,.bool true,.int .u32 (IntKind.u32.wrap (a12 + 1)),.int .u8 b,.int .u8 0,.int .u32 0,.slice none 0 0,.int .u32 (IntKind.u32.wrap (a12 + 1))]] (.agg #[.int .i64 1,.int .u8 a0,.int .u8 b,.int .u32 (IntKind.u32.wrap (a12 + 1)),.int .u8 0,.int .u8 a1,.slice A4 l4.length c4,.int .u32 0,.slice none 0 0,.int .u8 0,.bool false,.slice none 0 0]) #[true,true,true,false,false,false] rfl rfl (by kernel_rfl) (by rfl) ?h12_26 ?h2_26 ?ha2_26 ?r2_26
   case h12_26=>intro w';go_simp
   case h2_26 =>
    rintro s hs_ d w' hd ⟨hB,hG,hr,ho,hn,hy⟩
    refine (ref07_Pull_is a0 a1 a2 a3 l4 l5 true (IntKind.u32.wrap (a12 + 1)) b 0 0 [] (IntKind.u32.wrap (a12 + 1)) A4 A5 none c4 c5 0 w').mono ?_
    rintro e w2 ⟨rfl,hx⟩
    exact ⟨rfl,hB.trans (hx.mono hB.size),Nat.le_trans hG hx.size,keep_ hr Br3.out hx,keepi_ ho Bo3.out hx,keepi_ hn Bn3.out hx,keep_ hy By3.out hx⟩
   case ha2_26 =>
    simp only [Act.put,List.setIfInBounds_toArray,List.set_cons_zero,List.set_cons_succ,i64_w,i32_w]
    rfl
   case r2_26 =>
    refine lex_skip (k:=3) (N:=none) (a':=?a3_26) #[true,true,true,true,false,false] rfl rfl (by kernel_rfl) (by rfl) ?h3_26 ?ha3_26 ?r3_26
    case h3_26 =>
     rintro s hs_ d w' hd ⟨hB,hG,hr,ho,hn,hy⟩
     have hb_:=(ho.trans (if_neg (by simp [hd]))).trans Bo3.out
     obtain ⟨_,_,_,_,_,_,_,_,_,_,_,_,_⟩:=frz13 hb_
     obtain ⟨z0,z1,z2,z3,z4,z5,z6,z7,z8,z9,z10,z11,z12⟩:=cells13 hb_
     refine ⟨put_ w' (w.heap.size + 1) 0 [.int .u8 a0,.int .u8 a1,.int .u32 a2,.int .u32 a3,.slice A4 l4.length c4,.slice A5 l5.length c5,.bool true,.int .u32 (IntKind.u32.wrap (a12 + 1)),.int .u8 b,.int .u8 0,.int .u32 0,.slice none 0 0,.int .u32 (IntKind.u32.wrap (a12 + 1))],?_,?_⟩
     ·go_simp
      try rfl
     ·exact ⟨put_below _ (by omega) _ _ _ hB,by rw [put_size];exact hG,(put_far _ _ (by omega) _ _ _).trans hr,(own13_0_13 rfl hb_).trans (if_pos rfl).symm,(put_far _ _ (by omega) _ _ _).trans hn,(put_far _ _ (by omega) _ _ _).trans hy⟩
    case ha3_26=>rfl
    case r3_26 =>
     refine lex_skip (k:=4) (N:=none) (a':=?a4_26) #[true,true,true,true,true,false] rfl rfl (by kernel_rfl) (by rfl) ?h4_26 ?ha4_26 ?r4_26
     case h4_26 =>
      rintro s hs_ d w' hd ⟨hB,hG,hr,ho,hn,hy⟩
      have hb_:=(hn.trans (if_neg (by simp [hd]))).trans Bn3.out
      obtain ⟨_,_,_,_,_,_,_,_,_,_,_,_,_⟩:=frz13 hb_
      obtain ⟨z0,z1,z2,z3,z4,z5,z6,z7,z8,z9,z10,z11⟩:=cells12 hb_
      refine ⟨put_ w' (w.heap.size + 1 + 1) 0 [.int .i64 1,.int .u8 a0,.int .u8 b,.int .u32 (IntKind.u32.wrap (a12 + 1)),.int .u8 0,.int .u8 a1,.slice A4 l4.length c4,.int .u32 0,.slice none 0 0,.int .u8 0,.bool false,.slice none 0 0],?_,?_⟩
      ·go_simp
       try rfl
      ·exact ⟨put_below _ (by omega) _ _ _ hB,by rw [put_size];exact hG,(put_far _ _ (by omega) _ _ _).trans hr,(put_far _ _ (by omega) _ _ _).trans ho,(own12_0_12 rfl hb_).trans (if_pos rfl).symm,(put_far _ _ (by omega) _ _ _).trans hy⟩
     case ha4_26=>rfl
     case r4_26 =>
      refine lex_val (k:=5) (N:=some 6) (a':=?a5_26) (.int .i64 0) #[true,true,true,true,true,true] rfl rfl (by kernel_rfl) (by rfl) ?h5_26 ?ha5_26 ?r5_26
      case h5_26 =>
       rintro s hs_ d w' hd ⟨hB,hG,hr,ho,hn,hy⟩
       refine ⟨w',?_,?_⟩
       ·go_simp
        try with_reducible rfl
       ·exact ⟨hB,hG,hr,ho,hn,hy⟩
      case ha5_26 =>
       simp only [Act.put,List.setIfInBounds_toArray,List.set_cons_zero,List.set_cons_succ,i64_w,i32_w]
       rfl
      case r5_26 =>
       refine lex_done (by kernel_rfl) ?_
       rintro w4 ⟨_,hB,hG,hr,ho,hn,hy⟩
       have Br4:=Aside0.mk (hr.trans Br3.out)
       have Bo4:=Aside0.mk (ho.trans (if_pos rfl))
       have Bn4:=Aside0.mk (hn.trans (if_pos rfl))
       have By4:=Aside0.mk (hy.trans By3.out)
       have HB4:=Aside0.mk hB
       have HG4:=Aside0.mk hG
       clear hB hG hr ho hn hy HB3 HG3 Br3 Bo3 Bn3 By3
       go_wp2_with fail
       refine bodyPost_ret (results_list (rs:=[.cell 4 28,.cell 5 30,.tmp 6]) rfl (by simp) (.cell (w.heap.size + 1) 28 #[.int .u8 a0,.int .u8 a1,.int .u32 a2,.int .u32 a3,.slice A4 l4.length c4,.slice A5 l5.length c5,.bool true,.int .u32 (IntKind.u32.wrap (a12 + 1)),.int .u8 b,.int .u8 0,.int .u32 0,.slice none 0 0,.int .u32 (IntKind.u32.wrap (a12 + 1))] (0,0) _ rfl Bo4.out Tryz.underlying28 rfl (by kernel_rfl) (.cell (w.heap.size + 1 + 1) 30 #[.int .i64 1,.int .u8 a0,.int .u8 b,.int .u32 (IntKind.u32.wrap (a12 + 1)),.int .u8 0,.int .u8 a1,.slice A4 l4.length c4,.int .u32 0,.slice none 0 0,.int .u8 0,.bool false,.slice none 0 0] (0,0) _ rfl Bn4.out Tryz.underlying30 rfl (by kernel_rfl) (.tmp .nil)))) rfl ?_
       exact ⟨rfl,HB4.out⟩
end Go.Proofs.YtiminjibcafkaaaGreatDoor.X
