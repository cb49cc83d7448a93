/- target.Begin: every way. -/
import Derived.Test.YtiminjibcafkaaaGreatDoorTBXhreplicaRight
import Derived.Test.YtiminjibcafkaaaGreatDoorTBXpull
import Derived.Test.YtiminjibcafkaaaGreatDoorTBJ8
namespace Go.Proofs.YtiminjibcafkaaaGreatDoor.X
open Go.RowKit Go.Proofs.YtiminjibcafkaaaGreatDoorW.PrintWords Go.Proofs.YtiminjibcafkaaaGreatDoorW.PrintLast Go.Proofs.YtiminjibcafkaaaGreatDoorW.PrintMore
set_option linter.unusedVariables false
set_option linter.unusedSimpArgs false
set_option maxRecDepth 100000 in
set_option maxHeartbeats 8000000 in
theorem Begin_right (k : Nat) (a0 a1 a2 a3 : Int) (l4 : List S67) (l5 : List S62) (a6 : Bool) (a7 a8 a9 a10 : Int) (l11 : List S67) (a12 : Int) (A4 A5 A11 : Option Addr) (c4 c5 c11 : Nat) (b : Int) (w : World) (r4 : Kd.C k67 w A4 l4.length l4) (i4 : l4.length ≤ c4) (r5 : Kd.C k62 w A5 l5.length l5) (i5 : l5.length ≤ c5) (r11 : Kd.C k67 w A11 l11.length l11) (i11 : l11.length ≤ c11) (hR : replica_Right.f k a0 a1 a2 a3 l4 l5 a6 a7 a8 a9 a10 l11 a12 = some false) : Calls Tryz.prog 14 #[.agg #[.int .u8 a0,.int .u8 a1,.int .u32 a2,.int .u32 a3,.slice A4 l4.length c4,.slice A5 l5.length c5,.bool a6,.int .u32 a7,.int .u8 a8,.int .u8 a9,.int .u32 a10,.slice A11 l11.length c11,.int .u32 a12],.int .u8 b] w fun e w'=>e = .returned (.tuple #[.agg #[.int .u8 0,.int .u8 0,.int .u32 0,.int .u32 0,.slice none 0 0,.slice none 0 0,.bool false,.int .u32 0,.int .u8 0,.int .u8 0,.int .u32 0,.slice none 0 0,.int .u32 0],.agg #[.int .i64 0,.int .u8 0,.int .u8 0,.int .u32 0,.int .u8 0,.int .u8 0,.slice none 0 0,.int .u32 0,.slice none 0 0,.int .u8 0,.bool false,.slice none 0 0],errW (some 9)]) ∧ Below w.heap.size w w':=by
 have huR:=Tryz.underlying28
 have huN:=Tryz.underlying30
 have huS:=Tryz.underlying26
 have hu35:=Tryz.underlying35
 have eN:=errW_none
 have eS:=errW_some
 have R4':=Aside0.mk r4
 have I4':=Aside0.mk i4
 have R5':=Aside0.mk r5
 have I5':=Aside0.mk i5
 have R11':=Aside0.mk r11
 have I11':=Aside0.mk i11
 clear r4 i4 r5 i5 r11 i11
 have HR':=Aside0.mk hR
 clear hR
 go_enter Tryz.func14,Tryz.ntmps14
 go_wp2_with fail
 generalize hW : World.alloc (World.alloc (World.alloc w _) _) _ = w0
 have Br0:=Aside0.mk (al3_0 hW)
 have Bo0:=Aside0.mk (al3_1 hW)
 have Bn0:=Aside0.mk (al3_2 hW)
 have HB0:=Aside0.mk (al3B hW)
 clear hW
 have GG:=Aside0.mk (show w.heap.size + 3 ≤ w0.heap.size by have:=blk_lt Bn0.out;omega)
 have HG0:=Aside0.mk (Nat.le_refl w0.heap.size)
 obtain ⟨r_0,r_1,r_2,r_3,r_4,r_5,r_6,r_7,r_8,r_9,r_10,r_11,r_12⟩:=cells13 Br0.out
 go_wp2_with fail
 refine (replica_Right.calls k a0 a1 a2 a3 _ _ l4 _ _ l5 a6 a7 a8 a9 a10 _ _ l11 a12 false _ (Kd.C_below R4'.out HB0.out) I4'.out (Kd.C_below R5'.out HB0.out) I5'.out (Kd.C_below R11'.out HB0.out) I11'.out HR'.out).mono ?_
 rintro ev w1 ⟨rfl,hx⟩
 have Br1:=Aside0.mk (blk_below Br0.out hx)
 have Bo1:=Aside0.mk (blk_below Bo0.out hx)
 have Bn1:=Aside0.mk (blk_below Bn0.out hx)
 have HB1:=Aside0.mk (below_step HB0.out hx)
 have HG1:=Aside0.mk (Nat.le_trans HG0.out hx.size)
 clear r_0 r_1 r_2 r_3 r_4 r_5 r_6 r_7 r_8 r_9 r_10 r_11 r_12
 clear hx HB0 HG0 Br0 Bo0 Bn0
 obtain ⟨r_0,r_1,r_2,r_3,r_4,r_5,r_6,r_7,r_8,r_9,r_10,r_11,r_12⟩:=cells13 Br1.out
 obtain ⟨o_0,o_1,o_2,o_3,o_4,o_5,o_6,o_7,o_8,o_9,o_10,o_11,o_12⟩:=cells13 Bo1.out
 obtain ⟨n_0,n_1,n_2,n_3,n_4,n_5,n_6,n_7,n_8,n_9,n_10,n_11⟩:=cells12 Bn1.out
 go_wp2_with (first | ((with_reducible refine gate_store (t:=28) (p:=4) rfl ?_);refine store_event (t:=28) (p:=4) (v:=?vo7_) (w1:=put_ w1 (w.heap.size + 1) 0 [.int .u8 0,.int .u8 0,.int .u32 0,.int .u32 0,.slice none 0 0,.slice none 0 0,.bool false,.int .u32 0,.int .u8 0,.int .u8 0,.int .u32 0,.slice none 0 0,.int .u32 0]) ?hg ?ho ?hn ?hr ?_;(case ho=>rfl);(case hg=>rfl);(case hn=>rfl);(case hr=>obtain ⟨_,_,_,_,_,_,_,_,_,_,_,_,_⟩:=frz13 Bo1.out;go_simp;rfl);intro w2 hw;have Br2:=Aside0.mk (far_ hw (by omega) Br1.out);have Bo2:=Aside0.mk (own13_0_13 hw Bo1.out);have Bn2:=Aside0.mk (far_ hw (by omega) Bn1.out);have HB2:=Aside0.mk (bel_ hw (by omega) HB1.out);have HG2:=Aside0.mk (siz_ hw HG1.out);clear hw HB1 HG1 Br1 Bo1 Bn1 r_0 r_1 r_2 r_3 r_4 r_5 r_6 r_7 r_8 r_9 r_10 r_11 r_12 o_0 o_1 o_2 o_3 o_4 o_5 o_6 o_7 o_8 o_9 o_10 o_11 o_12 n_0 n_1 n_2 n_3 n_4 n_5 n_6 n_7 n_8 n_9 n_10 n_11;obtain ⟨r2_0,r2_1,r2_2,r2_3,r2_4,r2_5,r2_6,r2_7,r2_8,r2_9,r2_10,r2_11,r2_12⟩:=cells13 Br2.out;obtain ⟨o2_0,o2_1,o2_2,o2_3,o2_4,o2_5,o2_6,o2_7,o2_8,o2_9,o2_10,o2_11,o2_12⟩:=cells13 Bo2.out;obtain ⟨n2_0,n2_1,n2_2,n2_3,n2_4,n2_5,n2_6,n2_7,n2_8,n2_9,n2_10,n2_11⟩:=cells12 Bn2.out) | ((with_reducible refine gate_store (t:=30) (p:=5) rfl ?_);refine store_event (t:=30) (p:=5) (v:=?vo8_) (w1:=put_ w2 (w.heap.size + 1 + 1) 0 [.int .i64 0,.int .u8 0,.int .u8 0,.int .u32 0,.int .u8 0,.int .u8 0,.slice none 0 0,.int .u32 0,.slice none 0 0,.int .u8 0,.bool false,.slice none 0 0]) ?hg ?ho ?hn ?hr ?_;(case ho=>rfl);(case hg=>rfl);(case hn=>rfl);(case hr=>obtain ⟨_,_,_,_,_,_,_,_,_,_,_,_,_⟩:=frz13 Bn2.out;go_simp;rfl);intro w3 hw;have Br3:=Aside0.mk (far_ hw (by omega) Br2.out);have Bo3:=Aside0.mk (far_ hw (by omega) Bo2.out);have Bn3:=Aside0.mk (own12_0_12 hw Bn2.out);have HB3:=Aside0.mk (bel_ hw (by omega) HB2.out);have HG3:=Aside0.mk (siz_ hw HG2.out);clear hw HB2 HG2 Br2 Bo2 Bn2 r2_0 r2_1 r2_2 r2_3 r2_4 r2_5 r2_6 r2_7 r2_8 r2_9 r2_10 r2_11 r2_12 o2_0 o2_1 o2_2 o2_3 o2_4 o2_5 o2_6 o2_7 o2_8 o2_9 o2_10 o2_11 o2_12 n2_0 n2_1 n2_2 n2_3 n2_4 n2_5 n2_6 n2_7 n2_8 n2_9 n2_10 n2_11;obtain ⟨r3_0,r3_1,r3_2,r3_3,r3_4,r3_5,r3_6,r3_7,r3_8,r3_9,r3_10,r3_11,r3_12⟩:=cells13 Br3.out;obtain ⟨o3_0,o3_1,o3_2,o3_3,o3_4,o3_5,o3_6,o3_7,o3_8,o3_9,o3_10,o3_11,o3_12⟩:=cells13 Bo3.out;obtain ⟨n3_0,n3_1,n3_2,n3_3,n3_4,n3_5,n3_6,n3_7,n3_8,n3_9,n3_10,n3_11⟩:=cells12 Bn3.out))
 refine bodyPost_ret (results_list (rs:=[.cell 4 28,.cell 5 30,.tmp 6]) rfl (by simp) (.cell (w.heap.size + 1) 28 #[.int .u8 0,.int .u8 0,.int .u32 0,.int .u32 0,.slice none 0 0,.slice none 0 0,.bool false,.int .u32 0,.int .u8 0,.int .u8 0,.int .u32 0,.slice none 0 0,.int .u32 0] (0,0) _ rfl Bo3.out Tryz.underlying28 rfl (by kernel_rfl) (.cell (w.heap.size + 1 + 1) 30 #[.int .i64 0,.int .u8 0,.int .u8 0,.int .u32 0,.int .u8 0,.int .u8 0,.slice none 0 0,.int .u32 0,.slice none 0 0,.int .u8 0,.bool false,.slice none 0 0] (0,0) _ rfl Bn3.out Tryz.underlying30 rfl (by kernel_rfl) (.tmp .nil)))) rfl ?_
 exact ⟨by first | rfl | rw [eS],HB3.out⟩
set_option maxRecDepth 100000 in
set_option maxHeartbeats 8000000 in
theorem Begin_from (k : Nat) (a0 a1 a2 a3 : Int) (l4 : List S67) (l5 : List S62) (a6 : Bool) (a7 a8 a9 a10 : Int) (l11 : List S67) (a12 : Int) (A4 A5 A11 : Option Addr) (c4 c5 c11 : Nat) (b : Int) (w : World) (r4 : Kd.C k67 w A4 l4.length l4) (i4 : l4.length ≤ c4) (r5 : Kd.C k62 w A5 l5.length l5) (i5 : l5.length ≤ c5) (r11 : Kd.C k67 w A11 l11.length l11) (i11 : l11.length ≤ c11) (hR : replica_Right.f k a0 a1 a2 a3 l4 l5 a6 a7 a8 a9 a10 l11 a12 = some true) (hf : 8 ≤ b) : Calls Tryz.prog 14 #[.agg #[.int .u8 a0,.int .u8 a1,.int .u32 a2,.int .u32 a3,.slice A4 l4.length c4,.slice A5 l5.length c5,.bool a6,.int .u32 a7,.int .u8 a8,.int .u8 a9,.int .u32 a10,.slice A11 l11.length c11,.int .u32 a12],.int .u8 b] w fun e w'=>e = .returned (.tuple #[.agg #[.int .u8 0,.int .u8 0,.int .u32 0,.int .u32 0,.slice none 0 0,.slice none 0 0,.bool false,.int .u32 0,.int .u8 0,.int .u8 0,.int .u32 0,.slice none 0 0,.int .u32 0],.agg #[.int .i64 0,.int .u8 0,.int .u8 0,.int .u32 0,.int .u8 0,.int .u8 0,.slice none 0 0,.int .u32 0,.slice none 0 0,.int .u8 0,.bool false,.slice none 0 0],errW (some 9)]) ∧ Below w.heap.size w w':=by
 have huR:=Tryz.underlying28
 have huN:=Tryz.underlying30
 have huS:=Tryz.underlying26
 have hu35:=Tryz.underlying35
 have eN:=errW_none
 have eS:=errW_some
 have R4':=Aside0.mk r4
 have I4':=Aside0.mk i4
 have R5':=Aside0.mk r5
 have I5':=Aside0.mk i5
 have R11':=Aside0.mk r11
 have I11':=Aside0.mk i11
 clear r4 i4 r5 i5 r11 i11
 have HR':=Aside0.mk hR
 clear hR
 have hf1 : decide (b ≥ 8) = true:=decide_eq_true hf
 have hf2 : decide (8 ≤ b) = true:=decide_eq_true hf
 clear hf
 go_enter Tryz.func14,Tryz.ntmps14
 go_wp2_with fail
 generalize hW : World.alloc (World.alloc (World.alloc w _) _) _ = w0
 have Br0:=Aside0.mk (al3_0 hW)
 have Bo0:=Aside0.mk (al3_1 hW)
 have Bn0:=Aside0.mk (al3_2 hW)
 have HB0:=Aside0.mk (al3B hW)
 clear hW
 have GG:=Aside0.mk (show w.heap.size + 3 ≤ w0.heap.size by have:=blk_lt Bn0.out;omega)
 have HG0:=Aside0.mk (Nat.le_refl w0.heap.size)
 obtain ⟨r_0,r_1,r_2,r_3,r_4,r_5,r_6,r_7,r_8,r_9,r_10,r_11,r_12⟩:=cells13 Br0.out
 go_wp2_with fail
 refine (replica_Right.calls k a0 a1 a2 a3 _ _ l4 _ _ l5 a6 a7 a8 a9 a10 _ _ l11 a12 true _ (Kd.C_below R4'.out HB0.out) I4'.out (Kd.C_below R5'.out HB0.out) I5'.out (Kd.C_below R11'.out HB0.out) I11'.out HR'.out).mono ?_
 rintro ev w1 ⟨rfl,hx⟩
 have Br1:=Aside0.mk (blk_below Br0.out hx)
 have Bo1:=Aside0.mk (blk_below Bo0.out hx)
 have Bn1:=Aside0.mk (blk_below Bn0.out hx)
 have HB1:=Aside0.mk (below_step HB0.out hx)
 have HG1:=Aside0.mk (Nat.le_trans HG0.out hx.size)
 clear r_0 r_1 r_2 r_3 r_4 r_5 r_6 r_7 r_8 r_9 r_10 r_11 r_12
 clear hx HB0 HG0 Br0 Bo0 Bn0
 obtain ⟨r_0,r_1,r_2,r_3,r_4,r_5,r_6,r_7,r_8,r_9,r_10,r_11,r_12⟩:=cells13 Br1.out
 obtain ⟨o_0,o_1,o_2,o_3,o_4,o_5,o_6,o_7,o_8,o_9,o_10,o_11,o_12⟩:=cells13 Bo1.out
 obtain ⟨n_0,n_1,n_2,n_3,n_4,n_5,n_6,n_7,n_8,n_9,n_10,n_11⟩:=cells12 Bn1.out
 go_wp2_with (first | ((with_reducible refine gate_store (t:=28) (p:=4) rfl ?_);refine store_event (t:=28) (p:=4) (v:=?vo9_) (w1:=put_ w1 (w.heap.size + 1) 0 [.int .u8 0,.int .u8 0,.int .u32 0,.int .u32 0,.slice none 0 0,.slice none 0 0,.bool false,.int .u32 0,.int .u8 0,.int .u8 0,.int .u32 0,.slice none 0 0,.int .u32 0]) ?hg ?ho ?hn ?hr ?_;(case ho=>rfl);(case hg=>rfl);(case hn=>rfl);(case hr=>obtain ⟨_,_,_,_,_,_,_,_,_,_,_,_,_⟩:=frz13 Bo1.out;go_simp;rfl);intro w2 hw;have Br2:=Aside0.mk (far_ hw (by omega) Br1.out);have Bo2:=Aside0.mk (own13_0_13 hw Bo1.out);have Bn2:=Aside0.mk (far_ hw (by omega) Bn1.out);have HB2:=Aside0.mk (bel_ hw (by omega) HB1.out);have HG2:=Aside0.mk (siz_ hw HG1.out);clear hw HB1 HG1 Br1 Bo1 Bn1 r_0 r_1 r_2 r_3 r_4 r_5 r_6 r_7 r_8 r_9 r_10 r_11 r_12 o_0 o_1 o_2 o_3 o_4 o_5 o_6 o_7 o_8 o_9 o_10 o_11 o_12 n_0 n_1 n_2 n_3 n_4 n_5 n_6 n_7 n_8 n_9 n_10 n_11;obtain ⟨r2_0,r2_1,r2_2,r2_3,r2_4,r2_5,r2_6,r2_7,r2_8,r2_9,r2_10,r2_11,r2_12⟩:=cells13 Br2.out;obtain ⟨o2_0,o2_1,o2_2,o2_3,o2_4,o2_5,o2_6,o2_7,o2_8,o2_9,o2_10,o2_11,o2_12⟩:=cells13 Bo2.out;obtain ⟨n2_0,n2_1,n2_2,n2_3,n2_4,n2_5,n2_6,n2_7,n2_8,n2_9,n2_10,n2_11⟩:=cells12 Bn2.out) | ((with_reducible refine gate_store (t:=30) (p:=5) rfl ?_);refine store_event (t:=30) (p:=5) (v:=?vo10_) (w1:=put_ w2 (w.heap.size + 1 + 1) 0 [.int .i64 0,.int .u8 0,.int .u8 0,.int .u32 0,.int .u8 0,.int .u8 0,.slice none 0 0,.int .u32 0,.slice none 0 0,.int .u8 0,.bool false,.slice none 0 0]) ?hg ?ho ?hn ?hr ?_;(case ho=>rfl);(case hg=>rfl);(case hn=>rfl);(case hr=>obtain ⟨_,_,_,_,_,_,_,_,_,_,_,_,_⟩:=frz13 Bn2.out;go_simp;rfl);intro w3 hw;have Br3:=Aside0.mk (far_ hw (by omega) Br2.out);have Bo3:=Aside0.mk (far_ hw (by omega) Bo2.out);have Bn3:=Aside0.mk (own12_0_12 hw Bn2.out);have HB3:=Aside0.mk (bel_ hw (by omega) HB2.out);have HG3:=Aside0.mk (siz_ hw HG2.out);clear hw HB2 HG2 Br2 Bo2 Bn2 r2_0 r2_1 r2_2 r2_3 r2_4 r2_5 r2_6 r2_7 r2_8 r2_9 r2_10 r2_11 r2_12 o2_0 o2_1 o2_2 o2_3 o2_4 o2_5 o2_6 o2_7 o2_8 o2_9 o2_10 o2_11 o2_12 n2_0 n2_1 n2_2 n2_3 n2_4 n2_5 n2_6 n2_7 n2_8 n2_9 n2_10 n2_11;obtain ⟨r3_0,r3_1,r3_2,r3_3,r3_4,r3_5,r3_6,r3_7,r3_8,r3_9,r3_10,r3_11,r3_12⟩:=cells13 Br3.out;obtain ⟨o3_0,o3_1,o3_2,o3_3,o3_4,o3_5,o3_6,o3_7,o3_8,o3_9,o3_10,o3_11,o3_12⟩:=cells13 Bo3.out;obtain ⟨n3_0,n3_1,n3_2,n3_3,n3_4,n3_5,n3_6,n3_7,n3_8,n3_9,n3_10,n3_11⟩:=cells12 Bn3.out))
 refine bodyPost_ret (results_list (rs:=[.cell 4 28,.cell 5 30,.tmp 6]) rfl (by simp) (.cell (w.heap.size + 1) 28 #[.int .u8 0,.int .u8 0,.int .u32 0,.int .u32 0,.slice none 0 0,.slice none 0 0,.bool false,.int .u32 0,.int .u8 0,.int .u8 0,.int .u32 0,.slice none 0 0,.int .u32 0] (0,0) _ rfl Bo3.out Tryz.underlying28 rfl (by kernel_rfl) (.cell (w.heap.size + 1 + 1) 30 #[.int .i64 0,.int .u8 0,.int .u8 0,.int .u32 0,.int .u8 0,.int .u8 0,.slice none 0 0,.int .u32 0,.slice none 0 0,.int .u8 0,.bool false,.slice none 0 0] (0,0) _ rfl Bn3.out Tryz.underlying30 rfl (by kernel_rfl) (.tmp .nil)))) rfl ?_
 exact ⟨by first | rfl | rw [eS],HB3.out⟩
set_option maxRecDepth 100000 in
set_option maxHeartbeats 8000000 in
theorem Begin_self (k : Nat) (a0 a1 a2 a3 : Int) (l4 : List S67) (l5 : List S62) (a6 : Bool) (a7 a8 a9 a10 : Int) (l11 : List S67) (a12 : Int) (A4 A5 A11 : Option Addr) (c4 c5 c11 : Nat) (b : Int) (w : World) (r4 : Kd.C k67 w A4 l4.length l4) (i4 : l4.length ≤ c4) (r5 : Kd.C k62 w A5 l5.length l5) (i5 : l5.length ≤ c5) (r11 : Kd.C k67 w A11 l11.length l11) (i11 : l11.length ≤ c11) (hR : replica_Right.f k a0 a1 a2 a3 l4 l5 a6 a7 a8 a9 a10 l11 a12 = some true) (hf : ¬ 8 ≤ b) (hs : b = a0) : Calls Tryz.prog 14 #[.agg #[.int .u8 a0,.int .u8 a1,.int .u32 a2,.int .u32 a3,.slice A4 l4.length c4,.slice A5 l5.length c5,.bool a6,.int .u32 a7,.int .u8 a8,.int .u8 a9,.int .u32 a10,.slice A11 l11.length c11,.int .u32 a12],.int .u8 b] w fun e w'=>e = .returned (.tuple #[.agg #[.int .u8 0,.int .u8 0,.int .u32 0,.int .u32 0,.slice none 0 0,.slice none 0 0,.bool false,.int .u32 0,.int .u8 0,.int .u8 0,.int .u32 0,.slice none 0 0,.int .u32 0],.agg #[.int .i64 0,.int .u8 0,.int .u8 0,.int .u32 0,.int .u8 0,.int .u8 0,.slice none 0 0,.int .u32 0,.slice none 0 0,.int .u8 0,.bool false,.slice none 0 0],errW (some 9)]) ∧ Below w.heap.size w w':=by
 have huR:=Tryz.underlying28
 have huN:=Tryz.underlying30
 have huS:=Tryz.underlying26
 have hu35:=Tryz.underlying35
 have eN:=errW_none
 have eS:=errW_some
 have R4':=Aside0.mk r4
 have I4':=Aside0.mk i4
 have R5':=Aside0.mk r5
 have I5':=Aside0.mk i5
 have R11':=Aside0.mk r11
 have I11':=Aside0.mk i11
 clear r4 i4 r5 i5 r11 i11
 have HR':=Aside0.mk hR
 clear hR
 have hf1 : decide (b ≥ 8) = false:=decide_eq_false hf
 have hf2 : decide (8 ≤ b) = false:=decide_eq_false hf
 clear hf
 have hs1 : decide (b = a0) = true:=decide_eq_true hs
 have hs2 : (b == a0) = true:=by simp [hs]
 clear hs
 go_enter Tryz.func14,Tryz.ntmps14
 go_wp2_with fail
 generalize hW : World.alloc (World.alloc (World.alloc w _) _) _ = w0
 have Br0:=Aside0.mk (al3_0 hW)
 have Bo0:=Aside0.mk (al3_1 hW)
 have Bn0:=Aside0.mk (al3_2 hW)
 have HB0:=Aside0.mk (al3B hW)
 clear hW
 have GG:=Aside0.mk (show w.heap.size + 3 ≤ w0.heap.size by have:=blk_lt Bn0.out;omega)
 have HG0:=Aside0.mk (Nat.le_refl w0.heap.size)
 obtain ⟨r_0,r_1,r_2,r_3,r_4,r_5,r_6,r_7,r_8,r_9,r_10,r_11,r_12⟩:=cells13 Br0.out
 go_wp2_with fail
 refine (replica_Right.calls k a0 a1 a2 a3 _ _ l4 _ _ l5 a6 a7 a8 a9 a10 _ _ l11 a12 true _ (Kd.C_below R4'.out HB0.out) I4'.out (Kd.C_below R5'.out HB0.out) I5'.out (Kd.C_below R11'.out HB0.out) I11'.out HR'.out).mono ?_
 rintro ev w1 ⟨rfl,hx⟩
 have Br1:=Aside0.mk (blk_below Br0.out hx)
 have Bo1:=Aside0.mk (blk_below Bo0.out hx)
 have Bn1:=Aside0.mk (blk_below Bn0.out hx)
 have HB1:=Aside0.mk (below_step HB0.out hx)
 have HG1:=Aside0.mk (Nat.le_trans HG0.out hx.size)
 clear r_0 r_1 r_2 r_3 r_4 r_5 r_6 r_7 r_8 r_9 r_10 r_11 r_12
 clear hx HB0 HG0 Br0 Bo0 Bn0
 obtain ⟨r_0,r_1,r_2,r_3,r_4,r_5,r_6,r_7,r_8,r_9,r_10,r_11,r_12⟩:=cells13 Br1.out
 obtain ⟨o_0,o_1,o_2,o_3,o_4,o_5,o_6,o_7,o_8,o_9,o_10,o_11,o_12⟩:=cells13 Bo1.out
 obtain ⟨n_0,n_1,n_2,n_3,n_4,n_5,n_6,n_7,n_8,n_9,n_10,n_11⟩:=cells12 Bn1.out
 go_wp2_with (first | ((with_reducible refine gate_store (t:=28) (p:=4) rfl ?_);refine store_event (t:=28) (p:=4) (v:=?vo11_) (w1:=put_ w1 (w.heap.size + 1) 0 [.int .u8 0,.int .u8 0,.int .u32 0,.int .u32 0,.slice none 0 0,.slice none 0 0,.bool false,.int .u32 0,.int .u8 0,.int .u8 0,.int .u32 0,.slice none 0 0,.int .u32 0]) ?hg ?ho ?hn ?hr ?_;(case ho=>rfl);(case hg=>rfl);(case hn=>rfl);(case hr=>obtain ⟨_,_,_,_,_,_,_,_,_,_,_,_,_⟩:=frz13 Bo1.out;go_simp;rfl);intro w2 hw;have Br2:=Aside0.mk (far_ hw (by omega) Br1.out);have Bo2:=Aside0.mk (own13_0_13 hw Bo1.out);have Bn2:=Aside0.mk (far_ hw (by omega) Bn1.out);have HB2:=Aside0.mk (bel_ hw (by omega) HB1.out);have HG2:=Aside0.mk (siz_ hw HG1.out);clear hw HB1 HG1 Br1 Bo1 Bn1 r_0 r_1 r_2 r_3 r_4 r_5 r_6 r_7 r_8 r_9 r_10 r_11 r_12 o_0 o_1 o_2 o_3 o_4 o_5 o_6 o_7 o_8 o_9 o_10 o_11 o_12 n_0 n_1 n_2 n_3 n_4 n_5 n_6 n_7 n_8 n_9 n_10 n_11;obtain ⟨r2_0,r2_1,r2_2,r2_3,r2_4,r2_5,r2_6,r2_7,r2_8,r2_9,r2_10,r2_11,r2_12⟩:=cells13 Br2.out;obtain ⟨o2_0,o2_1,o2_2,o2_3,o2_4,o2_5,o2_6,o2_7,o2_8,o2_9,o2_10,o2_11,o2_12⟩:=cells13 Bo2.out;obtain ⟨n2_0,n2_1,n2_2,n2_3,n2_4,n2_5,n2_6,n2_7,n2_8,n2_9,n2_10,n2_11⟩:=cells12 Bn2.out) | ((with_reducible refine gate_store (t:=30) (p:=5) rfl ?_);refine store_event (t:=30) (p:=5) (v:=?vo12_) (w1:=put_ w2 (w.heap.size + 1 + 1) 0 [.int .i64 0,.int .u8 0,.int .u8 0,.int .u32 0,.int .u8 0,.int .u8 0,.slice none 0 0,.int .u32 0,.slice none 0 0,.int .u8 0,.bool false,.slice none 0 0]) ?hg ?ho ?hn ?hr ?_;(case ho=>rfl);(case hg=>rfl);(case hn=>rfl);(case hr=>obtain ⟨_,_,_,_,_,_,_,_,_,_,_,_,_⟩:=frz13 Bn2.out;go_simp;rfl);intro w3 hw;have Br3:=Aside0.mk (far_ hw (by omega) Br2.out);have Bo3:=Aside0.mk (far_ hw (by omega) Bo2.out);have Bn3:=Aside0.mk (own12_0_12 hw Bn2.out);have HB3:=Aside0.mk (bel_ hw (by omega) HB2.out);have HG3:=Aside0.mk (siz_ hw HG2.out);clear hw HB2 HG2 Br2 Bo2 Bn2 r2_0 r2_1 r2_2 r2_3 r2_4 r2_5 r2_6 r2_7 r2_8 r2_9 r2_10 r2_11 r2_12 o2_0 o2_1 o2_2 o2_3 o2_4 o2_5 o2_6 o2_7 o2_8 o2_9 o2_10 o2_11 o2_12 n2_0 n2_1 n2_2 n2_3 n2_4 n2_5 n2_6 n2_7 n2_8 n2_9 n2_10 n2_11;obtain ⟨r3_0,r3_1,r3_2,r3_3,r3_4,r3_5,r3_6,r3_7,r3_8,r3_9,r3_10,r3_11,r3_12⟩:=cells13 Br3.out;obtain ⟨o3_0,o3_1,o3_2,o3_3,o3_4,o3_5,o3_6,o3_7,o3_8,o3_9,o3_10,o3_11,o3_12⟩:=cells13 Bo3.out;obtain ⟨n3_0,n3_1,n3_2,n3_3,n3_4,n3_5,n3_6,n3_7,n3_8,n3_9,n3_10,n3_11⟩:=cells12 Bn3.out))
 refine bodyPost_ret (results_list (rs:=[.cell 4 28,.cell 5 30,.tmp 6]) rfl (by simp) (.cell (w.heap.size + 1) 28 #[.int .u8 0,.int .u8 0,.int .u32 0,.int .u32 0,.slice none 0 0,.slice none 0 0,.bool false,.int .u32 0,.int .u8 0,.int .u8 0,.int .u32 0,.slice none 0 0,.int .u32 0] (0,0) _ rfl Bo3.out Tryz.underlying28 rfl (by kernel_rfl) (.cell (w.heap.size + 1 + 1) 30 #[.int .i64 0,.int .u8 0,.int .u8 0,.int .u32 0,.int .u8 0,.int .u8 0,.slice none 0 0,.int .u32 0,.slice none 0 0,.int .u8 0,.bool false,.slice none 0 0] (0,0) _ rfl Bn3.out Tryz.underlying30 rfl (by kernel_rfl) (.tmp .nil)))) rfl ?_
 exact ⟨by first | rfl | rw [eS],HB3.out⟩
set_option maxRecDepth 100000 in
set_option maxHeartbeats 8000000 in
theorem Begin_last (k : Nat) (a0 a1 a2 a3 : Int) (l4 : List S67) (l5 : List S62) (a6 : Bool) (a7 a8 a9 a10 : Int) (l11 : List S67) (a12 : Int) (A4 A5 A11 : Option Addr) (c4 c5 c11 : Nat) (b : Int) (w : World) (r4 : Kd.C k67 w A4 l4.length l4) (i4 : l4.length ≤ c4) (r5 : Kd.C k62 w A5 l5.length l5) (i5 : l5.length ≤ c5) (r11 : Kd.C k67 w A11 l11.length l11) (i11 : l11.length ≤ c11) (hR : replica_Right.f k a0 a1 a2 a3 l4 l5 a6 a7 a8 a9 a10 l11 a12 = some true) (hf : ¬ 8 ≤ b) (hs : ¬ b = a0) (hl : a12 = 4294967295) : Calls Tryz.prog 14 #[.agg #[.int .u8 a0,.int .u8 a1,.int .u32 a2,.int .u32 a3,.slice A4 l4.length c4,.slice A5 l5.length c5,.bool a6,.int .u32 a7,.int .u8 a8,.int .u8 a9,.int .u32 a10,.slice A11 l11.length c11,.int .u32 a12],.int .u8 b] w fun e w'=>e = .returned (.tuple #[.agg #[.int .u8 0,.int .u8 0,.int .u32 0,.int .u32 0,.slice none 0 0,.slice none 0 0,.bool false,.int .u32 0,.int .u8 0,.int .u8 0,.int .u32 0,.slice none 0 0,.int .u32 0],.agg #[.int .i64 0,.int .u8 0,.int .u8 0,.int .u32 0,.int .u8 0,.int .u8 0,.slice none 0 0,.int .u32 0,.slice none 0 0,.int .u8 0,.bool false,.slice none 0 0],errW (some 5)]) ∧ Below w.heap.size w w':=by
 have huR:=Tryz.underlying28
 have huN:=Tryz.underlying30
 have huS:=Tryz.underlying26
 have hu35:=Tryz.underlying35
 have eN:=errW_none
 have eS:=errW_some
 have R4':=Aside0.mk r4
 have I4':=Aside0.mk i4
 have R5':=Aside0.mk r5
 have I5':=Aside0.mk i5
 have R11':=Aside0.mk r11
 have I11':=Aside0.mk i11
 clear r4 i4 r5 i5 r11 i11
 have HR':=Aside0.mk hR
 clear hR
 have hf1 : decide (b ≥ 8) = false:=decide_eq_false hf
 have hf2 : decide (8 ≤ b) = false:=decide_eq_false hf
 clear hf
 have hs1 : decide (b = a0) = false:=decide_eq_false hs
 have hs2 : (b == a0) = false:=by simp [hs]
 clear hs
 have hl1 : decide (a12 = 4294967295) = true:=decide_eq_true hl
 have hl2 : (a12 == 4294967295) = true:=by simp [hl]
 clear hl
 go_enter Tryz.func14,Tryz.ntmps14
 go_wp2_with fail
 generalize hW : World.alloc (World.alloc (World.alloc w _) _) _ = w0
 have Br0:=Aside0.mk (al3_0 hW)
 have Bo0:=Aside0.mk (al3_1 hW)
 have Bn0:=Aside0.mk (al3_2 hW)
 have HB0:=Aside0.mk (al3B hW)
 clear hW
 have GG:=Aside0.mk (show w.heap.size + 3 ≤ w0.heap.size by have:=blk_lt Bn0.out;omega)
 have HG0:=Aside0.mk (Nat.le_refl w0.heap.size)
 obtain ⟨r_0,r_1,r_2,r_3,r_4,r_5,r_6,r_7,r_8,r_9,r_10,r_11,r_12⟩:=cells13 Br0.out
 go_wp2_with fail
 refine (replica_Right.calls k a0 a1 a2 a3 _ _ l4 _ _ l5 a6 a7 a8 a9 a10 _ _ l11 a12 true _ (Kd.C_below R4'.out HB0.out) I4'.out (Kd.C_below R5'.out HB0.out) I5'.out (Kd.C_below R11'.out HB0.out) I11'.out HR'.out).mono ?_
 rintro ev w1 ⟨rfl,hx⟩
 have Br1:=Aside0.mk (blk_below Br0.out hx)
 have Bo1:=Aside0.mk (blk_below Bo0.out hx)
 have Bn1:=Aside0.mk (blk_below Bn0.out hx)
 have HB1:=Aside0.mk (below_step HB0.out hx)
 have HG1:=Aside0.mk (Nat.le_trans HG0.out hx.size)
 clear r_0 r_1 r_2 r_3 r_4 r_5 r_6 r_7 r_8 r_9 r_10 r_11 r_12
 clear hx HB0 HG0 Br0 Bo0 Bn0
 obtain ⟨r_0,r_1,r_2,r_3,r_4,r_5,r_6,r_7,r_8,r_9,r_10,r_11,r_12⟩:=cells13 Br1.out
 obtain ⟨o_0,o_1,o_2,o_3,o_4,o_5,o_6,o_7,o_8,o_9,o_10,o_11,o_12⟩:=cells13 Bo1.out
 obtain ⟨n_0,n_1,n_2,n_3,n_4,n_5,n_6,n_7,n_8,n_9,n_10,n_11⟩:=cells12 Bn1.out
 go_wp2_with (first | ((with_reducible refine gate_store (t:=28) (p:=4) rfl ?_);refine store_event (t:=28) (p:=4) (v:=?vo13_) (w1:=put_ w1 (w.heap.size + 1) 0 [.int .u8 0,.int .u8 0,.int .u32 0,.int .u32 0,.slice none 0 0,.slice none 0 0,.bool false,.int .u32 0,.int .u8 0,.int .u8 0,.int .u32 0,.slice none 0 0,.int .u32 0]) ?hg ?ho ?hn ?hr ?_;(case ho=>rfl);(case hg=>rfl);(case hn=>rfl);(case hr=>obtain ⟨_,_,_,_,_,_,_,_,_,_,_,_,_⟩:=frz13 Bo1.out;go_simp;rfl);intro w2 hw;have Br2:=Aside0.mk (far_ hw (by omega) Br1.out);have Bo2:=Aside0.mk (own13_0_13 hw Bo1.out);have Bn2:=Aside0.mk (far_ hw (by omega) Bn1.out);have HB2:=Aside0.mk (bel_ hw (by omega) HB1.out);have HG2:=Aside0.mk (siz_ hw HG1.out);clear hw HB1 HG1 Br1 Bo1 Bn1 r_0 r_1 r_2 r_3 r_4 r_5 r_6 r_7 r_8 r_9 r_10 r_11 r_12 o_0 o_1 o_2 o_3 o_4 o_5 o_6 o_7 o_8 o_9 o_10 o_11 o_12 n_0 n_1 n_2 n_3 n_4 n_5 n_6 n_7 n_8 n_9 n_10 n_11;obtain ⟨r2_0,r2_1,r2_2,r2_3,r2_4,r2_5,r2_6,r2_7,r2_8,r2_9,r2_10,r2_11,r2_12⟩:=cells13 Br2.out;obtain ⟨o2_0,o2_1,o2_2,o2_3,o2_4,o2_5,o2_6,o2_7,o2_8,o2_9,o2_10,o2_11,o2_12⟩:=cells13 Bo2.out;obtain ⟨n2_0,n2_1,n2_2,n2_3,n2_4,n2_5,n2_6,n2_7,n2_8,n2_9,n2_10,n2_11⟩:=cells12 Bn2.out) | ((with_reducible refine gate_store (t:=30) (p:=5) rfl ?_);refine store_event (t:=30) (p:=5) (v:=?vo14_) (w1:=put_ w2 (w.heap.size + 1 + 1) 0 [.int .i64 0,.int .u8 0,.int .u8 0,.int .u32 0,.int .u8 0,.int .u8 0,.slice none 0 0,.int .u32 0,.slice none 0 0,.int .u8 0,.bool false,.slice none 0 0]) ?hg ?ho ?hn ?hr ?_;(case ho=>rfl);(case hg=>rfl);(case hn=>rfl);(case hr=>obtain ⟨_,_,_,_,_,_,_,_,_,_,_,_,_⟩:=frz13 Bn2.out;go_simp;rfl);intro w3 hw;have Br3:=Aside0.mk (far_ hw (by omega) Br2.out);have Bo3:=Aside0.mk (far_ hw (by omega) Bo2.out);have Bn3:=Aside0.mk (own12_0_12 hw Bn2.out);have HB3:=Aside0.mk (bel_ hw (by omega) HB2.out);have HG3:=Aside0.mk (siz_ hw HG2.out);clear hw HB2 HG2 Br2 Bo2 Bn2 r2_0 r2_1 r2_2 r2_3 r2_4 r2_5 r2_6 r2_7 r2_8 r2_9 r2_10 r2_11 r2_12 o2_0 o2_1 o2_2 o2_3 o2_4 o2_5 o2_6 o2_7 o2_8 o2_9 o2_10 o2_11 o2_12 n2_0 n2_1 n2_2 n2_3 n2_4 n2_5 n2_6 n2_7 n2_8 n2_9 n2_10 n2_11;obtain ⟨r3_0,r3_1,r3_2,r3_3,r3_4,r3_5,r3_6,r3_7,r3_8,r3_9,r3_10,r3_11,r3_12⟩:=cells13 Br3.out;obtain ⟨o3_0,o3_1,o3_2,o3_3,o3_4,o3_5,o3_6,o3_7,o3_8,o3_9,o3_10,o3_11,o3_12⟩:=cells13 Bo3.out;obtain ⟨n3_0,n3_1,n3_2,n3_3,n3_4,n3_5,n3_6,n3_7,n3_8,n3_9,n3_10,n3_11⟩:=cells12 Bn3.out))
 refine bodyPost_ret (results_list (rs:=[.cell 4 28,.cell 5 30,.tmp 6]) rfl (by simp) (.cell (w.heap.size + 1) 28 #[.int .u8 0,.int .u8 0,.int .u32 0,.int .u32 0,.slice none 0 0,.slice none 0 0,.bool false,.int .u32 0,.int .u8 0,.int .u8 0,.int .u32 0,.slice none 0 0,.int .u32 0] (0,0) _ rfl Bo3.out Tryz.underlying28 rfl (by kernel_rfl) (.cell (w.heap.size + 1 + 1) 30 #[.int .i64 0,.int .u8 0,.int .u8 0,.int .u32 0,.int .u8 0,.int .u8 0,.slice none 0 0,.int .u32 0,.slice none 0 0,.int .u8 0,.bool false,.slice none 0 0] (0,0) _ rfl Bn3.out Tryz.underlying30 rfl (by kernel_rfl) (.tmp .nil)))) rfl ?_
 exact ⟨by first | rfl | rw [eS],HB3.out⟩
set_option maxRecDepth 100000 in
set_option maxHeartbeats 8000000 in
theorem Begin_ok (k : Nat) (a0 a1 a2 a3 : Int) (l4 : List S67) (l5 : List S62) (a6 : Bool) (a7 a8 a9 a10 : Int) (l11 : List S67) (a12 : Int) (A4 A5 A11 : Option Addr) (c4 c5 c11 : Nat) (b : Int) (w : World) (r4 : Kd.C k67 w A4 l4.length l4) (i4 : l4.length ≤ c4) (r5 : Kd.C k62 w A5 l5.length l5) (i5 : l5.length ≤ c5) (r11 : Kd.C k67 w A11 l11.length l11) (i11 : l11.length ≤ c11) (S : Nat → Prop) (hS : ∀ j,w.heap.size ≤ j → S j) (hlen : l4.length ≤ 400000) (hR : replica_Right.f k a0 a1 a2 a3 l4 l5 a6 a7 a8 a9 a10 l11 a12 = some true) (hf : ¬ 8 ≤ b) (hs : ¬ b = a0) (hl : ¬ a12 = 4294967295) : Calls Tryz.prog 14 #[.agg #[.int .u8 a0,.int .u8 a1,.int .u32 a2,.int .u32 a3,.slice A4 l4.length c4,.slice A5 l5.length c5,.bool a6,.int .u32 a7,.int .u8 a8,.int .u8 a9,.int .u32 a10,.slice A11 l11.length c11,.int .u32 a12],.int .u8 b] w fun e w'=>∃ T c T1 c1 T2 c2,e = .returned (.tuple #[.agg #[.int .u8 a0,.int .u8 a1,.int .u32 a2,.int .u32 a3,.slice A4 l4.length c4,.slice A5 l5.length c5,.bool true,.int .u32 (IntKind.u32.wrap (a12 + 1)),.int .u8 b,.int .u8 0,.int .u32 0,.slice none 0 0,.int .u32 (IntKind.u32.wrap (a12 + 1))],.agg #[.int .i64 1,.int .u8 a0,.int .u8 b,.int .u32 (IntKind.u32.wrap (a12 + 1)),.int .u8 0,.int .u8 a1,.slice T l4.length c,.int .u32 0,.slice T1 0 c1,.int .u8 0,.bool false,.slice T2 0 c2],errW none]) ∧ On k67 w' S T c l4 ∧ On k62 w' S T1 c1 [] ∧ On k67 w' S T2 c2 [] ∧ Below w.heap.size w w':=by
 have HS':=Aside0.mk hS
 have HL':=Aside0.mk hlen
 clear hS hlen
 have huR:=Tryz.underlying28
 have huN:=Tryz.underlying30
 have huS:=Tryz.underlying26
 have hu35:=Tryz.underlying35
 have eN:=errW_none
 have eS:=errW_some
 have R4':=Aside0.mk r4
 have I4':=Aside0.mk i4
 have R5':=Aside0.mk r5
 have I5':=Aside0.mk i5
 have R11':=Aside0.mk r11
 have I11':=Aside0.mk i11
 clear r4 i4 r5 i5 r11 i11
 have HR':=Aside0.mk hR
 clear hR
 have hf1 : decide (b ≥ 8) = false:=decide_eq_false hf
 have hf2 : decide (8 ≤ b) = false:=decide_eq_false hf
 clear hf
 have hs1 : decide (b = a0) = false:=decide_eq_false hs
 have hs2 : (b == a0) = false:=by simp [hs]
 clear hs
 have hl1 : decide (a12 = 4294967295) = false:=decide_eq_false hl
 have hl2 : (a12 == 4294967295) = false:=by simp [hl]
 clear hl
 go_enter Tryz.func14,Tryz.ntmps14
 go_wp2_with fail
 generalize hW : World.alloc (World.alloc (World.alloc w _) _) _ = w0
 have Br0:=Aside0.mk (al3_0 hW)
 have Bo0:=Aside0.mk (al3_1 hW)
 have Bn0:=Aside0.mk (al3_2 hW)
 have HB0:=Aside0.mk (al3B hW)
 clear hW
 have GG:=Aside0.mk (show w.heap.size + 3 ≤ w0.heap.size by have:=blk_lt Bn0.out;omega)
 have HG0:=Aside0.mk (Nat.le_refl w0.heap.size)
 obtain ⟨r_0,r_1,r_2,r_3,r_4,r_5,r_6,r_7,r_8,r_9,r_10,r_11,r_12⟩:=cells13 Br0.out
 go_wp2_with fail
 refine (replica_Right.calls k a0 a1 a2 a3 _ _ l4 _ _ l5 a6 a7 a8 a9 a10 _ _ l11 a12 true _ (Kd.C_below R4'.out HB0.out) I4'.out (Kd.C_below R5'.out HB0.out) I5'.out (Kd.C_below R11'.out HB0.out) I11'.out HR'.out).mono ?_
 rintro ev w1 ⟨rfl,hx⟩
 have Br1:=Aside0.mk (blk_below Br0.out hx)
 have Bo1:=Aside0.mk (blk_below Bo0.out hx)
 have Bn1:=Aside0.mk (blk_below Bn0.out hx)
 have HB1:=Aside0.mk (below_step HB0.out hx)
 have HG1:=Aside0.mk (Nat.le_trans HG0.out hx.size)
 clear r_0 r_1 r_2 r_3 r_4 r_5 r_6 r_7 r_8 r_9 r_10 r_11 r_12
 clear hx HB0 HG0 Br0 Bo0 Bn0
 obtain ⟨r_0,r_1,r_2,r_3,r_4,r_5,r_6,r_7,r_8,r_9,r_10,r_11,r_12⟩:=cells13 Br1.out
 obtain ⟨o_0,o_1,o_2,o_3,o_4,o_5,o_6,o_7,o_8,o_9,o_10,o_11,o_12⟩:=cells13 Bo1.out
 obtain ⟨n_0,n_1,n_2,n_3,n_4,n_5,n_6,n_7,n_8,n_9,n_10,n_11⟩:=cells12 Bn1.out
 go_wp2_with (first | ((with_reducible refine gate_store (t:=26) (p:=41) rfl ?_);refine store_event (t:=26) (p:=41) (v:=?vo15_) (w1:=put_ w1 w.heap.size 6 [.bool true,.int .u32 (IntKind.u32.wrap (a12 + 1)),.int .u8 b,.int .u8 0,.int .u32 0,.slice none 0 0,.int .u32 (IntKind.u32.wrap (a12 + 1))]) ?hg ?ho ?hn ?hr ?_;(case ho=>rfl);(case hg=>rfl);(case hn=>rfl);(case hr=>obtain ⟨_,_,_,_,_,_,_,_,_,_,_,_,_⟩:=frz13 Br1.out;go_simp;rfl);intro w2 hw;have Br2:=Aside0.mk (own13_6_7 hw Br1.out);have Bo2:=Aside0.mk (far_ hw (by omega) Bo1.out);have Bn2:=Aside0.mk (far_ hw (by omega) Bn1.out);have HB2:=Aside0.mk (bel_ hw (by omega) HB1.out);have HG2:=Aside0.mk (siz_ hw HG1.out);clear hw HB1 HG1 Br1 Bo1 Bn1 r_0 r_1 r_2 r_3 r_4 r_5 r_6 r_7 r_8 r_9 r_10 r_11 r_12 o_0 o_1 o_2 o_3 o_4 o_5 o_6 o_7 o_8 o_9 o_10 o_11 o_12 n_0 n_1 n_2 n_3 n_4 n_5 n_6 n_7 n_8 n_9 n_10 n_11;obtain ⟨r2_0,r2_1,r2_2,r2_3,r2_4,r2_5,r2_6,r2_7,r2_8,r2_9,r2_10,r2_11,r2_12⟩:=cells13 Br2.out;obtain ⟨o2_0,o2_1,o2_2,o2_3,o2_4,o2_5,o2_6,o2_7,o2_8,o2_9,o2_10,o2_11,o2_12⟩:=cells13 Bo2.out;obtain ⟨n2_0,n2_1,n2_2,n2_3,n2_4,n2_5,n2_6,n2_7,n2_8,n2_9,n2_10,n2_11⟩:=cells12 Bn2.out))
 refine region_lex (fun (s : Option (Option Addr × Nat × Option Addr × Nat × Option Addr × Nat)) d w'=>Below w.heap.size w w' ∧ w0.heap.size ≤ w'.heap.size ∧ w'.heap[w.heap.size]? = w2.heap[w.heap.size]? ∧ w'.heap[w.heap.size + 1]? = (if d 3 = true then some (.cells #[.int .u8 a0,.int .u8 a1,.int .u32 a2,.int .u32 a3,.slice A4 l4.length c4,.slice A5 l5.length c5,.bool true,.int .u32 (IntKind.u32.wrap (a12 + 1)),.int .u8 b,.int .u8 0,.int .u32 0,.slice none 0 0,.int .u32 (IntKind.u32.wrap (a12 + 1))] 28 (0,0)) else w2.heap[w.heap.size + 1]?) ∧ (match s with | none=>(d 4 = false) ∧ w'.heap[w.heap.size + 1 + 1]? = w2.heap[w.heap.size + 1 + 1]? | some (T,c,T1,c1,T2,c2)=>(On k67 w' (fun j=>S j ∧ w.heap.size + 3 ≤ j) T c l4 ∧ On k62 w' (fun j=>S j ∧ w.heap.size + 3 ≤ j) T1 c1 [] ∧ On k67 w' (fun j=>S j ∧ w.heap.size + 3 ≤ j) T2 c2 []) ∧ w'.heap[w.heap.size + 1 + 1]? = (if d 4 = true then some (.cells #[.int .i64 1,.int .u8 a0,.int .u8 b,.int .u32 (IntKind.u32.wrap (a12 + 1)),.int .u8 0,.int .u8 a1,.slice T l4.length c,.int .u32 0,.slice T1 0 c1,.int .u8 0,.bool false,.slice T2 0 c2] 30 (0,0)) else w2.heap[w.heap.size + 1 + 1]?))) 6 #[false,false,false,false,false,false] (by kernel_rfl) rfl rfl ?_ ?_
 ·exact ⟨pw_below_drewN HB2.out 1,HG2.out,rfl,rfl,⟨rfl,rfl⟩⟩
 clear r2_0 r2_1 r2_2 r2_3 r2_4 r2_5 r2_6 r2_7 r2_8 r2_9 r2_10 r2_11 r2_12 o2_0 o2_1 o2_2 o2_3 o2_4 o2_5 o2_6 o2_7 o2_8 o2_9 o2_10 o2_11 o2_12 n2_0 n2_1 n2_2 n2_3 n2_4 n2_5 n2_6 n2_7 n2_8 n2_9 n2_10 n2_11
 refine lex_val (k:=0) (N:=some 42) (a':=?a0_16) (.agg #[.int .u8 a0,.int .u8 a1,.int .u32 a2,.int .u32 a3,.slice A4 l4.length c4,.slice A5 l5.length c5,.bool true,.int .u32 (IntKind.u32.wrap (a12 + 1)),.int .u8 b,.int .u8 0,.int .u32 0,.slice none 0 0,.int .u32 (IntKind.u32.wrap (a12 + 1))]) #[true,false,false,false,false,false] rfl rfl (by kernel_rfl) (by rfl) ?h0_16 ?ha0_16 ?r0_16
 case h0_16 =>
  rintro s hs_ d w' hd ⟨hB,hG,hr,ho,hgh⟩
  obtain ⟨qr0,qr1,qr2,qr3,qr4,qr5,qr6,qr7,qr8,qr9,qr10,qr11,qr12⟩:=cells13 (hr.trans Br2.out)
  refine ⟨w',?_,?_⟩
  ·go_simp
   try with_reducible rfl
  ·exact ⟨hB,hG,hr,ho,hgh⟩
 case ha0_16 =>
  simp only [Act.put,List.setIfInBounds_toArray,List.set_cons_zero,List.set_cons_succ,i64_w,i32_w]
  rfl
 case r0_16 =>
  refine lex_val (k:=1) (N:=some 43) (a':=?a1_16) (.agg #[.int .u8 a0,.int .u8 a1,.int .u32 a2,.int .u32 a3,.slice A4 l4.length c4,.slice A5 l5.length c5,.bool true,.int .u32 (IntKind.u32.wrap (a12 + 1)),.int .u8 b,.int .u8 0,.int .u32 0,.slice none 0 0,.int .u32 (IntKind.u32.wrap (a12 + 1))]) #[true,true,false,false,false,false] rfl rfl (by kernel_rfl) (by rfl) ?h1_16 ?ha1_16 ?r1_16
  case h1_16 =>
   rintro s hs_ d w' hd ⟨hB,hG,hr,ho,hgh⟩
   obtain ⟨qr0,qr1,qr2,qr3,qr4,qr5,qr6,qr7,qr8,qr9,qr10,qr11,qr12⟩:=cells13 (hr.trans Br2.out)
   refine ⟨w',?_,?_⟩
   ·go_simp
    try with_reducible rfl
   ·exact ⟨hB,hG,hr,ho,hgh⟩
  case ha1_16 =>
   simp only [Act.put,List.setIfInBounds_toArray,List.set_cons_zero,List.set_cons_succ,i64_w,i32_w]
   rfl
  case r1_16 =>
   refine lex_ask (k:=2) (N:=some 44) 39 #[.agg #[.int .u8 a0,.int .u8 a1,.int .u32 a2,.int .u32 a3,.slice A4 l4.length c4,.slice A5 l5.length c5,.bool true,.int .u32 (IntKind.u32.wrap (a12 + 1)),.int .u8 b,.int .u8 0,.int .u32 0,.slice none 0 0,.int .u32 (IntKind.u32.wrap (a12 + 1))]] (fun (T,c,T1,c1,T2,c2)=>.agg #[.int .i64 1,.int .u8 a0,.int .u8 b,.int .u32 (IntKind.u32.wrap (a12 + 1)),.int .u8 0,.int .u8 a1,.slice T l4.length c,.int .u32 0,.slice T1 0 c1,.int .u8 0,.bool false,.slice T2 0 c2]) #[true,true,true,false,false,false] rfl rfl (by kernel_rfl) (by rfl) ?h12_16 ?h2_16 ?r2_16
   case h12_16=>intro w';go_simp
   case h2_16 =>
    rintro d w' hd ⟨hB,hG,hr,ho,hgd,hgb⟩
    refine (pull_On a0 a1 a2 a3 l4 l5 true (IntKind.u32.wrap (a12 + 1)) b 0 0 [] (IntKind.u32.wrap (a12 + 1)) A4 A5 none c4 c5 0 _ (fun j=>S j ∧ w.heap.size + 3 ≤ j) (Kd.C_below R4'.out hB) I4'.out (Kd.C_below R5'.out hB) I5'.out (On.nil (S:=fun _=>True)).row (Nat.le_refl _) (fun j hj=>⟨HS'.out j (by have:=hB.size;omega),by have:=GG.out;omega⟩) HL'.out).mono ?_
    rintro e w2 ⟨T,c,T1,c1,T2,c2,rfl,q1,q2,q3,hx⟩
    refine ⟨(T,c,T1,c1,T2,c2),rfl,hB.trans (hx.mono hB.size),Nat.le_trans hG hx.size,keep_ hr Br2.out hx,keepi_ ho Bo2.out hx,⟨⟨q1,q2,q3⟩,?_⟩⟩
    rw [show upd d 2 4 = d 4 from rfl,hgd]
    exact (keep_ hgb Bn2.out hx).trans (if_neg (by decide)).symm
   case r2_16 =>
    rintro ⟨T,c,T1,c1,T2,c2⟩
    refine lex_norm (a':=?_) ?_ ?_
    rotate_left
    ·show Act.put _ (some 44) _ = _
     simp only [Act.put,List.setIfInBounds_toArray,List.set_cons_zero,List.set_cons_succ,i64_w,i32_w]
     rfl
    refine lex_skip (k:=3) (N:=none) (a':=?a3_16) #[true,true,true,true,false,false] rfl rfl (by kernel_rfl) (by rfl) ?h3_16 ?ha3_16 ?r3_16
    case h3_16 =>
     rintro s hs_ d w' hd ⟨hB,hG,hr,ho,hgh⟩
     rcases hs_ with hs_ | rfl
     ·cases hs_
     obtain ⟨⟨q1,q2,q3⟩,hgb⟩:=hgh
     have hb_:=(ho.trans (if_neg (by simp [hd]))).trans Bo2.out
     obtain ⟨_,_,_,_,_,_,_,_,_,_,_,_,_⟩:=frz13 hb_
     obtain ⟨z0,z1,z2,z3,z4,z5,z6,z7,z8,z9,z10,z11,z12⟩:=cells13 hb_
     refine ⟨put_ w' (w.heap.size + 1) 0 [.int .u8 a0,.int .u8 a1,.int .u32 a2,.int .u32 a3,.slice A4 l4.length c4,.slice A5 l5.length c5,.bool true,.int .u32 (IntKind.u32.wrap (a12 + 1)),.int .u8 b,.int .u8 0,.int .u32 0,.slice none 0 0,.int .u32 (IntKind.u32.wrap (a12 + 1))],?_,?_⟩
     ·go_simp
      try rfl
     ·exact ⟨put_below _ (by omega) _ _ _ hB,by rw [put_size];exact hG,(put_far _ _ (by omega) _ _ _).trans hr,(own13_0_13 rfl hb_).trans (if_pos rfl).symm,⟨⟨On.put flatK_Run _ (fun k hk=>by omega) _ _ _ q1,On.put flatK_Entry _ (fun k hk=>by omega) _ _ _ q2,On.put flatK_Run _ (fun k hk=>by omega) _ _ _ q3⟩,(put_far _ _ (by omega) _ _ _).trans hgb⟩⟩
    case ha3_16=>rfl
    case r3_16 =>
     refine lex_skip (k:=4) (N:=none) (a':=?a4_16) #[true,true,true,true,true,false] rfl rfl (by kernel_rfl) (by rfl) ?h4_16 ?ha4_16 ?r4_16
     case h4_16 =>
      rintro s hs_ d w' hd ⟨hB,hG,hr,ho,hgh⟩
      rcases hs_ with hs_ | rfl
      ·cases hs_
      obtain ⟨⟨q1,q2,q3⟩,hgb⟩:=hgh
      have hb_:=(hgb.trans (if_neg (by simp [hd]))).trans Bn2.out
      obtain ⟨_,_,_,_,_,_,_,_,_,_,_,_,_⟩:=frz13 hb_
      obtain ⟨z0,z1,z2,z3,z4,z5,z6,z7,z8,z9,z10,z11⟩:=cells12 hb_
      refine ⟨put_ w' (w.heap.size + 1 + 1) 0 [.int .i64 1,.int .u8 a0,.int .u8 b,.int .u32 (IntKind.u32.wrap (a12 + 1)),.int .u8 0,.int .u8 a1,.slice T l4.length c,.int .u32 0,.slice T1 0 c1,.int .u8 0,.bool false,.slice T2 0 c2],?_,?_⟩
      ·go_simp
       try rfl
      ·exact ⟨put_below _ (by omega) _ _ _ hB,by rw [put_size];exact hG,(put_far _ _ (by omega) _ _ _).trans hr,(put_far _ _ (by omega) _ _ _).trans ho,⟨⟨On.put flatK_Run _ (fun k hk=>by omega) _ _ _ q1,On.put flatK_Entry _ (fun k hk=>by omega) _ _ _ q2,On.put flatK_Run _ (fun k hk=>by omega) _ _ _ q3⟩,(own12_0_12 rfl hb_).trans (if_pos rfl).symm⟩⟩
     case ha4_16=>rfl
     case r4_16 =>
      refine lex_val (k:=5) (N:=some 6) (a':=?a5_16) (Value.nilIface) #[true,true,true,true,true,true] rfl rfl (by kernel_rfl) (by rfl) ?h5_16 ?ha5_16 ?r5_16
      case h5_16 =>
       rintro s hs_ d w' hd ⟨hB,hG,hr,ho,hgh⟩
       refine ⟨w',?_,?_⟩
       ·go_simp
        try with_reducible rfl
       ·exact ⟨hB,hG,hr,ho,hgh⟩
      case ha5_16 =>
       simp only [Act.put,List.setIfInBounds_toArray,List.set_cons_zero,List.set_cons_succ,i64_w,i32_w]
       rfl
      case r5_16 =>
       refine lex_done (by kernel_rfl) ?_
       rintro w3 ⟨_,hB,hG,hr,ho,hgh⟩
       obtain ⟨⟨q1,q2,q3⟩,hgb⟩:=hgh
       have Br3:=Aside0.mk (hr.trans Br2.out)
       have Bo3:=Aside0.mk (ho.trans (if_pos rfl))
       have Bn3:=Aside0.mk (hgb.trans (if_pos rfl))
       have HB3:=Aside0.mk hB
       have HG3:=Aside0.mk hG
       clear hB hG hgb hr ho HB2 HG2 Br2 Bo2 Bn2
       have Oq13:=Aside0.mk q1
       clear q1
       have Oq23:=Aside0.mk q2
       clear q2
       have Oq33:=Aside0.mk q3
       clear q3
       go_wp2_with fail
       refine bodyPost_ret (results_list (rs:=[.cell 4 28,.cell 5 30,.tmp 6]) rfl (by simp) (.cell (w.heap.size + 1) 28 #[.int .u8 a0,.int .u8 a1,.int .u32 a2,.int .u32 a3,.slice A4 l4.length c4,.slice A5 l5.length c5,.bool true,.int .u32 (IntKind.u32.wrap (a12 + 1)),.int .u8 b,.int .u8 0,.int .u32 0,.slice none 0 0,.int .u32 (IntKind.u32.wrap (a12 + 1))] (0,0) _ rfl Bo3.out Tryz.underlying28 rfl (by kernel_rfl) (.cell (w.heap.size + 1 + 1) 30 #[.int .i64 1,.int .u8 a0,.int .u8 b,.int .u32 (IntKind.u32.wrap (a12 + 1)),.int .u8 0,.int .u8 a1,.slice T l4.length c,.int .u32 0,.slice T1 0 c1,.int .u8 0,.bool false,.slice T2 0 c2] (0,0) _ rfl Bn3.out Tryz.underlying30 rfl (by kernel_rfl) (.tmp .nil)))) rfl ?_
       exact ⟨_,_,_,_,_,_,by first | rfl | rw [eN],Oq13.out.mono (fun _ h=>h.1),Oq23.out.mono (fun _ h=>h.1),Oq33.out.mono (fun _ h=>h.1),HB3.out⟩
end Go.Proofs.YtiminjibcafkaaaGreatDoor.X
