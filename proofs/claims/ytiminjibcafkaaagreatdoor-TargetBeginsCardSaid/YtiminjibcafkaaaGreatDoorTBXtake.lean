/- target.take. -/
import Derived.Test.YtiminjibcafkaaaGreatDoorTBJ4
import Derived.Test.YtiminjibcafkaaaGreatDoorTBX19
import Derived.Test.YtiminjibcafkaaaGreatDoorTBX18
import Derived.Test.YtiminjibcafkaaaGreatDoorTBX16
import Derived.Test.YtiminjibcafkaaaGreatDoorTBXmust
import Derived.Test.YtiminjibcafkaaaGreatDoorTBJ7
namespace Go.Proofs.YtiminjibcafkaaaGreatDoor.X
open Go.RowKit Go.Proofs.YtiminjibcafkaaaGreatDoorW.PrintWords Go.Proofs.YtiminjibcafkaaaGreatDoorW.PrintLast Go.Proofs.YtiminjibcafkaaaGreatDoorW.PrintMore
set_option linter.unusedVariables false
set_option linter.unusedSimpArgs false
set_option maxRecDepth 100000 in
set_option maxHeartbeats 8000000 in
theorem take_inA (k : Nat) (a0 a1 a2 a3 : Int) (l4 : List S67) (l5 : List S62) (a6 : Bool) (a7 a8 a9 a10 : Int) (l11 : List S67) (a12 : Int) (A4 A5 A11 : Option Addr) (c4 c5 c11 : Nat) (X : S62) (w : World) (r4 : Kd.C k67 w A4 l4.length l4) (i4 : l4.length ≤ c4) (r5 : Kd.C k62 w A5 l5.length l5) (i5 : l5.length ≤ c5) (hin : item_In.f X.f0 X.f1.f0 X.f1.f1 X.f1.f2 X.f2 X.f3 X.f4 a1 = some true) (h5 : List S62) (htake : item_Take.f k l5 X.f0 X.f1.f0 X.f1.f1 X.f1.f2 X.f2 X.f3 X.f4 = some (h5,none)) (hk : X.f2 = 2) : Calls Tryz.prog 35 #[.agg #[.int .u8 a0,.int .u8 a1,.int .u32 a2,.int .u32 a3,.slice A4 l4.length c4,.slice A5 l5.length c5,.bool a6,.int .u32 a7,.int .u8 a8,.int .u8 a9,.int .u32 a10,.slice A11 l11.length c11,.int .u32 a12],.agg #[.int .u8 X.f0,.int .u8 X.f1.f0,.int .u32 X.f1.f1,.int .u32 X.f1.f2,.int .i64 X.f2,.int .u8 X.f3,.int .u32 X.f4]] w fun e w'=>∃ (T5 : Option Addr) (e5 : Nat),e = .returned (.agg #[.int .u8 a0,.int .u8 a1,.int .u32 a2,.int .u32 a3,.slice A4 l4.length c4,.slice T5 h5.length e5,.bool a6,.int .u32 a7,.int .u8 a8,.int .u8 a9,.int .u32 a10,.slice A11 l11.length c11,.int .u32 a12]) ∧ h5.length ≤ e5 ∧ Kd.R k62 62 w' w.heap.size (fun k=>w.heap.size + 3 ≤ k) (.slice T5 h5.length e5) h5 ∧ Below w.heap.size w w':=by
 have huR:=Tryz.underlying28
 have huE:=Tryz.underlying62
 have hu35:=Tryz.underlying35
 have eN:=errW_none
 have eS:=errW_some
 have R4':=Aside0.mk r4
 have I4':=Aside0.mk i4
 have R5':=Aside0.mk r5
 have I5':=Aside0.mk i5
 have HIN':=Aside0.mk hin
 have HTAKE':=Aside0.mk htake
 clear r4 i4 r5 i5 hin htake
 have hka : decide (X.f2 ≠ 2) = false:=decide_eq_false (fun h=>h hk)
 have hkb : (X.f2 != 2) = false:=by simp [hk]
 have hkc : decide (X.f2 = 2) = true:=decide_eq_true hk
 clear hk
 go_enter Tryz.func35,Tryz.ntmps35
 go_wp2_with fail
 generalize hW : World.alloc (World.alloc (World.alloc w _) _) _ = w0
 have Br0:=Aside0.mk (al3_0 hW)
 have Be0:=Aside0.mk (al3_1 hW)
 have Bo0:=Aside0.mk (al3_2 hW)
 have HB0:=Aside0.mk (al3B hW)
 clear hW
 have GG:=Aside0.mk (show w.heap.size + 3 ≤ w0.heap.size by have:=blk_lt Bo0.out;omega)
 have HG0:=Aside0.mk (Nat.le_refl w0.heap.size)
 obtain ⟨r_0,r_1,r_2,r_3,r_4,r_5,r_6,r_7,r_8,r_9,r_10,r_11,r_12⟩:=cells13 Br0.out
 obtain ⟨e_0,e_1,e_2,e_3,e_4,e_5,e_6⟩:=cells7 Be0.out
 go_wp2_with fail
 refine (item_In.calls X.f0 X.f1.f0 X.f1.f1 X.f1.f2 X.f2 X.f3 X.f4 a1 true _ HIN'.out).mono ?_
 rintro ev w1 ⟨rfl,hx⟩
 have Br1:=Aside0.mk (blk_below Br0.out hx)
 have Be1:=Aside0.mk (blk_below Be0.out hx)
 have Bo1:=Aside0.mk (blk_below Bo0.out hx)
 have HB1:=Aside0.mk (below_step HB0.out hx)
 have HG1:=Aside0.mk (Nat.le_trans HG0.out hx.size)
 clear r_0 r_1 r_2 r_3 r_4 r_5 r_6 r_7 r_8 r_9 r_10 r_11 r_12 e_0 e_1 e_2 e_3 e_4 e_5 e_6
 clear hx HB0 HG0 Br0 Be0 Bo0
 obtain ⟨r_0,r_1,r_2,r_3,r_4,r_5,r_6,r_7,r_8,r_9,r_10,r_11,r_12⟩:=cells13 Br1.out
 obtain ⟨e_0,e_1,e_2,e_3,e_4,e_5,e_6⟩:=cells7 Be1.out
 go_wp2_with fail
 refine (item_Take.calls k _ _ l5 X.f0 X.f1.f0 X.f1.f1 X.f1.f2 X.f2 X.f3 X.f4 h5 none _ (Kd.C_below R5'.out HB1.out) I5'.out HTAKE'.out).mono ?_
 rintro ev w2 ⟨v5,rfl,hR5,hx⟩
 have Br2:=Aside0.mk (blk_below Br1.out hx)
 have Be2:=Aside0.mk (blk_below Be1.out hx)
 have Bo2:=Aside0.mk (blk_below Bo1.out hx)
 have HB2:=Aside0.mk (below_step HB1.out hx)
 have Rfive2:=Aside0.mk (Kd.R_lower (base':=w.heap.size) (Kd.R_mono (ok':=fun k=>w.heap.size + 3 ≤ k) (Kd.R_bound hR5) (fun k hk=>(by have h1:=hk.2.1;have h2:=GG.out;have h3:=HG1.out;omega))) HB1.out.size)
 obtain ⟨Tfive,efive,rfl,hefive,_⟩:=Kd.R_reads hR5
 have HEfive:=Aside0.mk hefive
 clear hefive hR5
 have HG2:=Aside0.mk (Nat.le_trans HG1.out hx.size)
 clear r_0 r_1 r_2 r_3 r_4 r_5 r_6 r_7 r_8 r_9 r_10 r_11 r_12 e_0 e_1 e_2 e_3 e_4 e_5 e_6
 clear hx HB1 HG1 Br1 Be1 Bo1
 obtain ⟨r_0,r_1,r_2,r_3,r_4,r_5,r_6,r_7,r_8,r_9,r_10,r_11,r_12⟩:=cells13 Br2.out
 obtain ⟨e_0,e_1,e_2,e_3,e_4,e_5,e_6⟩:=cells7 Be2.out
 go_wp2_with fail
 refine (mustEntry_ok _ _).mono ?_
 rintro ev ww ⟨rfl,rfl⟩
 go_wp2_with (first | ((with_reducible refine gate_store (t:=24) (p:=21) rfl ?_);refine store_event (t:=24) (p:=21) (v:=?vo1_) (w1:=put_ w2 w.heap.size 5 [.slice Tfive h5.length efive]) ?hg ?ho ?hn ?hr ?_;(case ho=>rfl);(case hg=>rfl);(case hn=>rfl);(case hr=>have fz_:=blk_frozen Br2.out 5;go_simp;rfl);intro w3 hw;have Br3:=Aside0.mk (own13_5_1 hw Br2.out);have Be3:=Aside0.mk (far_ hw (by omega) Be2.out);have Bo3:=Aside0.mk (far_ hw (by omega) Bo2.out);have HB3:=Aside0.mk (bel_ hw (by omega) HB2.out);have Rfive3:=Aside0.mk (R_puts (fun k hk=>by omega) _ _ Rfive2.out hw);have HG3:=Aside0.mk (siz_ hw HG2.out);clear hw HB2 HG2 Br2 Be2 Bo2 Rfive2 r_0 r_1 r_2 r_3 r_4 r_5 r_6 r_7 r_8 r_9 r_10 r_11 r_12 e_0 e_1 e_2 e_3 e_4 e_5 e_6;obtain ⟨r3_0,r3_1,r3_2,r3_3,r3_4,r3_5,r3_6,r3_7,r3_8,r3_9,r3_10,r3_11,r3_12⟩:=cells13 Br3.out;obtain ⟨e3_0,e3_1,e3_2,e3_3,e3_4,e3_5,e3_6⟩:=cells7 Be3.out;obtain ⟨o3_0,o3_1,o3_2,o3_3,o3_4,o3_5,o3_6,o3_7,o3_8,o3_9,o3_10,o3_11,o3_12⟩:=cells13 Bo3.out) | ((with_reducible refine gate_store (t:=28) (p:=4) rfl ?_);refine store_event (t:=28) (p:=4) (v:=?vo2_) (w1:=put_ w3 (w.heap.size + 1 + 1) 0 [.int .u8 a0,.int .u8 a1,.int .u32 a2,.int .u32 a3,.slice A4 l4.length c4,.slice Tfive h5.length efive,.bool a6,.int .u32 a7,.int .u8 a8,.int .u8 a9,.int .u32 a10,.slice A11 l11.length c11,.int .u32 a12]) ?hg ?ho ?hn ?hr ?_;(case ho=>rfl);(case hg=>rfl);(case hn=>rfl);(case hr=>obtain ⟨_,_,_,_,_,_,_,_,_,_,_,_,_⟩:=frz13 Bo3.out;go_simp;rfl);intro w4 hw;have Br4:=Aside0.mk (far_ hw (by omega) Br3.out);have Be4:=Aside0.mk (far_ hw (by omega) Be3.out);have Bo4:=Aside0.mk (own13_0_13 hw Bo3.out);have HB4:=Aside0.mk (bel_ hw (by omega) HB3.out);have Rfive4:=Aside0.mk (R_puts (fun k hk=>by omega) _ _ Rfive3.out hw);have HG4:=Aside0.mk (siz_ hw HG3.out);clear hw HB3 HG3 Br3 Be3 Bo3 Rfive3 r3_0 r3_1 r3_2 r3_3 r3_4 r3_5 r3_6 r3_7 r3_8 r3_9 r3_10 r3_11 r3_12 e3_0 e3_1 e3_2 e3_3 e3_4 e3_5 e3_6 o3_0 o3_1 o3_2 o3_3 o3_4 o3_5 o3_6 o3_7 o3_8 o3_9 o3_10 o3_11 o3_12;obtain ⟨r4_0,r4_1,r4_2,r4_3,r4_4,r4_5,r4_6,r4_7,r4_8,r4_9,r4_10,r4_11,r4_12⟩:=cells13 Br4.out;obtain ⟨e4_0,e4_1,e4_2,e4_3,e4_4,e4_5,e4_6⟩:=cells7 Be4.out;obtain ⟨o4_0,o4_1,o4_2,o4_3,o4_4,o4_5,o4_6,o4_7,o4_8,o4_9,o4_10,o4_11,o4_12⟩:=cells13 Bo4.out))
 refine bodyPost_ret (results_cell_row rfl _ _ (w.heap.size + 1 + 1) 28 #[.int .u8 a0,.int .u8 a1,.int .u32 a2,.int .u32 a3,.slice A4 l4.length c4,.slice Tfive h5.length efive,.bool a6,.int .u32 a7,.int .u8 a8,.int .u8 a9,.int .u32 a10,.slice A11 l11.length c11,.int .u32 a12] (0,0) _ rfl Bo4.out Tryz.underlying28 rfl (by kernel_rfl)) rfl ?_
 exact ⟨_,_,rfl,(show h5.length ≤ efive from HEfive.out),Rfive4.out,HB4.out⟩
set_option maxRecDepth 100000 in
set_option maxHeartbeats 8000000 in
theorem take_inB (k : Nat) (a0 a1 a2 a3 : Int) (l4 : List S67) (l5 : List S62) (a6 : Bool) (a7 a8 a9 a10 : Int) (l11 : List S67) (a12 : Int) (A4 A5 A11 : Option Addr) (c4 c5 c11 : Nat) (X : S62) (w : World) (r4 : Kd.C k67 w A4 l4.length l4) (i4 : l4.length ≤ c4) (r5 : Kd.C k62 w A5 l5.length l5) (i5 : l5.length ≤ c5) (hin : item_In.f X.f0 X.f1.f0 X.f1.f1 X.f1.f2 X.f2 X.f3 X.f4 a1 = some true) (h5 : List S62) (htake : item_Take.f k l5 X.f0 X.f1.f0 X.f1.f1 X.f1.f2 X.f2 X.f3 X.f4 = some (h5,none)) (hk : X.f2 ≠ 2) (h4 : List S67) (hadd : know_Add.f k l4 X.f1.f0 X.f1.f1 = some (h4,none)) : Calls Tryz.prog 35 #[.agg #[.int .u8 a0,.int .u8 a1,.int .u32 a2,.int .u32 a3,.slice A4 l4.length c4,.slice A5 l5.length c5,.bool a6,.int .u32 a7,.int .u8 a8,.int .u8 a9,.int .u32 a10,.slice A11 l11.length c11,.int .u32 a12],.agg #[.int .u8 X.f0,.int .u8 X.f1.f0,.int .u32 X.f1.f1,.int .u32 X.f1.f2,.int .i64 X.f2,.int .u8 X.f3,.int .u32 X.f4]] w fun e w'=>∃ (T4 T5 : Option Addr) (e4 e5 : Nat),e = .returned (.agg #[.int .u8 a0,.int .u8 a1,.int .u32 a2,.int .u32 a3,.slice T4 h4.length e4,.slice T5 h5.length e5,.bool a6,.int .u32 a7,.int .u8 a8,.int .u8 a9,.int .u32 a10,.slice A11 l11.length c11,.int .u32 a12]) ∧ (h4.length ≤ e4 ∧ Kd.R k67 67 w' w.heap.size (fun k=>w.heap.size + 3 ≤ k) (.slice T4 h4.length e4) h4) ∧ (h5.length ≤ e5 ∧ Kd.R k62 62 w' w.heap.size (fun k=>w.heap.size + 3 ≤ k) (.slice T5 h5.length e5) h5) ∧ Below w.heap.size w w':=by
 have huR:=Tryz.underlying28
 have huE:=Tryz.underlying62
 have hu35:=Tryz.underlying35
 have eN:=errW_none
 have eS:=errW_some
 have R4':=Aside0.mk r4
 have I4':=Aside0.mk i4
 have R5':=Aside0.mk r5
 have I5':=Aside0.mk i5
 have HIN':=Aside0.mk hin
 have HTAKE':=Aside0.mk htake
 have HADD':=Aside0.mk hadd
 clear r4 i4 r5 i5 hin htake hadd
 have hka : decide (X.f2 ≠ 2) = true:=decide_eq_true hk
 have hkb : (X.f2 != 2) = true:=by simp [hk]
 have hkc : decide (X.f2 = 2) = false:=decide_eq_false hk
 clear hk
 go_enter Tryz.func35,Tryz.ntmps35
 go_wp2_with fail
 generalize hW : World.alloc (World.alloc (World.alloc w _) _) _ = w0
 have Br0:=Aside0.mk (al3_0 hW)
 have Be0:=Aside0.mk (al3_1 hW)
 have Bo0:=Aside0.mk (al3_2 hW)
 have HB0:=Aside0.mk (al3B hW)
 clear hW
 have GG:=Aside0.mk (show w.heap.size + 3 ≤ w0.heap.size by have:=blk_lt Bo0.out;omega)
 have HG0:=Aside0.mk (Nat.le_refl w0.heap.size)
 obtain ⟨r_0,r_1,r_2,r_3,r_4,r_5,r_6,r_7,r_8,r_9,r_10,r_11,r_12⟩:=cells13 Br0.out
 obtain ⟨e_0,e_1,e_2,e_3,e_4,e_5,e_6⟩:=cells7 Be0.out
 go_wp2_with fail
 refine (item_In.calls X.f0 X.f1.f0 X.f1.f1 X.f1.f2 X.f2 X.f3 X.f4 a1 true _ HIN'.out).mono ?_
 rintro ev w1 ⟨rfl,hx⟩
 have Br1:=Aside0.mk (blk_below Br0.out hx)
 have Be1:=Aside0.mk (blk_below Be0.out hx)
 have Bo1:=Aside0.mk (blk_below Bo0.out hx)
 have HB1:=Aside0.mk (below_step HB0.out hx)
 have HG1:=Aside0.mk (Nat.le_trans HG0.out hx.size)
 clear r_0 r_1 r_2 r_3 r_4 r_5 r_6 r_7 r_8 r_9 r_10 r_11 r_12 e_0 e_1 e_2 e_3 e_4 e_5 e_6
 clear hx HB0 HG0 Br0 Be0 Bo0
 obtain ⟨r_0,r_1,r_2,r_3,r_4,r_5,r_6,r_7,r_8,r_9,r_10,r_11,r_12⟩:=cells13 Br1.out
 obtain ⟨e_0,e_1,e_2,e_3,e_4,e_5,e_6⟩:=cells7 Be1.out
 go_wp2_with fail
 refine (item_Take.calls k _ _ l5 X.f0 X.f1.f0 X.f1.f1 X.f1.f2 X.f2 X.f3 X.f4 h5 none _ (Kd.C_below R5'.out HB1.out) I5'.out HTAKE'.out).mono ?_
 rintro ev w2 ⟨v5,rfl,hR5,hx⟩
 have Br2:=Aside0.mk (blk_below Br1.out hx)
 have Be2:=Aside0.mk (blk_below Be1.out hx)
 have Bo2:=Aside0.mk (blk_below Bo1.out hx)
 have HB2:=Aside0.mk (below_step HB1.out hx)
 have Rfive2:=Aside0.mk (Kd.R_lower (base':=w.heap.size) (Kd.R_mono (ok':=fun k=>w.heap.size + 3 ≤ k) (Kd.R_bound hR5) (fun k hk=>(by have h1:=hk.2.1;have h2:=GG.out;have h3:=HG1.out;omega))) HB1.out.size)
 obtain ⟨Tfive,efive,rfl,hefive,_⟩:=Kd.R_reads hR5
 have HEfive:=Aside0.mk hefive
 clear hefive hR5
 have HG2:=Aside0.mk (Nat.le_trans HG1.out hx.size)
 clear r_0 r_1 r_2 r_3 r_4 r_5 r_6 r_7 r_8 r_9 r_10 r_11 r_12 e_0 e_1 e_2 e_3 e_4 e_5 e_6
 clear hx HB1 HG1 Br1 Be1 Bo1
 obtain ⟨r_0,r_1,r_2,r_3,r_4,r_5,r_6,r_7,r_8,r_9,r_10,r_11,r_12⟩:=cells13 Br2.out
 obtain ⟨e_0,e_1,e_2,e_3,e_4,e_5,e_6⟩:=cells7 Be2.out
 go_wp2_with fail
 refine (mustEntry_ok _ _).mono ?_
 rintro ev ww ⟨rfl,rfl⟩
 go_wp2_with (first | ((with_reducible refine gate_store (t:=24) (p:=21) rfl ?_);refine store_event (t:=24) (p:=21) (v:=?vo3_) (w1:=put_ w2 w.heap.size 5 [.slice Tfive h5.length efive]) ?hg ?ho ?hn ?hr ?_;(case ho=>rfl);(case hg=>rfl);(case hn=>rfl);(case hr=>have fz_:=blk_frozen Br2.out 5;go_simp;rfl);intro w3 hw;have Br3:=Aside0.mk (own13_5_1 hw Br2.out);have Be3:=Aside0.mk (far_ hw (by omega) Be2.out);have Bo3:=Aside0.mk (far_ hw (by omega) Bo2.out);have HB3:=Aside0.mk (bel_ hw (by omega) HB2.out);have Rfive3:=Aside0.mk (R_puts (fun k hk=>by omega) _ _ Rfive2.out hw);have HG3:=Aside0.mk (siz_ hw HG2.out);clear hw HB2 HG2 Br2 Be2 Bo2 Rfive2 r_0 r_1 r_2 r_3 r_4 r_5 r_6 r_7 r_8 r_9 r_10 r_11 r_12 e_0 e_1 e_2 e_3 e_4 e_5 e_6;obtain ⟨r3_0,r3_1,r3_2,r3_3,r3_4,r3_5,r3_6,r3_7,r3_8,r3_9,r3_10,r3_11,r3_12⟩:=cells13 Br3.out;obtain ⟨e3_0,e3_1,e3_2,e3_3,e3_4,e3_5,e3_6⟩:=cells7 Be3.out;obtain ⟨o3_0,o3_1,o3_2,o3_3,o3_4,o3_5,o3_6,o3_7,o3_8,o3_9,o3_10,o3_11,o3_12⟩:=cells13 Bo3.out))
 refine (know_Add.calls k _ _ l4 X.f1.f0 X.f1.f1 h4 none _ (Kd.C_below R4'.out HB3.out) I4'.out HADD'.out).mono ?_
 rintro ev w4 ⟨v4,rfl,hR4,hx⟩
 have Br4:=Aside0.mk (blk_below Br3.out hx)
 have Be4:=Aside0.mk (blk_below Be3.out hx)
 have Bo4:=Aside0.mk (blk_below Bo3.out hx)
 have HB4:=Aside0.mk (below_step HB3.out hx)
 have Rfive4:=Aside0.mk (Kd.R_below Rfive3.out hx)
 have Rfour4:=Aside0.mk (Kd.R_lower (base':=w.heap.size) (Kd.R_mono (ok':=fun k=>w.heap.size + 3 ≤ k) (Kd.R_bound hR4) (fun k hk=>(by have h1:=hk.2.1;have h2:=GG.out;have h3:=HG3.out;omega))) HB3.out.size)
 obtain ⟨Tfour,efour,rfl,hefour,_⟩:=Kd.R_reads hR4
 have HEfour:=Aside0.mk hefour
 clear hefour hR4
 have HG4:=Aside0.mk (Nat.le_trans HG3.out hx.size)
 clear r3_0 r3_1 r3_2 r3_3 r3_4 r3_5 r3_6 r3_7 r3_8 r3_9 r3_10 r3_11 r3_12 e3_0 e3_1 e3_2 e3_3 e3_4 e3_5 e3_6 o3_0 o3_1 o3_2 o3_3 o3_4 o3_5 o3_6 o3_7 o3_8 o3_9 o3_10 o3_11 o3_12
 clear hx HB3 HG3 Br3 Be3 Bo3 Rfive3
 obtain ⟨r_0,r_1,r_2,r_3,r_4,r_5,r_6,r_7,r_8,r_9,r_10,r_11,r_12⟩:=cells13 Br4.out
 obtain ⟨e_0,e_1,e_2,e_3,e_4,e_5,e_6⟩:=cells7 Be4.out
 go_wp2_with fail
 refine (mustRun_ok _ _).mono ?_
 rintro ev ww ⟨rfl,rfl⟩
 go_wp2_with (first | ((with_reducible refine gate_store (t:=23) (p:=41) rfl ?_);refine store_event (t:=23) (p:=41) (v:=?vo4_) (w1:=put_ w4 w.heap.size 4 [.slice Tfour h4.length efour]) ?hg ?ho ?hn ?hr ?_;(case ho=>rfl);(case hg=>rfl);(case hn=>rfl);(case hr=>have fz_:=blk_frozen Br4.out 4;go_simp;rfl);intro w5 hw;have Br5:=Aside0.mk (own13_4_1 hw Br4.out);have Be5:=Aside0.mk (far_ hw (by omega) Be4.out);have Bo5:=Aside0.mk (far_ hw (by omega) Bo4.out);have HB5:=Aside0.mk (bel_ hw (by omega) HB4.out);have Rfive5:=Aside0.mk (R_puts (fun k hk=>by omega) _ _ Rfive4.out hw);have Rfour5:=Aside0.mk (R_puts (fun k hk=>by omega) _ _ Rfour4.out hw);have HG5:=Aside0.mk (siz_ hw HG4.out);clear hw HB4 HG4 Br4 Be4 Bo4 Rfive4 Rfour4 r_0 r_1 r_2 r_3 r_4 r_5 r_6 r_7 r_8 r_9 r_10 r_11 r_12 e_0 e_1 e_2 e_3 e_4 e_5 e_6;obtain ⟨r5_0,r5_1,r5_2,r5_3,r5_4,r5_5,r5_6,r5_7,r5_8,r5_9,r5_10,r5_11,r5_12⟩:=cells13 Br5.out;obtain ⟨e5_0,e5_1,e5_2,e5_3,e5_4,e5_5,e5_6⟩:=cells7 Be5.out;obtain ⟨o5_0,o5_1,o5_2,o5_3,o5_4,o5_5,o5_6,o5_7,o5_8,o5_9,o5_10,o5_11,o5_12⟩:=cells13 Bo5.out) | ((with_reducible refine gate_store (t:=28) (p:=4) rfl ?_);refine store_event (t:=28) (p:=4) (v:=?vo5_) (w1:=put_ w5 (w.heap.size + 1 + 1) 0 [.int .u8 a0,.int .u8 a1,.int .u32 a2,.int .u32 a3,.slice Tfour h4.length efour,.slice Tfive h5.length efive,.bool a6,.int .u32 a7,.int .u8 a8,.int .u8 a9,.int .u32 a10,.slice A11 l11.length c11,.int .u32 a12]) ?hg ?ho ?hn ?hr ?_;(case ho=>rfl);(case hg=>rfl);(case hn=>rfl);(case hr=>obtain ⟨_,_,_,_,_,_,_,_,_,_,_,_,_⟩:=frz13 Bo5.out;go_simp;rfl);intro w6 hw;have Br6:=Aside0.mk (far_ hw (by omega) Br5.out);have Be6:=Aside0.mk (far_ hw (by omega) Be5.out);have Bo6:=Aside0.mk (own13_0_13 hw Bo5.out);have HB6:=Aside0.mk (bel_ hw (by omega) HB5.out);have Rfive6:=Aside0.mk (R_puts (fun k hk=>by omega) _ _ Rfive5.out hw);have Rfour6:=Aside0.mk (R_puts (fun k hk=>by omega) _ _ Rfour5.out hw);have HG6:=Aside0.mk (siz_ hw HG5.out);clear hw HB5 HG5 Br5 Be5 Bo5 Rfive5 Rfour5 r5_0 r5_1 r5_2 r5_3 r5_4 r5_5 r5_6 r5_7 r5_8 r5_9 r5_10 r5_11 r5_12 e5_0 e5_1 e5_2 e5_3 e5_4 e5_5 e5_6 o5_0 o5_1 o5_2 o5_3 o5_4 o5_5 o5_6 o5_7 o5_8 o5_9 o5_10 o5_11 o5_12;obtain ⟨r6_0,r6_1,r6_2,r6_3,r6_4,r6_5,r6_6,r6_7,r6_8,r6_9,r6_10,r6_11,r6_12⟩:=cells13 Br6.out;obtain ⟨e6_0,e6_1,e6_2,e6_3,e6_4,e6_5,e6_6⟩:=cells7 Be6.out;obtain ⟨o6_0,o6_1,o6_2,o6_3,o6_4,o6_5,o6_6,o6_7,o6_8,o6_9,o6_10,o6_11,o6_12⟩:=cells13 Bo6.out))
 refine bodyPost_ret (results_cell_row rfl _ _ (w.heap.size + 1 + 1) 28 #[.int .u8 a0,.int .u8 a1,.int .u32 a2,.int .u32 a3,.slice Tfour h4.length efour,.slice Tfive h5.length efive,.bool a6,.int .u32 a7,.int .u8 a8,.int .u8 a9,.int .u32 a10,.slice A11 l11.length c11,.int .u32 a12] (0,0) _ rfl Bo6.out Tryz.underlying28 rfl (by kernel_rfl)) rfl ?_
 exact ⟨_,_,_,_,rfl,⟨HEfour.out,Rfour6.out⟩,⟨HEfive.out,Rfive6.out⟩,HB6.out⟩
set_option maxRecDepth 100000 in
set_option maxHeartbeats 8000000 in
theorem take_outB (k : Nat) (a0 a1 a2 a3 : Int) (l4 : List S67) (l5 : List S62) (a6 : Bool) (a7 a8 a9 a10 : Int) (l11 : List S67) (a12 : Int) (A4 A5 A11 : Option Addr) (c4 c5 c11 : Nat) (X : S62) (w : World) (r4 : Kd.C k67 w A4 l4.length l4) (i4 : l4.length ≤ c4) (r5 : Kd.C k62 w A5 l5.length l5) (i5 : l5.length ≤ c5) (hin : item_In.f X.f0 X.f1.f0 X.f1.f1 X.f1.f2 X.f2 X.f3 X.f4 a1 = some false) (Y : S62) (hfade : item_Fade.f X.f0 X.f1.f0 X.f1.f1 X.f1.f2 X.f2 X.f3 X.f4 = some (Y.f0,Y.f1.f0,Y.f1.f1,Y.f1.f2,Y.f2,Y.f3,Y.f4)) (h5 : List S62) (htake : item_Take.f k l5 Y.f0 Y.f1.f0 Y.f1.f1 Y.f1.f2 Y.f2 Y.f3 Y.f4 = some (h5,none)) (h4 : List S67) (hadd : know_Add.f k l4 Y.f1.f0 Y.f1.f1 = some (h4,none)) : Calls Tryz.prog 35 #[.agg #[.int .u8 a0,.int .u8 a1,.int .u32 a2,.int .u32 a3,.slice A4 l4.length c4,.slice A5 l5.length c5,.bool a6,.int .u32 a7,.int .u8 a8,.int .u8 a9,.int .u32 a10,.slice A11 l11.length c11,.int .u32 a12],.agg #[.int .u8 X.f0,.int .u8 X.f1.f0,.int .u32 X.f1.f1,.int .u32 X.f1.f2,.int .i64 X.f2,.int .u8 X.f3,.int .u32 X.f4]] w fun e w'=>∃ (T4 T5 : Option Addr) (e4 e5 : Nat),e = .returned (.agg #[.int .u8 a0,.int .u8 a1,.int .u32 a2,.int .u32 a3,.slice T4 h4.length e4,.slice T5 h5.length e5,.bool a6,.int .u32 a7,.int .u8 a8,.int .u8 a9,.int .u32 a10,.slice A11 l11.length c11,.int .u32 a12]) ∧ (h4.length ≤ e4 ∧ Kd.R k67 67 w' w.heap.size (fun k=>w.heap.size + 3 ≤ k) (.slice T4 h4.length e4) h4) ∧ (h5.length ≤ e5 ∧ Kd.R k62 62 w' w.heap.size (fun k=>w.heap.size + 3 ≤ k) (.slice T5 h5.length e5) h5) ∧ Below w.heap.size w w':=by
 have huR:=Tryz.underlying28
 have huE:=Tryz.underlying62
 have hu35:=Tryz.underlying35
 have eN:=errW_none
 have eS:=errW_some
 have R4':=Aside0.mk r4
 have I4':=Aside0.mk i4
 have R5':=Aside0.mk r5
 have I5':=Aside0.mk i5
 have HIN':=Aside0.mk hin
 have HTAKE':=Aside0.mk htake
 have HFADE':=Aside0.mk hfade
 have HADD':=Aside0.mk hadd
 clear r4 i4 r5 i5 hin htake hfade hadd
 go_enter Tryz.func35,Tryz.ntmps35
 go_wp2_with fail
 generalize hW : World.alloc (World.alloc (World.alloc w _) _) _ = w0
 have Br0:=Aside0.mk (al3_0 hW)
 have Be0:=Aside0.mk (al3_1 hW)
 have Bo0:=Aside0.mk (al3_2 hW)
 have HB0:=Aside0.mk (al3B hW)
 clear hW
 have GG:=Aside0.mk (show w.heap.size + 3 ≤ w0.heap.size by have:=blk_lt Bo0.out;omega)
 have HG0:=Aside0.mk (Nat.le_refl w0.heap.size)
 obtain ⟨r_0,r_1,r_2,r_3,r_4,r_5,r_6,r_7,r_8,r_9,r_10,r_11,r_12⟩:=cells13 Br0.out
 obtain ⟨e_0,e_1,e_2,e_3,e_4,e_5,e_6⟩:=cells7 Be0.out
 go_wp2_with fail
 refine (item_In.calls X.f0 X.f1.f0 X.f1.f1 X.f1.f2 X.f2 X.f3 X.f4 a1 false _ HIN'.out).mono ?_
 rintro ev w1 ⟨rfl,hx⟩
 have Br1:=Aside0.mk (blk_below Br0.out hx)
 have Be1:=Aside0.mk (blk_below Be0.out hx)
 have Bo1:=Aside0.mk (blk_below Bo0.out hx)
 have HB1:=Aside0.mk (below_step HB0.out hx)
 have HG1:=Aside0.mk (Nat.le_trans HG0.out hx.size)
 clear r_0 r_1 r_2 r_3 r_4 r_5 r_6 r_7 r_8 r_9 r_10 r_11 r_12 e_0 e_1 e_2 e_3 e_4 e_5 e_6
 clear hx HB0 HG0 Br0 Be0 Bo0
 obtain ⟨r_0,r_1,r_2,r_3,r_4,r_5,r_6,r_7,r_8,r_9,r_10,r_11,r_12⟩:=cells13 Br1.out
 obtain ⟨e_0,e_1,e_2,e_3,e_4,e_5,e_6⟩:=cells7 Be1.out
 go_wp2_with fail
 refine (item_Fade.calls X.f0 X.f1.f0 X.f1.f1 X.f1.f2 X.f2 X.f3 X.f4 Y.f0 Y.f1.f0 Y.f1.f1 Y.f1.f2 Y.f2 Y.f3 Y.f4 _ HFADE'.out).mono ?_
 rintro ev w2 ⟨rfl,hx⟩
 have Br2:=Aside0.mk (blk_below Br1.out hx)
 have Be2:=Aside0.mk (blk_below Be1.out hx)
 have Bo2:=Aside0.mk (blk_below Bo1.out hx)
 have HB2:=Aside0.mk (below_step HB1.out hx)
 have HG2:=Aside0.mk (Nat.le_trans HG1.out hx.size)
 clear r_0 r_1 r_2 r_3 r_4 r_5 r_6 r_7 r_8 r_9 r_10 r_11 r_12 e_0 e_1 e_2 e_3 e_4 e_5 e_6
 clear hx HB1 HG1 Br1 Be1 Bo1
 obtain ⟨r_0,r_1,r_2,r_3,r_4,r_5,r_6,r_7,r_8,r_9,r_10,r_11,r_12⟩:=cells13 Br2.out
 obtain ⟨e_0,e_1,e_2,e_3,e_4,e_5,e_6⟩:=cells7 Be2.out
 go_wp2_with (first | ((with_reducible refine gate_store (t:=62) (p:=3) rfl ?_);refine store_event (t:=62) (p:=3) (v:=?vo7_) (w1:=put_ w2 (w.heap.size + 1) 0 [.int .u8 Y.f0,.int .u8 Y.f1.f0,.int .u32 Y.f1.f1,.int .u32 Y.f1.f2,.int .i64 Y.f2,.int .u8 Y.f3,.int .u32 Y.f4]) ?hg ?ho ?hn ?hr ?_;(case ho=>rfl);(case hg=>rfl);(case hn=>rfl);(case hr=>obtain ⟨_,_,_,_,_,_,_,_,_,_,_,_,_⟩:=frz13 Be2.out;go_simp;rfl);intro w3 hw;have Br3:=Aside0.mk (far_ hw (by omega) Br2.out);have Be3:=Aside0.mk (own7_0_7 hw Be2.out);have Bo3:=Aside0.mk (far_ hw (by omega) Bo2.out);have HB3:=Aside0.mk (bel_ hw (by omega) HB2.out);have HG3:=Aside0.mk (siz_ hw HG2.out);clear hw HB2 HG2 Br2 Be2 Bo2 r_0 r_1 r_2 r_3 r_4 r_5 r_6 r_7 r_8 r_9 r_10 r_11 r_12 e_0 e_1 e_2 e_3 e_4 e_5 e_6;obtain ⟨r3_0,r3_1,r3_2,r3_3,r3_4,r3_5,r3_6,r3_7,r3_8,r3_9,r3_10,r3_11,r3_12⟩:=cells13 Br3.out;obtain ⟨e3_0,e3_1,e3_2,e3_3,e3_4,e3_5,e3_6⟩:=cells7 Be3.out;obtain ⟨o3_0,o3_1,o3_2,o3_3,o3_4,o3_5,o3_6,o3_7,o3_8,o3_9,o3_10,o3_11,o3_12⟩:=cells13 Bo3.out))
 refine (item_Take.calls k _ _ l5 Y.f0 Y.f1.f0 Y.f1.f1 Y.f1.f2 Y.f2 Y.f3 Y.f4 h5 none _ (Kd.C_below R5'.out HB3.out) I5'.out HTAKE'.out).mono ?_
 rintro ev w4 ⟨v5,rfl,hR5,hx⟩
 have Br4:=Aside0.mk (blk_below Br3.out hx)
 have Be4:=Aside0.mk (blk_below Be3.out hx)
 have Bo4:=Aside0.mk (blk_below Bo3.out hx)
 have HB4:=Aside0.mk (below_step HB3.out hx)
 have Rfive4:=Aside0.mk (Kd.R_lower (base':=w.heap.size) (Kd.R_mono (ok':=fun k=>w.heap.size + 3 ≤ k) (Kd.R_bound hR5) (fun k hk=>(by have h1:=hk.2.1;have h2:=GG.out;have h3:=HG3.out;omega))) HB3.out.size)
 obtain ⟨Tfive,efive,rfl,hefive,_⟩:=Kd.R_reads hR5
 have HEfive:=Aside0.mk hefive
 clear hefive hR5
 have HG4:=Aside0.mk (Nat.le_trans HG3.out hx.size)
 clear r3_0 r3_1 r3_2 r3_3 r3_4 r3_5 r3_6 r3_7 r3_8 r3_9 r3_10 r3_11 r3_12 e3_0 e3_1 e3_2 e3_3 e3_4 e3_5 e3_6 o3_0 o3_1 o3_2 o3_3 o3_4 o3_5 o3_6 o3_7 o3_8 o3_9 o3_10 o3_11 o3_12
 clear hx HB3 HG3 Br3 Be3 Bo3
 obtain ⟨r_0,r_1,r_2,r_3,r_4,r_5,r_6,r_7,r_8,r_9,r_10,r_11,r_12⟩:=cells13 Br4.out
 obtain ⟨e_0,e_1,e_2,e_3,e_4,e_5,e_6⟩:=cells7 Be4.out
 go_wp2_with fail
 refine (mustEntry_ok _ _).mono ?_
 rintro ev ww ⟨rfl,rfl⟩
 by_cases hk0 : Y.f2 = 2
 ·have hka : decide (Y.f2 ≠ 2) = false:=decide_eq_false (fun h=>h hk0)
  have hkb : (Y.f2 != 2) = false:=by simp [hk0]
  have hkc : decide (Y.f2 = 2) = true:=decide_eq_true hk0
  clear hk0
  go_wp2_with (first | ((with_reducible refine gate_store (t:=24) (p:=21) rfl ?_);refine store_event (t:=24) (p:=21) (v:=?vo8_) (w1:=put_ w4 w.heap.size 5 [.slice Tfive h5.length efive]) ?hg ?ho ?hn ?hr ?_;(case ho=>rfl);(case hg=>rfl);(case hn=>rfl);(case hr=>have fz_:=blk_frozen Br4.out 5;go_simp;rfl);intro w5 hw;have Br5:=Aside0.mk (own13_5_1 hw Br4.out);have Be5:=Aside0.mk (far_ hw (by omega) Be4.out);have Bo5:=Aside0.mk (far_ hw (by omega) Bo4.out);have HB5:=Aside0.mk (bel_ hw (by omega) HB4.out);have Rfive5:=Aside0.mk (R_puts (fun k hk=>by omega) _ _ Rfive4.out hw);have HG5:=Aside0.mk (siz_ hw HG4.out);clear hw HB4 HG4 Br4 Be4 Bo4 Rfive4 r_0 r_1 r_2 r_3 r_4 r_5 r_6 r_7 r_8 r_9 r_10 r_11 r_12 e_0 e_1 e_2 e_3 e_4 e_5 e_6;obtain ⟨r5_0,r5_1,r5_2,r5_3,r5_4,r5_5,r5_6,r5_7,r5_8,r5_9,r5_10,r5_11,r5_12⟩:=cells13 Br5.out;obtain ⟨e5_0,e5_1,e5_2,e5_3,e5_4,e5_5,e5_6⟩:=cells7 Be5.out;obtain ⟨o5_0,o5_1,o5_2,o5_3,o5_4,o5_5,o5_6,o5_7,o5_8,o5_9,o5_10,o5_11,o5_12⟩:=cells13 Bo5.out))
  refine (know_Add.calls k _ _ l4 Y.f1.f0 Y.f1.f1 h4 none _ (Kd.C_below R4'.out HB5.out) I4'.out HADD'.out).mono ?_
  rintro ev w6 ⟨v4,rfl,hR4,hx⟩
  have Br6:=Aside0.mk (blk_below Br5.out hx)
  have Be6:=Aside0.mk (blk_below Be5.out hx)
  have Bo6:=Aside0.mk (blk_below Bo5.out hx)
  have HB6:=Aside0.mk (below_step HB5.out hx)
  have Rfive6:=Aside0.mk (Kd.R_below Rfive5.out hx)
  have Rfour6:=Aside0.mk (Kd.R_lower (base':=w.heap.size) (Kd.R_mono (ok':=fun k=>w.heap.size + 3 ≤ k) (Kd.R_bound hR4) (fun k hk=>(by have h1:=hk.2.1;have h2:=GG.out;have h3:=HG5.out;omega))) HB5.out.size)
  obtain ⟨Tfour,efour,rfl,hefour,_⟩:=Kd.R_reads hR4
  have HEfour:=Aside0.mk hefour
  clear hefour hR4
  have HG6:=Aside0.mk (Nat.le_trans HG5.out hx.size)
  clear r5_0 r5_1 r5_2 r5_3 r5_4 r5_5 r5_6 r5_7 r5_8 r5_9 r5_10 r5_11 r5_12 e5_0 e5_1 e5_2 e5_3 e5_4 e5_5 e5_6 o5_0 o5_1 o5_2 o5_3 o5_4 o5_5 o5_6 o5_7 o5_8 o5_9 o5_10 o5_11 o5_12
  clear hx HB5 HG5 Br5 Be5 Bo5 Rfive5
  obtain ⟨r_0,r_1,r_2,r_3,r_4,r_5,r_6,r_7,r_8,r_9,r_10,r_11,r_12⟩:=cells13 Br6.out
  obtain ⟨e_0,e_1,e_2,e_3,e_4,e_5,e_6⟩:=cells7 Be6.out
  go_wp2_with fail
  refine (mustRun_ok _ _).mono ?_
  rintro ev ww ⟨rfl,rfl⟩
  go_wp2_with (first | ((with_reducible refine gate_store (t:=23) (p:=41) rfl ?_);refine store_event (t:=23) (p:=41) (v:=?vo9_) (w1:=put_ w6 w.heap.size 4 [.slice Tfour h4.length efour]) ?hg ?ho ?hn ?hr ?_;(case ho=>rfl);(case hg=>rfl);(case hn=>rfl);(case hr=>have fz_:=blk_frozen Br6.out 4;go_simp;rfl);intro w7 hw;have Br7:=Aside0.mk (own13_4_1 hw Br6.out);have Be7:=Aside0.mk (far_ hw (by omega) Be6.out);have Bo7:=Aside0.mk (far_ hw (by omega) Bo6.out);have HB7:=Aside0.mk (bel_ hw (by omega) HB6.out);have Rfive7:=Aside0.mk (R_puts (fun k hk=>by omega) _ _ Rfive6.out hw);have Rfour7:=Aside0.mk (R_puts (fun k hk=>by omega) _ _ Rfour6.out hw);have HG7:=Aside0.mk (siz_ hw HG6.out);clear hw HB6 HG6 Br6 Be6 Bo6 Rfive6 Rfour6 r_0 r_1 r_2 r_3 r_4 r_5 r_6 r_7 r_8 r_9 r_10 r_11 r_12 e_0 e_1 e_2 e_3 e_4 e_5 e_6;obtain ⟨r7_0,r7_1,r7_2,r7_3,r7_4,r7_5,r7_6,r7_7,r7_8,r7_9,r7_10,r7_11,r7_12⟩:=cells13 Br7.out;obtain ⟨e7_0,e7_1,e7_2,e7_3,e7_4,e7_5,e7_6⟩:=cells7 Be7.out;obtain ⟨o7_0,o7_1,o7_2,o7_3,o7_4,o7_5,o7_6,o7_7,o7_8,o7_9,o7_10,o7_11,o7_12⟩:=cells13 Bo7.out) | ((with_reducible refine gate_store (t:=28) (p:=4) rfl ?_);refine store_event (t:=28) (p:=4) (v:=?vo10_) (w1:=put_ w7 (w.heap.size + 1 + 1) 0 [.int .u8 a0,.int .u8 a1,.int .u32 a2,.int .u32 a3,.slice Tfour h4.length efour,.slice Tfive h5.length efive,.bool a6,.int .u32 a7,.int .u8 a8,.int .u8 a9,.int .u32 a10,.slice A11 l11.length c11,.int .u32 a12]) ?hg ?ho ?hn ?hr ?_;(case ho=>rfl);(case hg=>rfl);(case hn=>rfl);(case hr=>obtain ⟨_,_,_,_,_,_,_,_,_,_,_,_,_⟩:=frz13 Bo7.out;go_simp;rfl);intro w8 hw;have Br8:=Aside0.mk (far_ hw (by omega) Br7.out);have Be8:=Aside0.mk (far_ hw (by omega) Be7.out);have Bo8:=Aside0.mk (own13_0_13 hw Bo7.out);have HB8:=Aside0.mk (bel_ hw (by omega) HB7.out);have Rfive8:=Aside0.mk (R_puts (fun k hk=>by omega) _ _ Rfive7.out hw);have Rfour8:=Aside0.mk (R_puts (fun k hk=>by omega) _ _ Rfour7.out hw);have HG8:=Aside0.mk (siz_ hw HG7.out);clear hw HB7 HG7 Br7 Be7 Bo7 Rfive7 Rfour7 r7_0 r7_1 r7_2 r7_3 r7_4 r7_5 r7_6 r7_7 r7_8 r7_9 r7_10 r7_11 r7_12 e7_0 e7_1 e7_2 e7_3 e7_4 e7_5 e7_6 o7_0 o7_1 o7_2 o7_3 o7_4 o7_5 o7_6 o7_7 o7_8 o7_9 o7_10 o7_11 o7_12;obtain ⟨r8_0,r8_1,r8_2,r8_3,r8_4,r8_5,r8_6,r8_7,r8_8,r8_9,r8_10,r8_11,r8_12⟩:=cells13 Br8.out;obtain ⟨e8_0,e8_1,e8_2,e8_3,e8_4,e8_5,e8_6⟩:=cells7 Be8.out;obtain ⟨o8_0,o8_1,o8_2,o8_3,o8_4,o8_5,o8_6,o8_7,o8_8,o8_9,o8_10,o8_11,o8_12⟩:=cells13 Bo8.out))
  refine bodyPost_ret (results_cell_row rfl _ _ (w.heap.size + 1 + 1) 28 #[.int .u8 a0,.int .u8 a1,.int .u32 a2,.int .u32 a3,.slice Tfour h4.length efour,.slice Tfive h5.length efive,.bool a6,.int .u32 a7,.int .u8 a8,.int .u8 a9,.int .u32 a10,.slice A11 l11.length c11,.int .u32 a12] (0,0) _ rfl Bo8.out Tryz.underlying28 rfl (by kernel_rfl)) rfl ?_
  exact ⟨_,_,_,_,rfl,⟨HEfour.out,Rfour8.out⟩,⟨HEfive.out,Rfive8.out⟩,HB8.out⟩
 ·have hka : decide (Y.f2 ≠ 2) = true:=decide_eq_true hk0
  have hkb : (Y.f2 != 2) = true:=by simp [hk0]
  have hkc : decide (Y.f2 = 2) = false:=decide_eq_false hk0
  clear hk0
  go_wp2_with (first | ((with_reducible refine gate_store (t:=24) (p:=21) rfl ?_);refine store_event (t:=24) (p:=21) (v:=?vo8_) (w1:=put_ w4 w.heap.size 5 [.slice Tfive h5.length efive]) ?hg ?ho ?hn ?hr ?_;(case ho=>rfl);(case hg=>rfl);(case hn=>rfl);(case hr=>have fz_:=blk_frozen Br4.out 5;go_simp;rfl);intro w5 hw;have Br5:=Aside0.mk (own13_5_1 hw Br4.out);have Be5:=Aside0.mk (far_ hw (by omega) Be4.out);have Bo5:=Aside0.mk (far_ hw (by omega) Bo4.out);have HB5:=Aside0.mk (bel_ hw (by omega) HB4.out);have Rfive5:=Aside0.mk (R_puts (fun k hk=>by omega) _ _ Rfive4.out hw);have HG5:=Aside0.mk (siz_ hw HG4.out);clear hw HB4 HG4 Br4 Be4 Bo4 Rfive4 r_0 r_1 r_2 r_3 r_4 r_5 r_6 r_7 r_8 r_9 r_10 r_11 r_12 e_0 e_1 e_2 e_3 e_4 e_5 e_6;obtain ⟨r5_0,r5_1,r5_2,r5_3,r5_4,r5_5,r5_6,r5_7,r5_8,r5_9,r5_10,r5_11,r5_12⟩:=cells13 Br5.out;obtain ⟨e5_0,e5_1,e5_2,e5_3,e5_4,e5_5,e5_6⟩:=cells7 Be5.out;obtain ⟨o5_0,o5_1,o5_2,o5_3,o5_4,o5_5,o5_6,o5_7,o5_8,o5_9,o5_10,o5_11,o5_12⟩:=cells13 Bo5.out))
  refine (know_Add.calls k _ _ l4 Y.f1.f0 Y.f1.f1 h4 none _ (Kd.C_below R4'.out HB5.out) I4'.out HADD'.out).mono ?_
  rintro ev w6 ⟨v4,rfl,hR4,hx⟩
  have Br6:=Aside0.mk (blk_below Br5.out hx)
  have Be6:=Aside0.mk (blk_below Be5.out hx)
  have Bo6:=Aside0.mk (blk_below Bo5.out hx)
  have HB6:=Aside0.mk (below_step HB5.out hx)
  have Rfive6:=Aside0.mk (Kd.R_below Rfive5.out hx)
  have Rfour6:=Aside0.mk (Kd.R_lower (base':=w.heap.size) (Kd.R_mono (ok':=fun k=>w.heap.size + 3 ≤ k) (Kd.R_bound hR4) (fun k hk=>(by have h1:=hk.2.1;have h2:=GG.out;have h3:=HG5.out;omega))) HB5.out.size)
  obtain ⟨Tfour,efour,rfl,hefour,_⟩:=Kd.R_reads hR4
  have HEfour:=Aside0.mk hefour
  clear hefour hR4
  have HG6:=Aside0.mk (Nat.le_trans HG5.out hx.size)
  clear r5_0 r5_1 r5_2 r5_3 r5_4 r5_5 r5_6 r5_7 r5_8 r5_9 r5_10 r5_11 r5_12 e5_0 e5_1 e5_2 e5_3 e5_4 e5_5 e5_6 o5_0 o5_1 o5_2 o5_3 o5_4 o5_5 o5_6 o5_7 o5_8 o5_9 o5_10 o5_11 o5_12
  clear hx HB5 HG5 Br5 Be5 Bo5 Rfive5
  obtain ⟨r_0,r_1,r_2,r_3,r_4,r_5,r_6,r_7,r_8,r_9,r_10,r_11,r_12⟩:=cells13 Br6.out
  obtain ⟨e_0,e_1,e_2,e_3,e_4,e_5,e_6⟩:=cells7 Be6.out
  go_wp2_with fail
  refine (mustRun_ok _ _).mono ?_
  rintro ev ww ⟨rfl,rfl⟩
  go_wp2_with (first | ((with_reducible refine gate_store (t:=23) (p:=41) rfl ?_);refine store_event (t:=23) (p:=41) (v:=?vo11_) (w1:=put_ w6 w.heap.size 4 [.slice Tfour h4.length efour]) ?hg ?ho ?hn ?hr ?_;(case ho=>rfl);(case hg=>rfl);(case hn=>rfl);(case hr=>have fz_:=blk_frozen Br6.out 4;go_simp;rfl);intro w7 hw;have Br7:=Aside0.mk (own13_4_1 hw Br6.out);have Be7:=Aside0.mk (far_ hw (by omega) Be6.out);have Bo7:=Aside0.mk (far_ hw (by omega) Bo6.out);have HB7:=Aside0.mk (bel_ hw (by omega) HB6.out);have Rfive7:=Aside0.mk (R_puts (fun k hk=>by omega) _ _ Rfive6.out hw);have Rfour7:=Aside0.mk (R_puts (fun k hk=>by omega) _ _ Rfour6.out hw);have HG7:=Aside0.mk (siz_ hw HG6.out);clear hw HB6 HG6 Br6 Be6 Bo6 Rfive6 Rfour6 r_0 r_1 r_2 r_3 r_4 r_5 r_6 r_7 r_8 r_9 r_10 r_11 r_12 e_0 e_1 e_2 e_3 e_4 e_5 e_6;obtain ⟨r7_0,r7_1,r7_2,r7_3,r7_4,r7_5,r7_6,r7_7,r7_8,r7_9,r7_10,r7_11,r7_12⟩:=cells13 Br7.out;obtain ⟨e7_0,e7_1,e7_2,e7_3,e7_4,e7_5,e7_6⟩:=cells7 Be7.out;obtain ⟨o7_0,o7_1,o7_2,o7_3,o7_4,o7_5,o7_6,o7_7,o7_8,o7_9,o7_10,o7_11,o7_12⟩:=cells13 Bo7.out) | ((with_reducible refine gate_store (t:=28) (p:=4) rfl ?_);refine store_event (t:=28) (p:=4) (v:=?vo12_) (w1:=put_ w7 (w.heap.size + 1 + 1) 0 [.int .u8 a0,.int .u8 a1,.int .u32 a2,.int .u32 a3,.slice Tfour h4.length efour,.slice Tfive h5.length efive,.bool a6,.int .u32 a7,.int .u8 a8,.int .u8 a9,.int .u32 a10,.slice A11 l11.length c11,.int .u32 a12]) ?hg ?ho ?hn ?hr ?_;(case ho=>rfl);(case hg=>rfl);(case hn=>rfl);(case hr=>obtain ⟨_,_,_,_,_,_,_,_,_,_,_,_,_⟩:=frz13 Bo7.out;go_simp;rfl);intro w8 hw;have Br8:=Aside0.mk (far_ hw (by omega) Br7.out);have Be8:=Aside0.mk (far_ hw (by omega) Be7.out);have Bo8:=Aside0.mk (own13_0_13 hw Bo7.out);have HB8:=Aside0.mk (bel_ hw (by omega) HB7.out);have Rfive8:=Aside0.mk (R_puts (fun k hk=>by omega) _ _ Rfive7.out hw);have Rfour8:=Aside0.mk (R_puts (fun k hk=>by omega) _ _ Rfour7.out hw);have HG8:=Aside0.mk (siz_ hw HG7.out);clear hw HB7 HG7 Br7 Be7 Bo7 Rfive7 Rfour7 r7_0 r7_1 r7_2 r7_3 r7_4 r7_5 r7_6 r7_7 r7_8 r7_9 r7_10 r7_11 r7_12 e7_0 e7_1 e7_2 e7_3 e7_4 e7_5 e7_6 o7_0 o7_1 o7_2 o7_3 o7_4 o7_5 o7_6 o7_7 o7_8 o7_9 o7_10 o7_11 o7_12;obtain ⟨r8_0,r8_1,r8_2,r8_3,r8_4,r8_5,r8_6,r8_7,r8_8,r8_9,r8_10,r8_11,r8_12⟩:=cells13 Br8.out;obtain ⟨e8_0,e8_1,e8_2,e8_3,e8_4,e8_5,e8_6⟩:=cells7 Be8.out;obtain ⟨o8_0,o8_1,o8_2,o8_3,o8_4,o8_5,o8_6,o8_7,o8_8,o8_9,o8_10,o8_11,o8_12⟩:=cells13 Bo8.out))
  refine bodyPost_ret (results_cell_row rfl _ _ (w.heap.size + 1 + 1) 28 #[.int .u8 a0,.int .u8 a1,.int .u32 a2,.int .u32 a3,.slice Tfour h4.length efour,.slice Tfive h5.length efive,.bool a6,.int .u32 a7,.int .u8 a8,.int .u8 a9,.int .u32 a10,.slice A11 l11.length c11,.int .u32 a12] (0,0) _ rfl Bo8.out Tryz.underlying28 rfl (by kernel_rfl)) rfl ?_
  exact ⟨_,_,_,_,rfl,⟨HEfour.out,Rfour8.out⟩,⟨HEfive.out,Rfive8.out⟩,HB8.out⟩
end Go.Proofs.YtiminjibcafkaaaGreatDoor.X
