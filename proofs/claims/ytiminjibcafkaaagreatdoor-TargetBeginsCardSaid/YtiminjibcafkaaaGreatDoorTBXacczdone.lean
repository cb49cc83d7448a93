/- target.Accept: a batch that is taken, entry by entry. -/
import Derived.Test.YtiminjibcafkaaaGreatDoorTBXhreplicaRight
import Derived.Test.YtiminjibcafkaaaGreatDoorTBX12
import Derived.Test.YtiminjibcafkaaaGreatDoorTBJ8
import Derived.Test.YtiminjibcafkaaaGreatDoorTBXhtargettwins
import Derived.Test.YtiminjibcafkaaaGreatDoorTBXhknowUnion
import Derived.Test.YtiminjibcafkaaaGreatDoorTBJ13
import Derived.Test.YtiminjibcafkaaaGreatDoorTBXtake2
import Derived.Test.YtiminjibcafkaaaGreatDoorTBXbegin
import Derived.Test.YtiminjibcafkaaaGreatDoorTBXaccept0
namespace Go.Proofs.YtiminjibcafkaaaGreatDoor.X
open Go.RowKit Go.Proofs.YtiminjibcafkaaaGreatDoorW.PrintWords Go.Proofs.YtiminjibcafkaaaGreatDoorW.PrintLast Go.Proofs.YtiminjibcafkaaaGreatDoorW.PrintMore
set_option linter.unusedVariables false
set_option linter.unusedSimpArgs false
set_option maxRecDepth 100000 in
set_option maxHeartbeats 8000000 in
theorem Accept_done_z (k : Nat) (a0 a1 a2 a3 : Int) (l4 : List S67) (l5 : List S62) (a6 : Bool) (a7 a8 a9 a10 : Int) (l11 : List S67) (a12 : Int) (A4 A5 A11 : Option Addr) (c4 c5 c11 : Nat) (b0 b1 b2 b3 b4 b5 : Int) (m6 : List S67) (b7 : Int) (m8 : List S62) (b9 : Int) (m11 : List S67) (M6 M8 M11 : Option Addr) (d6 d8 d11 : Nat) (w : World) (S : Nat → Prop) (o4 : On k67 w S A4 c4 l4) (o5 : On k62 w S A5 c5 l5) (o11 : On k67 w S A11 c11 l11) (p6 : On k67 w S M6 d6 m6) (p8 : On k62 w S M8 d8 m8) (p11 : On k67 w S M11 d11 m11) (hR : replica_Right.f k a0 a1 a2 a3 l4 l5 a6 a7 a8 a9 a10 l11 a12 = some true) (hNo : note_Right.f k b0 b1 b2 b3 b4 b5 m6 b7 m8 b9 true m11 = some true) (hW : target_waited.f a0 a1 a2 a3 l4 l5 a6 a7 a8 a9 a10 l11 a12 b0 b1 b2 b3 b4 b5 m6 b7 m8 b9 true m11 = some true) (hU : target_unmade.f a0 a1 a2 a3 l4 l5 a6 a7 a8 a9 a10 l11 a12 b0 b1 b2 b3 b4 b5 m6 b7 m8 b9 true m11 = some false) (hT : target_twins.f a0 a1 a2 a3 l4 l5 a6 a7 a8 a9 a10 l11 a12 b0 b1 b2 b3 b4 b5 m6 b7 m8 b9 true m11 = some false) (hS : ∀ j,w.heap.size ≤ j → S j) (st : Nat → List S67 × List S62) (st0 : st 0 = (l4,l5)) (hst : ∀ i,i < m8.length → TakeOK k a1 (st i).1 (st i).2 (m8.getD i z62) (st (i + 1)).1 (st (i + 1)).2) (hcu : b4 = 0) (hlo : m11.length ≤ 400000) (u : List S67) (hun : know_Union.f k (st m8.length).1 m11 = some (u,none)) : Calls Tryz.prog 9 #[.agg #[.int .u8 a0,.int .u8 a1,.int .u32 a2,.int .u32 a3,.slice A4 l4.length c4,.slice A5 l5.length c5,.bool a6,.int .u32 a7,.int .u8 a8,.int .u8 a9,.int .u32 a10,.slice A11 l11.length c11,.int .u32 a12],.agg #[.int .i64 b0,.int .u8 b1,.int .u8 b2,.int .u32 b3,.int .u8 b4,.int .u8 b5,.slice M6 m6.length d6,.int .u32 b7,.slice M8 m8.length d8,.int .u8 b9,.bool true,.slice M11 m11.length d11]] w fun e w'=>∃ TU T5 eU e5,e = .returned (.tuple #[.agg #[.int .u8 a0,.int .u8 a1,.int .u32 a2,.int .u32 a3,.slice TU u.length eU,.slice T5 (st m8.length).2.length e5,.bool false,.int .u32 0,.int .u8 0,.int .u8 0,.int .u32 0,.slice none 0 0,.int .u32 a12],.agg #[.int .i64 0,.int .u8 0,.int .u8 0,.int .u32 0,.int .u8 0,.int .u8 0,.slice none 0 0,.int .u32 0,.slice none 0 0,.int .u8 0,.bool false,.slice none 0 0],.bool false,errW none]) ∧ On k67 w' S TU eU u ∧ On k62 w' S T5 e5 (st m8.length).2 ∧ Below w.heap.size w w':=by
 have huR:=Tryz.underlying28
 have huN:=Tryz.underlying30
 have huS:=Tryz.underlying26
 have huE:=Tryz.underlying62
 have hu35:=Tryz.underlying35
 have hu4:=Tryz.underlying4
 have huc:=Tryz.underlying70
 have eN:=errW_none
 have eS:=errW_some
 have hmf : ∀ (fn : Fn) (first cap : Array Value) (w : World),(Instr.makeFunc fn first cap).run Tryz.prog w = .ok (.func fn first cap) w:=fun _ _ _ _=>rfl
 have HR':=Aside0.mk hR
 have HN':=Aside0.mk hNo
 have HW':=Aside0.mk hW
 have HU':=Aside0.mk hU
 have HT':=Aside0.mk hT
 have HS':=Aside0.mk hS
 have ST0':=Aside0.mk st0
 have HST':=Aside0.mk hst
 have HLO':=Aside0.mk hlo
 have HUN':=Aside0.mk hun
 clear hR hNo hW hU hT hS st0 hst hlo hun
 have hc1 : decide (b4 > 0) = false:=by simp [hcu]
 have hc2 : decide (0 < b4) = false:=by simp [hcu]
 have hc3 : decide (b4 = 0) = true:=by simp [hcu]
 have hc4 : (b4 == 0) = true:=by simp [hcu]
 clear hcu
 have O4':=Aside0.mk o4
 have O5':=Aside0.mk o5
 have O11':=Aside0.mk o11
 have P6':=Aside0.mk p6
 have P8':=Aside0.mk p8
 have P11':=Aside0.mk p11
 clear o4 o5 o11 p6 p8 p11
 go_enter_defers Tryz.func9,Tryz.ntmps9
 go_wp2_with fail
 generalize hW : World.alloc (World.alloc (World.alloc (World.alloc (World.alloc (World.alloc w _) _) _) _) _) _ = w0
 have Br0:=Aside0.mk (al6_0 hW)
 have Bb0:=Aside0.mk (al6_1 hW)
 have Bo0:=Aside0.mk (al6_2 hW)
 have Bn0:=Aside0.mk (al6_3 hW)
 have Bm0:=Aside0.mk (al6_4 hW)
 have Bv0:=Aside0.mk (al6_5 hW)
 have HB0:=Aside0.mk (al6B hW)
 clear hW
 have GG:=Aside0.mk (show w.heap.size + 6 ≤ w0.heap.size by have:=blk_lt Bv0.out;omega)
 have HG0:=Aside0.mk (Nat.le_refl w0.heap.size)
 obtain ⟨r_0,r_1,r_2,r_3,r_4,r_5,r_6,r_7,r_8,r_9,r_10,r_11,r_12⟩:=cells13 Br0.out
 go_wp2_with fail
 refine (replica_Right.calls k a0 a1 a2 a3 _ _ l4 _ _ l5 a6 a7 a8 a9 a10 _ _ l11 a12 true _ (Kd.C_below O4'.out.row HB0.out) O4'.out.len (Kd.C_below O5'.out.row HB0.out) O5'.out.len (Kd.C_below O11'.out.row HB0.out) O11'.out.len HR'.out).mono ?_
 rintro ev w1 ⟨rfl,hx⟩
 have Br1:=Aside0.mk (blk_below Br0.out hx)
 have Bb1:=Aside0.mk (blk_below Bb0.out hx)
 have Bo1:=Aside0.mk (blk_below Bo0.out hx)
 have Bn1:=Aside0.mk (blk_below Bn0.out hx)
 have Bm1:=Aside0.mk (blk_below Bm0.out hx)
 have Bv1:=Aside0.mk (blk_below Bv0.out hx)
 have HB1:=Aside0.mk (below_step HB0.out hx)
 have HG1:=Aside0.mk (Nat.le_trans HG0.out hx.size)
 clear r_0 r_1 r_2 r_3 r_4 r_5 r_6 r_7 r_8 r_9 r_10 r_11 r_12
 clear hx HB0 HG0 Br0 Bb0 Bo0 Bn0 Bm0 Bv0
 obtain ⟨b_0,b_1,b_2,b_3,b_4,b_5,b_6,b_7,b_8,b_9,b_10,b_11⟩:=cells12 Bb1.out
 go_wp2_with fail
 refine (note_Right.calls k b0 b1 b2 b3 b4 b5 _ _ m6 b7 _ _ m8 b9 true _ _ m11 true _ (Kd.C_below P6'.out.row HB1.out) P6'.out.len (Kd.C_below P8'.out.row HB1.out) P8'.out.len (Kd.C_below P11'.out.row HB1.out) P11'.out.len HN'.out).mono ?_
 rintro ev w2 ⟨rfl,hx⟩
 have Br2:=Aside0.mk (blk_below Br1.out hx)
 have Bb2:=Aside0.mk (blk_below Bb1.out hx)
 have Bo2:=Aside0.mk (blk_below Bo1.out hx)
 have Bn2:=Aside0.mk (blk_below Bn1.out hx)
 have Bm2:=Aside0.mk (blk_below Bm1.out hx)
 have Bv2:=Aside0.mk (blk_below Bv1.out hx)
 have HB2:=Aside0.mk (below_step HB1.out hx)
 have HG2:=Aside0.mk (Nat.le_trans HG1.out hx.size)
 clear b_0 b_1 b_2 b_3 b_4 b_5 b_6 b_7 b_8 b_9 b_10 b_11
 clear hx HB1 HG1 Br1 Bb1 Bo1 Bn1 Bm1 Bv1
 obtain ⟨r_0,r_1,r_2,r_3,r_4,r_5,r_6,r_7,r_8,r_9,r_10,r_11,r_12⟩:=cells13 Br2.out
 obtain ⟨b_0,b_1,b_2,b_3,b_4,b_5,b_6,b_7,b_8,b_9,b_10,b_11⟩:=cells12 Bb2.out
 go_wp2_with fail
 refine (target_waited.calls a0 a1 a2 a3 _ _ l4 _ _ l5 a6 a7 a8 a9 a10 _ _ l11 a12 b0 b1 b2 b3 b4 b5 _ _ m6 b7 _ _ m8 b9 true _ _ m11 true _ (Kd.C_below O4'.out.row HB2.out) O4'.out.len (Kd.C_below O5'.out.row HB2.out) O5'.out.len (Kd.C_below O11'.out.row HB2.out) O11'.out.len (Kd.C_below P6'.out.row HB2.out) P6'.out.len (Kd.C_below P8'.out.row HB2.out) P8'.out.len (Kd.C_below P11'.out.row HB2.out) P11'.out.len HW'.out).mono ?_
 rintro ev w3 ⟨rfl,hx⟩
 have Br3:=Aside0.mk (blk_below Br2.out hx)
 have Bb3:=Aside0.mk (blk_below Bb2.out hx)
 have Bo3:=Aside0.mk (blk_below Bo2.out hx)
 have Bn3:=Aside0.mk (blk_below Bn2.out hx)
 have Bm3:=Aside0.mk (blk_below Bm2.out hx)
 have Bv3:=Aside0.mk (blk_below Bv2.out hx)
 have HB3:=Aside0.mk (below_step HB2.out hx)
 have HG3:=Aside0.mk (Nat.le_trans HG2.out hx.size)
 clear r_0 r_1 r_2 r_3 r_4 r_5 r_6 r_7 r_8 r_9 r_10 r_11 r_12 b_0 b_1 b_2 b_3 b_4 b_5 b_6 b_7 b_8 b_9 b_10 b_11
 clear hx HB2 HG2 Br2 Bb2 Bo2 Bn2 Bm2 Bv2
 obtain ⟨r_0,r_1,r_2,r_3,r_4,r_5,r_6,r_7,r_8,r_9,r_10,r_11,r_12⟩:=cells13 Br3.out
 obtain ⟨b_0,b_1,b_2,b_3,b_4,b_5,b_6,b_7,b_8,b_9,b_10,b_11⟩:=cells12 Bb3.out
 go_wp2_with fail
 refine (target_unmade.calls a0 a1 a2 a3 _ _ l4 _ _ l5 a6 a7 a8 a9 a10 _ _ l11 a12 b0 b1 b2 b3 b4 b5 _ _ m6 b7 _ _ m8 b9 true _ _ m11 false _ (Kd.C_below O4'.out.row HB3.out) O4'.out.len (Kd.C_below O5'.out.row HB3.out) O5'.out.len (Kd.C_below O11'.out.row HB3.out) O11'.out.len (Kd.C_below P6'.out.row HB3.out) P6'.out.len (Kd.C_below P8'.out.row HB3.out) P8'.out.len (Kd.C_below P11'.out.row HB3.out) P11'.out.len HU'.out).mono ?_
 rintro ev w4 ⟨rfl,hx⟩
 have Br4:=Aside0.mk (blk_below Br3.out hx)
 have Bb4:=Aside0.mk (blk_below Bb3.out hx)
 have Bo4:=Aside0.mk (blk_below Bo3.out hx)
 have Bn4:=Aside0.mk (blk_below Bn3.out hx)
 have Bm4:=Aside0.mk (blk_below Bm3.out hx)
 have Bv4:=Aside0.mk (blk_below Bv3.out hx)
 have HB4:=Aside0.mk (below_step HB3.out hx)
 have HG4:=Aside0.mk (Nat.le_trans HG3.out hx.size)
 clear r_0 r_1 r_2 r_3 r_4 r_5 r_6 r_7 r_8 r_9 r_10 r_11 r_12 b_0 b_1 b_2 b_3 b_4 b_5 b_6 b_7 b_8 b_9 b_10 b_11
 clear hx HB3 HG3 Br3 Bb3 Bo3 Bn3 Bm3 Bv3
 obtain ⟨r_0,r_1,r_2,r_3,r_4,r_5,r_6,r_7,r_8,r_9,r_10,r_11,r_12⟩:=cells13 Br4.out
 obtain ⟨b_0,b_1,b_2,b_3,b_4,b_5,b_6,b_7,b_8,b_9,b_10,b_11⟩:=cells12 Bb4.out
 go_wp2_with fail
 refine (target_twins.calls a0 a1 a2 a3 _ _ l4 _ _ l5 a6 a7 a8 a9 a10 _ _ l11 a12 b0 b1 b2 b3 b4 b5 _ _ m6 b7 _ _ m8 b9 true _ _ m11 false _ (Kd.C_below O4'.out.row HB4.out) O4'.out.len (Kd.C_below O5'.out.row HB4.out) O5'.out.len (Kd.C_below O11'.out.row HB4.out) O11'.out.len (Kd.C_below P6'.out.row HB4.out) P6'.out.len (Kd.C_below P8'.out.row HB4.out) P8'.out.len (Kd.C_below P11'.out.row HB4.out) P11'.out.len HT'.out).mono ?_
 rintro ev w5 ⟨rfl,hx⟩
 have Br5:=Aside0.mk (blk_below Br4.out hx)
 have Bb5:=Aside0.mk (blk_below Bb4.out hx)
 have Bo5:=Aside0.mk (blk_below Bo4.out hx)
 have Bn5:=Aside0.mk (blk_below Bn4.out hx)
 have Bm5:=Aside0.mk (blk_below Bm4.out hx)
 have Bv5:=Aside0.mk (blk_below Bv4.out hx)
 have HB5:=Aside0.mk (below_step HB4.out hx)
 have HG5:=Aside0.mk (Nat.le_trans HG4.out hx.size)
 clear r_0 r_1 r_2 r_3 r_4 r_5 r_6 r_7 r_8 r_9 r_10 r_11 r_12 b_0 b_1 b_2 b_3 b_4 b_5 b_6 b_7 b_8 b_9 b_10 b_11
 clear hx HB4 HG4 Br4 Bb4 Bo4 Bn4 Bm4 Bv4
 have Br6:=Aside0.mk (blk_alloc Br5.out (.cells #[.int .u8 a0,.int .u8 a1,.int .u32 a2,.int .u32 a3,.slice A4 l4.length c4,.slice A5 l5.length c5,.bool a6,.int .u32 a7,.int .u8 a8,.int .u8 a9,.int .u32 a10,.slice A11 l11.length c11,.int .u32 a12] 28))
 have Bb6:=Aside0.mk (blk_alloc Bb5.out (.cells #[.int .u8 a0,.int .u8 a1,.int .u32 a2,.int .u32 a3,.slice A4 l4.length c4,.slice A5 l5.length c5,.bool a6,.int .u32 a7,.int .u8 a8,.int .u8 a9,.int .u32 a10,.slice A11 l11.length c11,.int .u32 a12] 28))
 have Bo6:=Aside0.mk (blk_alloc Bo5.out (.cells #[.int .u8 a0,.int .u8 a1,.int .u32 a2,.int .u32 a3,.slice A4 l4.length c4,.slice A5 l5.length c5,.bool a6,.int .u32 a7,.int .u8 a8,.int .u8 a9,.int .u32 a10,.slice A11 l11.length c11,.int .u32 a12] 28))
 have Bn6:=Aside0.mk (blk_alloc Bn5.out (.cells #[.int .u8 a0,.int .u8 a1,.int .u32 a2,.int .u32 a3,.slice A4 l4.length c4,.slice A5 l5.length c5,.bool a6,.int .u32 a7,.int .u8 a8,.int .u8 a9,.int .u32 a10,.slice A11 l11.length c11,.int .u32 a12] 28))
 have Bm6:=Aside0.mk (blk_alloc Bm5.out (.cells #[.int .u8 a0,.int .u8 a1,.int .u32 a2,.int .u32 a3,.slice A4 l4.length c4,.slice A5 l5.length c5,.bool a6,.int .u32 a7,.int .u8 a8,.int .u8 a9,.int .u32 a10,.slice A11 l11.length c11,.int .u32 a12] 28))
 have Bv6:=Aside0.mk (blk_alloc Bv5.out (.cells #[.int .u8 a0,.int .u8 a1,.int .u32 a2,.int .u32 a3,.slice A4 l4.length c4,.slice A5 l5.length c5,.bool a6,.int .u32 a7,.int .u8 a8,.int .u8 a9,.int .u32 a10,.slice A11 l11.length c11,.int .u32 a12] 28))
 have Bw6:=Aside0.mk (blk_new w5 (.cells #[.int .u8 a0,.int .u8 a1,.int .u32 a2,.int .u32 a3,.slice A4 l4.length c4,.slice A5 l5.length c5,.bool a6,.int .u32 a7,.int .u8 a8,.int .u8 a9,.int .u32 a10,.slice A11 l11.length c11,.int .u32 a12] 28))
 have HB6:=Aside0.mk (HB5.out.alloc HB5.out.size (.cells #[.int .u8 a0,.int .u8 a1,.int .u32 a2,.int .u32 a3,.slice A4 l4.length c4,.slice A5 l5.length c5,.bool a6,.int .u32 a7,.int .u8 a8,.int .u8 a9,.int .u32 a10,.slice A11 l11.length c11,.int .u32 a12] 28))
 have HG6:=Aside0.mk (show w0.heap.size ≤ (w5.alloc (.cells #[.int .u8 a0,.int .u8 a1,.int .u32 a2,.int .u32 a3,.slice A4 l4.length c4,.slice A5 l5.length c5,.bool a6,.int .u32 a7,.int .u8 a8,.int .u8 a9,.int .u32 a10,.slice A11 l11.length c11,.int .u32 a12] 28)).heap.size by have:=HG5.out;simp;omega)
 have HGN : w.heap.size + 6 ≤ w5.heap.size:=by have:=GG.out;have:=HG5.out;omega
 obtain ⟨r_0,r_1,r_2,r_3,r_4,r_5,r_6,r_7,r_8,r_9,r_10,r_11,r_12⟩:=cells13 Br5.out
 obtain ⟨b_0,b_1,b_2,b_3,b_4,b_5,b_6,b_7,b_8,b_9,b_10,b_11⟩:=cells12 Bb5.out
 obtain ⟨qb0,qb1,qb2,qb3,qb4,qb5,qb6,qb7,qb8,qb9,qb10,qb11⟩:=cells12 Bb6.out
 clear HB5 HG5 Br5 Bb5 Bo5 Bn5 Bm5 Bv5
 go_wp2_with fail
 clear r_0 r_1 r_2 r_3 r_4 r_5 r_6 r_7 r_8 r_9 r_10 r_11 r_12 b_0 b_1 b_2 b_3 b_4 b_5 b_6 b_7 b_8 b_9 b_10 b_11 qb0 qb1 qb2 qb3 qb4 qb5 qb6 qb7 qb8 qb9 qb10 qb11
 generalize w5.alloc (.cells #[.int .u8 a0,.int .u8 a1,.int .u32 a2,.int .u32 a3,.slice A4 l4.length c4,.slice A5 l5.length c5,.bool a6,.int .u32 a7,.int .u8 a8,.int .u8 a9,.int .u32 a10,.slice A11 l11.length c11,.int .u32 a12] 28) = w6 at Br6 Bb6 Bo6 Bn6 Bm6 Bv6 Bw6 HB6 HG6 ⊢
 generalize w5.heap.size = gn at Bw6 HGN ⊢
 have O4n:=Aside0.mk ((O4'.out.lt (by decide)).below HB6.out |>.mono (fun j h=>(⟨h.1,.inl h.2⟩ : (fun j=>S j ∧ (j < w.heap.size ∨ gn < j)) j)))
 have O5n:=Aside0.mk ((O5'.out.lt (by decide)).below HB6.out |>.mono (fun j h=>(⟨h.1,.inl h.2⟩ : (fun j=>S j ∧ (j < w.heap.size ∨ gn < j)) j)))
 go_loopg [66] m8.length (fun gg ss wr=>∃ (kk : Nat) (T4 T5 : Option Addr) (e4 e5 : Nat),kk ≤ m8.length ∧ m8.length - kk ≤ gg ∧ ss = .int .i64 kk ∧ Aside0 (Below w.heap.size w wr) ∧ Aside0 (w0.heap.size ≤ wr.heap.size) ∧ Aside0 (wr.heap[w.heap.size]? = some (.cells #[.int .u8 a0,.int .u8 a1,.int .u32 a2,.int .u32 a3,.slice A4 l4.length c4,.slice A5 l5.length c5,.bool a6,.int .u32 a7,.int .u8 a8,.int .u8 a9,.int .u32 a10,.slice A11 l11.length c11,.int .u32 a12] 28 (0,0))) ∧ Aside0 (wr.heap[w.heap.size + 1]? = some (.cells #[.int .i64 b0,.int .u8 b1,.int .u8 b2,.int .u32 b3,.int .u8 b4,.int .u8 b5,.slice M6 m6.length d6,.int .u32 b7,.slice M8 m8.length d8,.int .u8 b9,.bool true,.slice M11 m11.length d11] 30 (0,0))) ∧ Aside0 (wr.heap[w.heap.size + 1 + 1]? = some (.cells #[.int .u8 0,.int .u8 0,.int .u32 0,.int .u32 0,.slice none 0 0,.slice none 0 0,.bool false,.int .u32 0,.int .u8 0,.int .u8 0,.int .u32 0,.slice none 0 0,.int .u32 0] 28 (0,0))) ∧ Aside0 (wr.heap[w.heap.size + 1 + 1 + 1]? = some (.cells #[.int .i64 0,.int .u8 0,.int .u8 0,.int .u32 0,.int .u8 0,.int .u8 0,.slice none 0 0,.int .u32 0,.slice none 0 0,.int .u8 0,.bool false,.slice none 0 0] 30 (0,0))) ∧ Aside0 (wr.heap[w.heap.size + 1 + 1 + 1 + 1]? = some (.cells #[.bool false] 4 (0,0))) ∧ Aside0 (wr.heap[w.heap.size + 1 + 1 + 1 + 1 + 1]? = some (.cells #[.nilIface] 35 (0,0))) ∧ Aside0 (wr.heap[gn]? = some (.cells #[.int .u8 a0,.int .u8 a1,.int .u32 a2,.int .u32 a3,.slice T4 (st kk).1.length e4,.slice T5 (st kk).2.length e5,.bool a6,.int .u32 a7,.int .u8 a8,.int .u8 a9,.int .u32 a10,.slice A11 l11.length c11,.int .u32 a12] 28 (0,0))) ∧ Aside0 (On k67 wr (fun j=>S j ∧ (j < w.heap.size ∨ gn < j)) T4 e4 (st kk).1) ∧ Aside0 (On k62 wr (fun j=>S j ∧ (j < w.heap.size ∨ gn < j)) T5 e5 (st kk).2))
 case atStart=>exact ⟨0,A4,A5,c4,c5,Nat.zero_le _,by omega,rfl,HB6,HG6,Br6,Bb6,Bo6,Bn6,Bm6,Bv6,⟨by rw [ST0'.out];exact Bw6.out⟩,⟨by rw [ST0'.out];exact O4n.out⟩,⟨by rw [ST0'.out];exact O5n.out⟩⟩
 case round =>
  obtain ⟨kk,T4,T5,e4,e5,hkk,hgg,rfl,HB7,HG7,Br7,Bb7,Bo7,Bn7,Bm7,Bv7,Bw7,Okn7,Ohq7⟩:=hrel
  clear HB6 HG6 O4n O5n Br6 Bb6 Bo6 Bn6 Bm6 Bv6 Bw6
  obtain ⟨w7,hwn⟩ : ∃ x,x = wr:=⟨_,rfl⟩
  subst hwn
  by_cases hlt : kk < m8.length
  ·have HX:=Aside0.mk (HST'.out kk hlt)
   obtain ⟨kn1,ekn1⟩ : ∃ x,x = (st (kk + 1)).1:=⟨_,rfl⟩
   obtain ⟨hq1,ehq1⟩ : ∃ x,x = (st (kk + 1)).2:=⟨_,rfl⟩
   rw [← ekn1,← ehq1] at HX
   have EK:=Aside0.mk ekn1
   have EH:=Aside0.mk ehq1
   clear ekn1 ehq1
   have hltz : (kk : Int) < (m8.length : Int):=by omega
   have h0k : (0 : Int) ≤ (kk : Int):=by omega
   have hmax : m8.length ≤ 9223372036854775807:=P8'.out.row.2.1
   obtain ⟨ax,e,y0,y1,y2,y3,y4,y5,y6⟩:=at_T62 (Kd.C_below P8'.out.row HB7.out) (kk : Int) h0k hltz
   subst e
   have hX : rd_T62 m8 (kk : Int) = m8.getD kk z62:=rfl
   rw [hX] at y0 y1 y2 y3 y4 y5 y6
   clear hX
   simp only [Int.toNat_natCast] at y0 y1 y2 y3 y4 y5 y6
   have hP8:=Aside0.mk P8'.out.len
   obtain ⟨kn,ekn⟩ : ∃ x,x = (st kk).1:=⟨_,rfl⟩
   obtain ⟨hq,ehq⟩ : ∃ x,x = (st kk).2:=⟨_,rfl⟩
   rw [← ekn] at Bw7 Okn7 HX
   rw [← ehq] at Bw7 Ohq7 HX
   clear ekn ehq
   generalize m8.getD kk z62 = X at HX y0 y1 y2 y3 y4 y5 y6
   have hkc : (kk : Int) ≤ (d8 : Int):=by have:=hP8.out;omega
   have Br8:=Aside0.mk (blk_alloc Br7.out (.cells #[.int .u8 X.f0,.int .u8 X.f1.f0,.int .u32 X.f1.f1,.int .u32 X.f1.f2,.int .i64 X.f2,.int .u8 X.f3,.int .u32 X.f4] 62))
   have Bb8:=Aside0.mk (blk_alloc Bb7.out (.cells #[.int .u8 X.f0,.int .u8 X.f1.f0,.int .u32 X.f1.f1,.int .u32 X.f1.f2,.int .i64 X.f2,.int .u8 X.f3,.int .u32 X.f4] 62))
   have Bo8:=Aside0.mk (blk_alloc Bo7.out (.cells #[.int .u8 X.f0,.int .u8 X.f1.f0,.int .u32 X.f1.f1,.int .u32 X.f1.f2,.int .i64 X.f2,.int .u8 X.f3,.int .u32 X.f4] 62))
   have Bn8:=Aside0.mk (blk_alloc Bn7.out (.cells #[.int .u8 X.f0,.int .u8 X.f1.f0,.int .u32 X.f1.f1,.int .u32 X.f1.f2,.int .i64 X.f2,.int .u8 X.f3,.int .u32 X.f4] 62))
   have Bm8:=Aside0.mk (blk_alloc Bm7.out (.cells #[.int .u8 X.f0,.int .u8 X.f1.f0,.int .u32 X.f1.f1,.int .u32 X.f1.f2,.int .i64 X.f2,.int .u8 X.f3,.int .u32 X.f4] 62))
   have Bv8:=Aside0.mk (blk_alloc Bv7.out (.cells #[.int .u8 X.f0,.int .u8 X.f1.f0,.int .u32 X.f1.f1,.int .u32 X.f1.f2,.int .i64 X.f2,.int .u8 X.f3,.int .u32 X.f4] 62))
   have Bw8:=Aside0.mk (blk_alloc Bw7.out (.cells #[.int .u8 X.f0,.int .u8 X.f1.f0,.int .u32 X.f1.f1,.int .u32 X.f1.f2,.int .i64 X.f2,.int .u8 X.f3,.int .u32 X.f4] 62))
   have Bz8:=Aside0.mk (blk_new w7 (.cells #[.int .u8 X.f0,.int .u8 X.f1.f0,.int .u32 X.f1.f1,.int .u32 X.f1.f2,.int .i64 X.f2,.int .u8 X.f3,.int .u32 X.f4] 62))
   have HB8:=Aside0.mk (HB7.out.alloc HB7.out.size (.cells #[.int .u8 X.f0,.int .u8 X.f1.f0,.int .u32 X.f1.f1,.int .u32 X.f1.f2,.int .i64 X.f2,.int .u8 X.f3,.int .u32 X.f4] 62))
   have HG8:=Aside0.mk (show w0.heap.size ≤ (w7.alloc (.cells #[.int .u8 X.f0,.int .u8 X.f1.f0,.int .u32 X.f1.f1,.int .u32 X.f1.f2,.int .i64 X.f2,.int .u8 X.f3,.int .u32 X.f4] 62)).heap.size by have:=HG7.out;simp;omega)
   have Okn8:=Aside0.mk (Okn7.out.below ((Below.refl _ w7).alloc (Nat.le_refl _) (.cells #[.int .u8 X.f0,.int .u8 X.f1.f0,.int .u32 X.f1.f1,.int .u32 X.f1.f2,.int .i64 X.f2,.int .u8 X.f3,.int .u32 X.f4] 62)))
   have Ohq8:=Aside0.mk (Ohq7.out.below ((Below.refl _ w7).alloc (Nat.le_refl _) (.cells #[.int .u8 X.f0,.int .u8 X.f1.f0,.int .u32 X.f1.f1,.int .u32 X.f1.f2,.int .i64 X.f2,.int .u8 X.f3,.int .u32 X.f4] 62)))
   have hgnl : gn < w7.heap.size:=blk_lt Bw7.out
   have HGL:=Aside0.mk hgnl
   have hne : gn ≠ w7.heap.size:=by omega
   clear HB7 HG7 Okn7 Ohq7 Br7 Bb7 Bo7 Bn7 Bm7 Bv7 Bw7
   obtain ⟨w_0,w_1,w_2,w_3,w_4,w_5,w_6,w_7,w_8,w_9,w_10,w_11,w_12⟩:=cells13 Bw8.out
   obtain ⟨b_0,b_1,b_2,b_3,b_4,b_5,b_6,b_7,b_8,b_9,b_10,b_11⟩:=cells12 Bb8.out
   obtain ⟨qz0,qz1,qz2,qz3,qz4,qz5,qz6⟩:=cells7 Bz8.out
   go_wp2_with fail
   clear w_0 w_1 w_2 w_3 w_4 w_5 w_6 w_7 w_8 w_9 w_10 w_11 w_12 b_0 b_1 b_2 b_3 b_4 b_5 b_6 b_7 b_8 b_9 b_10 b_11 qz0 qz1 qz2 qz3 qz4 qz5 qz6
   generalize w7.alloc (.cells #[.int .u8 X.f0,.int .u8 X.f1.f0,.int .u32 X.f1.f1,.int .u32 X.f1.f2,.int .i64 X.f2,.int .u8 X.f3,.int .u32 X.f4] 62) = w8 at Br8 Bb8 Bo8 Bn8 Bm8 Bv8 Bw8 Bz8 HB8 HG8 Okn8 Ohq8 ⊢
   clear y0 y1 y2 y3 y4 y5 y6 hne hgnl HGL
   generalize w7.heap.size = gx at Bz8 ⊢
   clear Bz8
   refine (take_OK k a0 a1 a2 a3 kn hq a6 a7 a8 a9 a10 l11 a12 T4 T5 A11 e4 e5 c11 X _ (fun j=>S j ∧ (j < w.heap.size ∨ gn < j)) Okn8.out Ohq8.out (fun j hj=>⟨HS'.out j (Nat.le_trans HB8.out.size hj),.inr (Nat.lt_of_lt_of_le (blk_lt Bw8.out) hj)⟩) kn1 hq1 HX.out).mono ?_
   rintro ev w9 ⟨V4,V5,f4,f5,rfl,q4,q5,hx⟩
   have Br9:=Aside0.mk (blk_below Br8.out hx)
   have Bb9:=Aside0.mk (blk_below Bb8.out hx)
   have Bo9:=Aside0.mk (blk_below Bo8.out hx)
   have Bn9:=Aside0.mk (blk_below Bn8.out hx)
   have Bm9:=Aside0.mk (blk_below Bm8.out hx)
   have Bv9:=Aside0.mk (blk_below Bv8.out hx)
   have Bw9:=Aside0.mk (blk_below Bw8.out hx)
   have HB9:=Aside0.mk (below_step HB8.out hx)
   have Okn9:=Aside0.mk q4
   clear q4
   have Ohq9:=Aside0.mk q5
   clear q5
   have HG9:=Aside0.mk (Nat.le_trans HG8.out hx.size)
   clear hx HB8 HG8 Br8 Bb8 Bo8 Bn8 Bm8 Bv8 Bw8
   clear Okn8 Ohq8
   obtain ⟨w_0,w_1,w_2,w_3,w_4,w_5,w_6,w_7,w_8,w_9,w_10,w_11,w_12⟩:=cells13 Bw9.out
   obtain ⟨r_0,r_1,r_2,r_3,r_4,r_5,r_6,r_7,r_8,r_9,r_10,r_11,r_12⟩:=cells13 Br9.out
   go_wp2_with (first | ((with_reducible refine gate_store (t:=28) (p:=8) rfl ?_);refine store_event (t:=28) (p:=8) (v:=?vo10_) (w1:=put_ w9 gn 0 [.int .u8 a0,.int .u8 a1,.int .u32 a2,.int .u32 a3,.slice V4 kn1.length f4,.slice V5 hq1.length f5,.bool a6,.int .u32 a7,.int .u8 a8,.int .u8 a9,.int .u32 a10,.slice A11 l11.length c11,.int .u32 a12]) ?hg ?ho ?hn ?hr ?_;(case ho=>rfl);(case hg=>rfl);(case hn=>rfl);(case hr=>obtain ⟨_,_,_,_,_,_,_,_,_,_,_,_,_⟩:=frz13 Bw9.out;go_simp;rfl);intro w10 hw;have Br10:=Aside0.mk (far_ hw (by omega) Br9.out);have Bb10:=Aside0.mk (far_ hw (by omega) Bb9.out);have Bo10:=Aside0.mk (far_ hw (by omega) Bo9.out);have Bn10:=Aside0.mk (far_ hw (by omega) Bn9.out);have Bm10:=Aside0.mk (far_ hw (by omega) Bm9.out);have Bv10:=Aside0.mk (far_ hw (by omega) Bv9.out);have Bw10:=Aside0.mk (own13_0_13 hw Bw9.out);have HB10:=Aside0.mk (bel_ hw (by omega) HB9.out);have Okn10:=Aside0.mk (Okn9.out.puts hw flatK_Run (fun k hk=>(by omega)));have Ohq10:=Aside0.mk (Ohq9.out.puts hw flatK_Entry (fun k hk=>(by omega)));have HG10:=Aside0.mk (siz_ hw HG9.out);clear hw HB9 HG9 Br9 Bb9 Bo9 Bn9 Bm9 Bv9 Bw9 Okn9 Ohq9 w_0 w_1 w_2 w_3 w_4 w_5 w_6 w_7 w_8 w_9 w_10 w_11 w_12 r_0 r_1 r_2 r_3 r_4 r_5 r_6 r_7 r_8 r_9 r_10 r_11 r_12;obtain ⟨r10_0,r10_1,r10_2,r10_3,r10_4,r10_5,r10_6,r10_7,r10_8,r10_9,r10_10,r10_11,r10_12⟩:=cells13 Br10.out;obtain ⟨b10_0,b10_1,b10_2,b10_3,b10_4,b10_5,b10_6,b10_7,b10_8,b10_9,b10_10,b10_11⟩:=cells12 Bb10.out;obtain ⟨o10_0,o10_1,o10_2,o10_3,o10_4,o10_5,o10_6,o10_7,o10_8,o10_9,o10_10,o10_11,o10_12⟩:=cells13 Bo10.out;obtain ⟨n10_0,n10_1,n10_2,n10_3,n10_4,n10_5,n10_6,n10_7,n10_8,n10_9,n10_10,n10_11⟩:=cells12 Bn10.out;have m10_0:=(blk_cell Bm10.out 0).trans (show _ = some (.bool false) from rfl);have v10_0:=(blk_cell Bv10.out 0).trans (show _ = some (.nilIface) from rfl);obtain ⟨w10_0,w10_1,w10_2,w10_3,w10_4,w10_5,w10_6,w10_7,w10_8,w10_9,w10_10,w10_11,w10_12⟩:=cells13 Bw10.out))
   go_roundg (m8.length - (kk + 1))
   case measure=>omega
   case rel =>
    have ek:=EK.out
    have eh:=EH.out
    subst ek
    subst eh
    exact ⟨kk + 1,_,_,_,_,by omega,Nat.le_refl _,by go_num,HB10,HG10,Br10,Bb10,Bo10,Bn10,Bm10,Bv10,Bw10,Okn10,Ohq10⟩
  ·have hk2 : kk = m8.length:=by omega
   have hltz : ¬ (kk : Int) < (m8.length : Int):=by omega
   have hmax : m8.length ≤ 9223372036854775807:=P8'.out.row.2.1
   obtain ⟨kn,ekn⟩ : ∃ x,x = (st kk).1:=⟨_,rfl⟩
   obtain ⟨hq,ehq⟩ : ∃ x,x = (st kk).2:=⟨_,rfl⟩
   rw [← ekn] at Bw7 Okn7
   rw [← ehq] at Bw7 Ohq7
   rw [hk2] at ekn ehq
   rw [← ekn] at HUN'
   have EK:=Aside0.mk ekn
   have EH:=Aside0.mk ehq
   clear ekn ehq hk2
   obtain ⟨w_0,w_1,w_2,w_3,w_4,w_5,w_6,w_7,w_8,w_9,w_10,w_11,w_12⟩:=cells13 Bw7.out
   obtain ⟨b_0,b_1,b_2,b_3,b_4,b_5,b_6,b_7,b_8,b_9,b_10,b_11⟩:=cells12 Bb7.out
   go_wp2_with fail
   clear hltz hlt hkk hgg hmax
   refine region_lex (fun (s : Option (Option Addr × Nat)) d w'=>Below w.heap.size w w' ∧ w0.heap.size ≤ w'.heap.size ∧ w'.heap[w.heap.size]? = w7.heap[w.heap.size]? ∧ w'.heap[w.heap.size + 1]? = w7.heap[w.heap.size + 1]? ∧ w'.heap[w.heap.size + 1 + 1]? = w7.heap[w.heap.size + 1 + 1]? ∧ w'.heap[w.heap.size + 1 + 1 + 1]? = w7.heap[w.heap.size + 1 + 1 + 1]? ∧ w'.heap[w.heap.size + 1 + 1 + 1 + 1]? = w7.heap[w.heap.size + 1 + 1 + 1 + 1]? ∧ w'.heap[w.heap.size + 1 + 1 + 1 + 1 + 1]? = w7.heap[w.heap.size + 1 + 1 + 1 + 1 + 1]? ∧ On k67 w' (fun j=>S j ∧ (j < w.heap.size ∨ gn < j)) T4 e4 kn ∧ On k62 w' (fun j=>S j ∧ (j < w.heap.size ∨ gn < j)) T5 e5 hq ∧ (match s with | none=>(d 7 = false ∧ d 10 = false) ∧ w'.heap[gn]? = some (.cells #[.int .u8 a0,.int .u8 a1,.int .u32 a2,.int .u32 a3,.slice T4 kn.length e4,.slice T5 hq.length e5,.bool a6,.int .u32 a7,.int .u8 a8,.int .u8 a9,.int .u32 a10,.slice A11 l11.length c11,.int .u32 a12] 28 (0,0)) | some (TO,cO)=>(On k67 w' (fun j=>S j ∧ (j < w.heap.size ∨ gn < j)) TO cO m11) ∧ w'.heap[gn]? = some (.cells #[.int .u8 a0,.int .u8 a1,.int .u32 a2,.int .u32 a3,.slice T4 kn.length e4,.slice T5 hq.length e5,.bool a6,.int .u32 a7,.int .u8 a8,.int .u8 a9,if d 7 = true then .int .u32 b7 else .int .u32 a10,if d 10 = true then .slice TO m11.length cO else .slice A11 l11.length c11,.int .u32 a12] 28 (0,0)))) 11 #[false,false,false,false,false,false,false,false,false,false,false] (by kernel_rfl) rfl rfl ?_ ?_
   ·exact ⟨pw_below_drewN HB7.out 1,HG7.out,rfl,rfl,rfl,rfl,rfl,rfl,On.drewN Okn7.out 1,On.drewN Ohq7.out 1,⟨⟨rfl,rfl⟩,blk_drewN Bw7.out 1⟩⟩
   clear w_0 w_1 w_2 w_3 w_4 w_5 w_6 w_7 w_8 w_9 w_10 w_11 w_12 b_0 b_1 b_2 b_3 b_4 b_5 b_6 b_7 b_8 b_9 b_10 b_11
   refine lex_val (k:=0) (N:=some 77) (a':=?a0_11) (.pointer (some ⟨w.heap.size + 1,7,none⟩)) #[true,false,false,false,false,false,false,false,false,false,false] rfl rfl (by kernel_rfl) (by rfl) ?h0_11 ?ha0_11 ?r0_11
   case h0_11 =>
    rintro s hs_ d w' hd ⟨hB,hG,hr,hb,ho,hn,hm,hv,okn,ohq,hgh⟩
    refine ⟨w',?_,?_⟩
    ·go_simp
     try with_reducible rfl
    ·exact ⟨hB,hG,hr,hb,ho,hn,hm,hv,okn,ohq,hgh⟩
   case ha0_11 =>
    simp only [Act.put,List.setIfInBounds_toArray,List.set_cons_zero,List.set_cons_succ,i64_w,i32_w]
    rfl
   case r0_11 =>
    refine lex_val (k:=1) (N:=some 78) (a':=?a1_11) (.int .u32 b7) #[true,true,false,false,false,false,false,false,false,false,false] rfl rfl (by kernel_rfl) (by rfl) ?h1_11 ?ha1_11 ?r1_11
    case h1_11 =>
     rintro s hs_ d w' hd ⟨hB,hG,hr,hb,ho,hn,hm,hv,okn,ohq,hgh⟩
     obtain ⟨qb0,qb1,qb2,qb3,qb4,qb5,qb6,qb7,qb8,qb9,qb10,qb11⟩:=cells12 (hb.trans Bb7.out)
     refine ⟨w',?_,?_⟩
     ·go_simp
      try with_reducible rfl
     ·exact ⟨hB,hG,hr,hb,ho,hn,hm,hv,okn,ohq,hgh⟩
    case ha1_11 =>
     simp only [Act.put,List.setIfInBounds_toArray,List.set_cons_zero,List.set_cons_succ,i64_w,i32_w]
     rfl
    case r1_11 =>
     refine lex_val (k:=2) (N:=some 79) (a':=?a2_11) (.pointer (some ⟨w.heap.size + 1,11,none⟩)) #[true,true,true,false,false,false,false,false,false,false,false] rfl rfl (by kernel_rfl) (by rfl) ?h2_11 ?ha2_11 ?r2_11
     case h2_11 =>
      rintro s hs_ d w' hd ⟨hB,hG,hr,hb,ho,hn,hm,hv,okn,ohq,hgh⟩
      refine ⟨w',?_,?_⟩
      ·go_simp
       try with_reducible rfl
      ·exact ⟨hB,hG,hr,hb,ho,hn,hm,hv,okn,ohq,hgh⟩
     case ha2_11 =>
      simp only [Act.put,List.setIfInBounds_toArray,List.set_cons_zero,List.set_cons_succ,i64_w,i32_w]
      rfl
     case r2_11 =>
      refine lex_val (k:=3) (N:=some 80) (a':=?a3_11) (.slice M11 m11.length d11) #[true,true,true,true,false,false,false,false,false,false,false] rfl rfl (by kernel_rfl) (by rfl) ?h3_11 ?ha3_11 ?r3_11
      case h3_11 =>
       rintro s hs_ d w' hd ⟨hB,hG,hr,hb,ho,hn,hm,hv,okn,ohq,hgh⟩
       obtain ⟨qb0,qb1,qb2,qb3,qb4,qb5,qb6,qb7,qb8,qb9,qb10,qb11⟩:=cells12 (hb.trans Bb7.out)
       refine ⟨w',?_,?_⟩
       ·go_simp
        try with_reducible rfl
       ·exact ⟨hB,hG,hr,hb,ho,hn,hm,hv,okn,ohq,hgh⟩
      case ha3_11 =>
       simp only [Act.put,List.setIfInBounds_toArray,List.set_cons_zero,List.set_cons_succ,i64_w,i32_w]
       rfl
      case r3_11 =>
       refine lex_val (k:=5) (N:=some 82) (a':=?a5_11) (.pointer (some ⟨gn,6,none⟩)) #[true,true,true,true,false,true,false,false,false,false,false] rfl rfl (by kernel_rfl) (by rfl) ?h5_11 ?ha5_11 ?r5_11
       case h5_11 =>
        rintro s hs_ d w' hd ⟨hB,hG,hr,hb,ho,hn,hm,hv,okn,ohq,hgh⟩
        refine ⟨w',?_,?_⟩
        ·go_simp
         try with_reducible rfl
        ·exact ⟨hB,hG,hr,hb,ho,hn,hm,hv,okn,ohq,hgh⟩
       case ha5_11 =>
        simp only [Act.put,List.setIfInBounds_toArray,List.set_cons_zero,List.set_cons_succ,i64_w,i32_w]
        rfl
       case r5_11 =>
        refine lex_val (k:=6) (N:=some 83) (a':=?a6_11) (.pointer (some ⟨gn,10,none⟩)) #[true,true,true,true,false,true,true,false,false,false,false] rfl rfl (by kernel_rfl) (by rfl) ?h6_11 ?ha6_11 ?r6_11
        case h6_11 =>
         rintro s hs_ d w' hd ⟨hB,hG,hr,hb,ho,hn,hm,hv,okn,ohq,hgh⟩
         refine ⟨w',?_,?_⟩
         ·go_simp
          try with_reducible rfl
         ·exact ⟨hB,hG,hr,hb,ho,hn,hm,hv,okn,ohq,hgh⟩
        case ha6_11 =>
         simp only [Act.put,List.setIfInBounds_toArray,List.set_cons_zero,List.set_cons_succ,i64_w,i32_w]
         rfl
        case r6_11 =>
         refine lex_ask (k:=4) (N:=some 81) 36 #[.slice M11 m11.length d11] (fun (TO,cO)=>.slice TO m11.length cO) #[true,true,true,true,true,true,true,false,false,false,false] rfl rfl (by kernel_rfl) (by rfl) ?h14_11 ?h4_11 ?r4_11
         case h14_11=>intro w';go_simp
         case h4_11 =>
          rintro d w' hd ⟨hB,hG,hr,hb,ho,hn,hm,hv,okn,ohq,hgd,hgb⟩
          refine (clone_On M11 d11 m11 w' (fun j=>S j ∧ (j < w.heap.size ∨ gn < j)) (Kd.C_below P11'.out.row hB) P11'.out.len (fun j hj=>⟨HS'.out j (Nat.le_trans hB.size hj),.inr (Nat.lt_of_lt_of_le (blk_lt hgb) hj)⟩) HLO'.out).mono ?_
          rintro e w2 ⟨TO,cO,rfl,q1,hx⟩
          obtain ⟨hgd7,hgd10⟩:=hgd
          refine ⟨(TO,cO),rfl,hB.trans (hx.mono hB.size),Nat.le_trans hG hx.size,keep_ hr Br7.out hx,keep_ hb Bb7.out hx,keep_ ho Bo7.out hx,keep_ hn Bn7.out hx,keep_ hm Bm7.out hx,keep_ hv Bv7.out hx,okn.below hx,ohq.below hx,⟨q1,?_⟩⟩
          rw [show upd d 4 7 = d 7 from rfl,hgd7]
          rw [show upd d 4 10 = d 10 from rfl,hgd10]
          exact blk_below hgb hx
         case r4_11 =>
          rintro ⟨TO,cO⟩
          refine lex_norm (a':=?_) ?_ ?_
          rotate_left
          ·show Act.put _ (some 81) _ = _
           simp only [Act.put,List.setIfInBounds_toArray,List.set_cons_zero,List.set_cons_succ,i64_w,i32_w]
           rfl
          refine lex_skip (k:=7) (N:=none) (a':=?a7_11) #[true,true,true,true,true,true,true,true,false,false,false] rfl rfl (by kernel_rfl) (by rfl) ?h7_11 ?ha7_11 ?r7_11
          case h7_11 =>
           rintro s hs_ d w' hd ⟨hB,hG,hr,hb,ho,hn,hm,hv,okn,ohq,hgh⟩
           rcases hs_ with hs_ | rfl
           ·cases hs_
           obtain ⟨q1,hgb⟩:=hgh
           have hb_:=hgb
           have f10:=blk_frozen hb_ 10
           have z10:=(blk_cell hb_ 10).trans (show _ = some _ from rfl)
           refine ⟨put_ w' (gn) 10 [.int .u32 b7],?_,?_⟩
           ·go_simp
            try rfl
           ·exact ⟨put_below _ (by omega) _ _ _ hB,by rw [put_size];exact hG,(put_far _ _ (by omega) _ _ _).trans hr,(put_far _ _ (by omega) _ _ _).trans hb,(put_far _ _ (by omega) _ _ _).trans ho,(put_far _ _ (by omega) _ _ _).trans hn,(put_far _ _ (by omega) _ _ _).trans hm,(put_far _ _ (by omega) _ _ _).trans hv,On.put flatK_Run _ (fun k hk=>(by omega)) _ _ _ okn,On.put flatK_Entry _ (fun k hk=>(by omega)) _ _ _ ohq,⟨On.put flatK_Run _ (fun k hk=>by omega) _ _ _ q1,put_lit _ _ [.int .u8 a0,.int .u8 a1,.int .u32 a2,.int .u32 a3,.slice T4 kn.length e4,.slice T5 hq.length e5,.bool a6,.int .u32 a7,.int .u8 a8,.int .u8 a9] [if d 7 = true then .int .u32 b7 else .int .u32 a10] [if d 10 = true then .slice TO m11.length cO else .slice A11 l11.length c11,.int .u32 a12] _ rfl hb_⟩⟩
          case ha7_11=>rfl
          case r7_11 =>
           refine lex_val (k:=8) (N:=some 84) (a':=?a8_11) (.pointer (some ⟨gn,6,none⟩)) #[true,true,true,true,true,true,true,true,true,false,false] rfl rfl (by kernel_rfl) (by rfl) ?h8_11 ?ha8_11 ?r8_11
           case h8_11 =>
            rintro s hs_ d w' hd ⟨hB,hG,hr,hb,ho,hn,hm,hv,okn,ohq,hgh⟩
            refine ⟨w',?_,?_⟩
            ·go_simp
             try with_reducible rfl
            ·exact ⟨hB,hG,hr,hb,ho,hn,hm,hv,okn,ohq,hgh⟩
           case ha8_11 =>
            simp only [Act.put,List.setIfInBounds_toArray,List.set_cons_zero,List.set_cons_succ,i64_w,i32_w]
            rfl
           case r8_11 =>
            refine lex_val (k:=9) (N:=some 85) (a':=?a9_11) (.pointer (some ⟨gn,11,none⟩)) #[true,true,true,true,true,true,true,true,true,true,false] rfl rfl (by kernel_rfl) (by rfl) ?h9_11 ?ha9_11 ?r9_11
            case h9_11 =>
             rintro s hs_ d w' hd ⟨hB,hG,hr,hb,ho,hn,hm,hv,okn,ohq,hgh⟩
             refine ⟨w',?_,?_⟩
             ·go_simp
              try with_reducible rfl
             ·exact ⟨hB,hG,hr,hb,ho,hn,hm,hv,okn,ohq,hgh⟩
            case ha9_11 =>
             simp only [Act.put,List.setIfInBounds_toArray,List.set_cons_zero,List.set_cons_succ,i64_w,i32_w]
             rfl
            case r9_11 =>
             refine lex_skip (k:=10) (N:=none) (a':=?a10_11) #[true,true,true,true,true,true,true,true,true,true,true] rfl rfl (by kernel_rfl) (by rfl) ?h10_11 ?ha10_11 ?r10_11
             case h10_11 =>
              rintro s hs_ d w' hd ⟨hB,hG,hr,hb,ho,hn,hm,hv,okn,ohq,hgh⟩
              rcases hs_ with hs_ | rfl
              ·cases hs_
              obtain ⟨q1,hgb⟩:=hgh
              have hb_:=hgb
              have f11:=blk_frozen hb_ 11
              have z11:=(blk_cell hb_ 11).trans (show _ = some _ from rfl)
              refine ⟨put_ w' (gn) 11 [.slice TO m11.length cO],?_,?_⟩
              ·go_simp
               try rfl
              ·exact ⟨put_below _ (by omega) _ _ _ hB,by rw [put_size];exact hG,(put_far _ _ (by omega) _ _ _).trans hr,(put_far _ _ (by omega) _ _ _).trans hb,(put_far _ _ (by omega) _ _ _).trans ho,(put_far _ _ (by omega) _ _ _).trans hn,(put_far _ _ (by omega) _ _ _).trans hm,(put_far _ _ (by omega) _ _ _).trans hv,On.put flatK_Run _ (fun k hk=>(by omega)) _ _ _ okn,On.put flatK_Entry _ (fun k hk=>(by omega)) _ _ _ ohq,⟨On.put flatK_Run _ (fun k hk=>by omega) _ _ _ q1,put_lit _ _ [.int .u8 a0,.int .u8 a1,.int .u32 a2,.int .u32 a3,.slice T4 kn.length e4,.slice T5 hq.length e5,.bool a6,.int .u32 a7,.int .u8 a8,.int .u8 a9,if d 7 = true then .int .u32 b7 else .int .u32 a10] [if d 10 = true then .slice TO m11.length cO else .slice A11 l11.length c11] [.int .u32 a12] _ rfl hb_⟩⟩
             case ha10_11=>rfl
             case r10_11 =>
              refine lex_done (by kernel_rfl) ?_
              rintro w8 ⟨_,hB,hG,hr,hb,ho,hn,hm,hv,okn,ohq,hgh⟩
              obtain ⟨q1,hgb⟩:=hgh
              have Br8:=Aside0.mk (hr.trans Br7.out)
              have Bb8:=Aside0.mk (hb.trans Bb7.out)
              have Bo8:=Aside0.mk (ho.trans Bo7.out)
              have Bn8:=Aside0.mk (hn.trans Bn7.out)
              have Bm8:=Aside0.mk (hm.trans Bm7.out)
              have Bv8:=Aside0.mk (hv.trans Bv7.out)
              have Bw8:=Aside0.mk (show w8.heap[gn]? = some (.cells #[.int .u8 a0,.int .u8 a1,.int .u32 a2,.int .u32 a3,.slice T4 kn.length e4,.slice T5 hq.length e5,.bool a6,.int .u32 a7,.int .u8 a8,.int .u8 a9,.int .u32 b7,.slice TO m11.length cO,.int .u32 a12] 28 (0,0)) from hgb)
              have HB8:=Aside0.mk hB
              have HG8:=Aside0.mk hG
              have Okn8:=Aside0.mk okn
              have Ohq8:=Aside0.mk ohq
              clear hB hG hgb hr hb ho hn hm hv okn ohq HB7 HG7 Br7 Bb7 Bo7 Bn7 Bm7 Bv7 Bw7 Okn7 Ohq7
              have Oof8:=Aside0.mk q1
              clear q1
              obtain ⟨w_0,w_1,w_2,w_3,w_4,w_5,w_6,w_7,w_8,w_9,w_10,w_11,w_12⟩:=cells13 Bw8.out
              obtain ⟨b_0,b_1,b_2,b_3,b_4,b_5,b_6,b_7,b_8,b_9,b_10,b_11⟩:=cells12 Bb8.out
              go_wp2_with fail
              refine (union_On k T4 e4 kn TO cO m11 u none _ (fun j=>S j ∧ (j < w.heap.size ∨ gn < j)) Okn8.out.row Okn8.out.len Oof8.out.row Oof8.out.len (fun j hj=>⟨HS'.out j (Nat.le_trans HB8.out.size hj),.inr (Nat.lt_of_lt_of_le (blk_lt Bw8.out) hj)⟩) HUN'.out).mono ?_
              rintro ev w9 ⟨TU,eU,rfl,qu,hx⟩
              have Br9:=Aside0.mk (blk_below Br8.out hx)
              have Bb9:=Aside0.mk (blk_below Bb8.out hx)
              have Bo9:=Aside0.mk (blk_below Bo8.out hx)
              have Bn9:=Aside0.mk (blk_below Bn8.out hx)
              have Bm9:=Aside0.mk (blk_below Bm8.out hx)
              have Bv9:=Aside0.mk (blk_below Bv8.out hx)
              have Bw9:=Aside0.mk (blk_below Bw8.out hx)
              have HB9:=Aside0.mk (below_step HB8.out hx)
              have Okn9:=Aside0.mk (Okn8.out.below hx)
              have Ohq9:=Aside0.mk (Ohq8.out.below hx)
              have Oof9:=Aside0.mk (Oof8.out.below hx)
              have Oun9:=Aside0.mk qu
              clear qu
              have HG9:=Aside0.mk (Nat.le_trans HG8.out hx.size)
              clear w_0 w_1 w_2 w_3 w_4 w_5 w_6 w_7 w_8 w_9 w_10 w_11 w_12 b_0 b_1 b_2 b_3 b_4 b_5 b_6 b_7 b_8 b_9 b_10 b_11
              clear hx HB8 HG8 Br8 Bb8 Bo8 Bn8 Bm8 Bv8 Bw8 Okn8 Ohq8 Oof8
              obtain ⟨w_0,w_1,w_2,w_3,w_4,w_5,w_6,w_7,w_8,w_9,w_10,w_11,w_12⟩:=cells13 Bw9.out
              obtain ⟨b_0,b_1,b_2,b_3,b_4,b_5,b_6,b_7,b_8,b_9,b_10,b_11⟩:=cells12 Bb9.out
              go_wp2_with fail
              refine (mustRun_ok _ _).mono ?_
              rintro ev ww ⟨rfl,rfl⟩
              go_wp2_with (first | ((with_reducible refine gate_store (t:=23) (p:=97) rfl ?_);refine store_event (t:=23) (p:=97) (v:=?vo12_) (w1:=put_ w9 gn 4 [.slice TU u.length eU]) ?hg ?ho ?hn ?hr ?_;(case ho=>rfl);(case hg=>rfl);(case hn=>rfl);(case hr=>have fz_:=blk_frozen Bw9.out 4;go_simp;rfl);intro w10 hw;have Br10:=Aside0.mk (far_ hw (by omega) Br9.out);have Bb10:=Aside0.mk (far_ hw (by omega) Bb9.out);have Bo10:=Aside0.mk (far_ hw (by omega) Bo9.out);have Bn10:=Aside0.mk (far_ hw (by omega) Bn9.out);have Bm10:=Aside0.mk (far_ hw (by omega) Bm9.out);have Bv10:=Aside0.mk (far_ hw (by omega) Bv9.out);have Bw10:=Aside0.mk (own13_4_1 hw Bw9.out);have HB10:=Aside0.mk (bel_ hw (by omega) HB9.out);have Okn10:=Aside0.mk (Okn9.out.puts hw flatK_Run (fun k hk=>(by omega)));have Ohq10:=Aside0.mk (Ohq9.out.puts hw flatK_Entry (fun k hk=>(by omega)));have Oof10:=Aside0.mk (Oof9.out.puts hw flatK_Run (fun k hk=>(by omega)));have Oun10:=Aside0.mk (Oun9.out.puts hw flatK_Run (fun k hk=>(by omega)));have HG10:=Aside0.mk (siz_ hw HG9.out);clear hw HB9 HG9 Br9 Bb9 Bo9 Bn9 Bm9 Bv9 Bw9 Okn9 Ohq9 Oof9 Oun9 w_0 w_1 w_2 w_3 w_4 w_5 w_6 w_7 w_8 w_9 w_10 w_11 w_12 b_0 b_1 b_2 b_3 b_4 b_5 b_6 b_7 b_8 b_9 b_10 b_11;obtain ⟨r10_0,r10_1,r10_2,r10_3,r10_4,r10_5,r10_6,r10_7,r10_8,r10_9,r10_10,r10_11,r10_12⟩:=cells13 Br10.out;obtain ⟨b10_0,b10_1,b10_2,b10_3,b10_4,b10_5,b10_6,b10_7,b10_8,b10_9,b10_10,b10_11⟩:=cells12 Bb10.out;obtain ⟨o10_0,o10_1,o10_2,o10_3,o10_4,o10_5,o10_6,o10_7,o10_8,o10_9,o10_10,o10_11,o10_12⟩:=cells13 Bo10.out;obtain ⟨n10_0,n10_1,n10_2,n10_3,n10_4,n10_5,n10_6,n10_7,n10_8,n10_9,n10_10,n10_11⟩:=cells12 Bn10.out;have m10_0:=(blk_cell Bm10.out 0).trans (show _ = some (.bool false) from rfl);have v10_0:=(blk_cell Bv10.out 0).trans (show _ = some (.nilIface) from rfl);obtain ⟨w10_0,w10_1,w10_2,w10_3,w10_4,w10_5,w10_6,w10_7,w10_8,w10_9,w10_10,w10_11,w10_12⟩:=cells13 Bw10.out))
              refine region_lex (fun (s : Option (Unit)) d w'=>Below w.heap.size w w' ∧ w0.heap.size ≤ w'.heap.size ∧ w'.heap[w.heap.size]? = w10.heap[w.heap.size]? ∧ w'.heap[w.heap.size + 1]? = w10.heap[w.heap.size + 1]? ∧ w'.heap[w.heap.size + 1 + 1]? = (if d 3 = true then some (.cells #[.int .u8 a0,.int .u8 a1,.int .u32 a2,.int .u32 a3,.slice TU u.length eU,.slice T5 hq.length e5,.bool false,.int .u32 0,.int .u8 0,.int .u8 0,.int .u32 0,.slice none 0 0,.int .u32 a12] 28 (0,0)) else w10.heap[w.heap.size + 1 + 1]?) ∧ w'.heap[w.heap.size + 1 + 1 + 1]? = w10.heap[w.heap.size + 1 + 1 + 1]? ∧ w'.heap[w.heap.size + 1 + 1 + 1 + 1]? = w10.heap[w.heap.size + 1 + 1 + 1 + 1]? ∧ w'.heap[w.heap.size + 1 + 1 + 1 + 1 + 1]? = w10.heap[w.heap.size + 1 + 1 + 1 + 1 + 1]? ∧ w'.heap[gn]? = w10.heap[gn]? ∧ On k67 w' (fun j=>S j ∧ (j < w.heap.size ∨ gn < j)) T4 e4 kn ∧ On k62 w' (fun j=>S j ∧ (j < w.heap.size ∨ gn < j)) T5 e5 hq ∧ On k67 w' (fun j=>S j ∧ (j < w.heap.size ∨ gn < j)) TO cO m11 ∧ On k67 w' (fun j=>S j ∧ (j < w.heap.size ∨ gn < j)) TU eU u) 7 #[false,false,false,false,false,false,false] (by kernel_rfl) rfl rfl ?_ ?_
              ·exact ⟨pw_below_drewN HB10.out 1,HG10.out,rfl,rfl,rfl,rfl,rfl,rfl,rfl,On.drewN Okn10.out 1,On.drewN Ohq10.out 1,On.drewN Oof10.out 1,On.drewN Oun10.out 1⟩
              clear r10_0 r10_1 r10_2 r10_3 r10_4 r10_5 r10_6 r10_7 r10_8 r10_9 r10_10 r10_11 r10_12 b10_0 b10_1 b10_2 b10_3 b10_4 b10_5 b10_6 b10_7 b10_8 b10_9 b10_10 b10_11 o10_0 o10_1 o10_2 o10_3 o10_4 o10_5 o10_6 o10_7 o10_8 o10_9 o10_10 o10_11 o10_12 n10_0 n10_1 n10_2 n10_3 n10_4 n10_5 n10_6 n10_7 n10_8 n10_9 n10_10 n10_11 m10_0 v10_0 w10_0 w10_1 w10_2 w10_3 w10_4 w10_5 w10_6 w10_7 w10_8 w10_9 w10_10 w10_11 w10_12
              refine lex_val (k:=0) (N:=some 98) (a':=?a0_13) (.agg #[.int .u8 a0,.int .u8 a1,.int .u32 a2,.int .u32 a3,.slice TU u.length eU,.slice T5 hq.length e5,.bool a6,.int .u32 a7,.int .u8 a8,.int .u8 a9,.int .u32 b7,.slice TO m11.length cO,.int .u32 a12]) #[true,false,false,false,false,false,false] rfl rfl (by kernel_rfl) (by rfl) ?h0_13 ?ha0_13 ?r0_13
              case h0_13 =>
               rintro s hs_ d w' hd ⟨hB,hG,hr,hb,ho,hn,hm,hv,hw,okn,ohq,oof,oun⟩
               obtain ⟨qw0,qw1,qw2,qw3,qw4,qw5,qw6,qw7,qw8,qw9,qw10,qw11,qw12⟩:=cells13 (hw.trans Bw10.out)
               refine ⟨w',?_,?_⟩
               ·go_simp
                try with_reducible rfl
               ·exact ⟨hB,hG,hr,hb,ho,hn,hm,hv,hw,okn,ohq,oof,oun⟩
              case ha0_13 =>
               simp only [Act.put,List.setIfInBounds_toArray,List.set_cons_zero,List.set_cons_succ,i64_w,i32_w]
               rfl
              case r0_13 =>
               refine lex_call (k:=1) (N:=some 99) (a':=?a1_13) 33 #[.agg #[.int .u8 a0,.int .u8 a1,.int .u32 a2,.int .u32 a3,.slice TU u.length eU,.slice T5 hq.length e5,.bool a6,.int .u32 a7,.int .u8 a8,.int .u8 a9,.int .u32 b7,.slice TO m11.length cO,.int .u32 a12]] (.agg #[.int .u8 a0,.int .u8 a1,.int .u32 a2,.int .u32 a3,.slice TU u.length eU,.slice T5 hq.length e5,.bool false,.int .u32 0,.int .u8 0,.int .u8 0,.int .u32 0,.slice none 0 0,.int .u32 a12]) #[true,true,false,false,false,false,false] rfl rfl (by kernel_rfl) (by rfl) ?h11_13 ?h1_13 ?ha1_13 ?r1_13
               case h11_13=>intro w';go_simp
               case h1_13 =>
                rintro s hs_ d w' hd ⟨hB,hG,hr,hb,ho,hn,hm,hv,hw,okn,ohq,oof,oun⟩
                refine (off_is a0 a1 a2 a3 u hq a6 a7 a8 a9 b7 m11 a12 TU T5 TO eU e5 cO w').mono ?_
                rintro e w2 ⟨rfl,hx⟩
                exact ⟨rfl,hB.trans (hx.mono hB.size),Nat.le_trans hG hx.size,keep_ hr Br10.out hx,keep_ hb Bb10.out hx,keepi_ ho Bo10.out hx,keep_ hn Bn10.out hx,keep_ hm Bm10.out hx,keep_ hv Bv10.out hx,keep_ hw Bw10.out hx,okn.below hx,ohq.below hx,oof.below hx,oun.below hx⟩
               case ha1_13 =>
                simp only [Act.put,List.setIfInBounds_toArray,List.set_cons_zero,List.set_cons_succ,i64_w,i32_w]
                rfl
               case r1_13 =>
                refine lex_val (k:=2) (N:=some 100) (a':=?a2_13) (.agg #[.int .i64 0,.int .u8 0,.int .u8 0,.int .u32 0,.int .u8 0,.int .u8 0,.slice none 0 0,.int .u32 0,.slice none 0 0,.int .u8 0,.bool false,.slice none 0 0]) #[true,true,true,false,false,false,false] rfl rfl (by kernel_rfl) (by rfl) ?h2_13 ?ha2_13 ?r2_13
                case h2_13 =>
                 rintro s hs_ d w' hd ⟨hB,hG,hr,hb,ho,hn,hm,hv,hw,okn,ohq,oof,oun⟩
                 obtain ⟨qn0,qn1,qn2,qn3,qn4,qn5,qn6,qn7,qn8,qn9,qn10,qn11⟩:=cells12 (hn.trans Bn10.out)
                 refine ⟨w',?_,?_⟩
                 ·go_simp
                  try with_reducible rfl
                 ·exact ⟨hB,hG,hr,hb,ho,hn,hm,hv,hw,okn,ohq,oof,oun⟩
                case ha2_13 =>
                 simp only [Act.put,List.setIfInBounds_toArray,List.set_cons_zero,List.set_cons_succ,i64_w,i32_w]
                 rfl
                case r2_13 =>
                 refine lex_skip (k:=3) (N:=none) (a':=?a3_13) #[true,true,true,true,false,false,false] rfl rfl (by kernel_rfl) (by rfl) ?h3_13 ?ha3_13 ?r3_13
                 case h3_13 =>
                  rintro s hs_ d w' hd ⟨hB,hG,hr,hb,ho,hn,hm,hv,hw,okn,ohq,oof,oun⟩
                  have hb_:=(ho.trans (if_neg (by simp [hd]))).trans Bo10.out
                  obtain ⟨_,_,_,_,_,_,_,_,_,_,_,_,_⟩:=frz13 hb_
                  obtain ⟨z0,z1,z2,z3,z4,z5,z6,z7,z8,z9,z10,z11,z12⟩:=cells13 hb_
                  refine ⟨put_ w' (w.heap.size + 1 + 1) 0 [.int .u8 a0,.int .u8 a1,.int .u32 a2,.int .u32 a3,.slice TU u.length eU,.slice T5 hq.length e5,.bool false,.int .u32 0,.int .u8 0,.int .u8 0,.int .u32 0,.slice none 0 0,.int .u32 a12],?_,?_⟩
                  ·go_simp
                   try rfl
                  ·exact ⟨put_below _ (by omega) _ _ _ hB,by rw [put_size];exact hG,(put_far _ _ (by omega) _ _ _).trans hr,(put_far _ _ (by omega) _ _ _).trans hb,(own13_0_13 rfl hb_).trans (if_pos rfl).symm,(put_far _ _ (by omega) _ _ _).trans hn,(put_far _ _ (by omega) _ _ _).trans hm,(put_far _ _ (by omega) _ _ _).trans hv,(put_far _ _ (by omega) _ _ _).trans hw,On.put flatK_Run _ (fun k hk=>(by omega)) _ _ _ okn,On.put flatK_Entry _ (fun k hk=>(by omega)) _ _ _ ohq,On.put flatK_Run _ (fun k hk=>(by omega)) _ _ _ oof,On.put flatK_Run _ (fun k hk=>(by omega)) _ _ _ oun⟩
                 case ha3_13=>rfl
                 case r3_13 =>
                  refine lex_skip (k:=4) (N:=none) (a':=?a4_13) #[true,true,true,true,true,false,false] rfl rfl (by kernel_rfl) (by rfl) ?h4_13 ?ha4_13 ?r4_13
                  case h4_13 =>
                   rintro s hs_ d w' hd ⟨hB,hG,hr,hb,ho,hn,hm,hv,hw,okn,ohq,oof,oun⟩
                   have hb_:=hn.trans Bn10.out
                   obtain ⟨_,_,_,_,_,_,_,_,_,_,_,_,_⟩:=frz13 hb_
                   obtain ⟨z0,z1,z2,z3,z4,z5,z6,z7,z8,z9,z10,z11⟩:=cells12 hb_
                   refine ⟨put_ w' (w.heap.size + 1 + 1 + 1) 0 [.int .i64 0,.int .u8 0,.int .u8 0,.int .u32 0,.int .u8 0,.int .u8 0,.slice none 0 0,.int .u32 0,.slice none 0 0,.int .u8 0,.bool false,.slice none 0 0],?_,?_⟩
                   ·go_simp
                    try rfl
                   ·exact ⟨put_below _ (by omega) _ _ _ hB,by rw [put_size];exact hG,(put_far _ _ (by omega) _ _ _).trans hr,(put_far _ _ (by omega) _ _ _).trans hb,(put_far _ _ (by omega) _ _ _).trans ho,(own12_0_12 rfl hb_).trans Bn10.out.symm,(put_far _ _ (by omega) _ _ _).trans hm,(put_far _ _ (by omega) _ _ _).trans hv,(put_far _ _ (by omega) _ _ _).trans hw,On.put flatK_Run _ (fun k hk=>(by omega)) _ _ _ okn,On.put flatK_Entry _ (fun k hk=>(by omega)) _ _ _ ohq,On.put flatK_Run _ (fun k hk=>(by omega)) _ _ _ oof,On.put flatK_Run _ (fun k hk=>(by omega)) _ _ _ oun⟩
                  case ha4_13=>rfl
                  case r4_13 =>
                   refine lex_skip (k:=5) (N:=none) (a':=?a5_13) #[true,true,true,true,true,true,false] rfl rfl (by kernel_rfl) (by rfl) ?h5_13 ?ha5_13 ?r5_13
                   case h5_13 =>
                    rintro s hs_ d w' hd ⟨hB,hG,hr,hb,ho,hn,hm,hv,hw,okn,ohq,oof,oun⟩
                    have hb_:=hm.trans Bm10.out
                    have f0:=blk_frozen hb_ 0
                    have z0:=(blk_cell hb_ 0).trans (show _ = some (.bool false) from rfl)
                    refine ⟨put_ w' (w.heap.size + 1 + 1 + 1 + 1) 0 [.bool false],?_,?_⟩
                    ·go_simp
                     try rfl
                    ·exact ⟨put_below _ (by omega) _ _ _ hB,by rw [put_size];exact hG,(put_far _ _ (by omega) _ _ _).trans hr,(put_far _ _ (by omega) _ _ _).trans hb,(put_far _ _ (by omega) _ _ _).trans ho,(put_far _ _ (by omega) _ _ _).trans hn,(own1_0_1 rfl hb_).trans Bm10.out.symm,(put_far _ _ (by omega) _ _ _).trans hv,(put_far _ _ (by omega) _ _ _).trans hw,On.put flatK_Run _ (fun k hk=>(by omega)) _ _ _ okn,On.put flatK_Entry _ (fun k hk=>(by omega)) _ _ _ ohq,On.put flatK_Run _ (fun k hk=>(by omega)) _ _ _ oof,On.put flatK_Run _ (fun k hk=>(by omega)) _ _ _ oun⟩
                   case ha5_13=>rfl
                   case r5_13 =>
                    refine lex_skip (k:=6) (N:=none) (a':=?a6_13) #[true,true,true,true,true,true,true] rfl rfl (by kernel_rfl) (by rfl) ?h6_13 ?ha6_13 ?r6_13
                    case h6_13 =>
                     rintro s hs_ d w' hd ⟨hB,hG,hr,hb,ho,hn,hm,hv,hw,okn,ohq,oof,oun⟩
                     have hb_:=hv.trans Bv10.out
                     have f0:=blk_frozen hb_ 0
                     have z0:=(blk_cell hb_ 0).trans (show _ = some (.nilIface) from rfl)
                     refine ⟨put_ w' (w.heap.size + 1 + 1 + 1 + 1 + 1) 0 [.nilIface],?_,?_⟩
                     ·go_simp
                      try rfl
                     ·exact ⟨put_below _ (by omega) _ _ _ hB,by rw [put_size];exact hG,(put_far _ _ (by omega) _ _ _).trans hr,(put_far _ _ (by omega) _ _ _).trans hb,(put_far _ _ (by omega) _ _ _).trans ho,(put_far _ _ (by omega) _ _ _).trans hn,(put_far _ _ (by omega) _ _ _).trans hm,(own1_0_1 rfl hb_).trans Bv10.out.symm,(put_far _ _ (by omega) _ _ _).trans hw,On.put flatK_Run _ (fun k hk=>(by omega)) _ _ _ okn,On.put flatK_Entry _ (fun k hk=>(by omega)) _ _ _ ohq,On.put flatK_Run _ (fun k hk=>(by omega)) _ _ _ oof,On.put flatK_Run _ (fun k hk=>(by omega)) _ _ _ oun⟩
                    case ha6_13=>rfl
                    case r6_13 =>
                     refine lex_done (by kernel_rfl) ?_
                     rintro w11 ⟨_,hB,hG,hr,hb,ho,hn,hm,hv,hw,okn,ohq,oof,oun⟩
                     have Br11:=Aside0.mk (hr.trans Br10.out)
                     have Bb11:=Aside0.mk (hb.trans Bb10.out)
                     have Bo11:=Aside0.mk (ho.trans (if_pos rfl))
                     have Bn11:=Aside0.mk (hn.trans Bn10.out)
                     have Bm11:=Aside0.mk (hm.trans Bm10.out)
                     have Bv11:=Aside0.mk (hv.trans Bv10.out)
                     have Bw11:=Aside0.mk (hw.trans Bw10.out)
                     have HB11:=Aside0.mk hB
                     have HG11:=Aside0.mk hG
                     have Okn11:=Aside0.mk okn
                     have Ohq11:=Aside0.mk ohq
                     have Oof11:=Aside0.mk oof
                     have Oun11:=Aside0.mk oun
                     clear hB hG hr hb ho hn hm hv hw okn ohq oof oun HB10 HG10 Br10 Bb10 Bo10 Bn10 Bm10 Bv10 Bw10 Okn10 Ohq10 Oof10 Oun10
                     go_wp2_with fail
                     refine leaves_cons (f:=34) (args:=#[.pointer (some ⟨w.heap.size + 1 + 1,0,none⟩),.pointer (some ⟨w.heap.size + 1 + 1 + 1,0,none⟩),.pointer (some ⟨w.heap.size + 1 + 1 + 1 + 1,0,none⟩),.pointer (some ⟨w.heap.size + 1 + 1 + 1 + 1 + 1,0,none⟩)]) (by simp) (by simp [go_sem]) ?_
                     refine (catch_none _ _ _ _ _).mono ?_
                     rintro e_ u_ w_ ⟨rfl,rfl,rfl⟩
                     have eh:=EH.out
                     subst eh
                     exact leaves_nil (acc_results rfl _ _ _ _ _ _ _ _ _ _ rfl rfl rfl rfl Bo11.out Bn11.out Bm11.out Bv11.out rfl rfl) ⟨TU,T5,eU,e5,rfl,Oun11.out.mono (fun _ h=>h.1),Ohq11.out.mono (fun _ h=>h.1),HB11.out⟩
end Go.Proofs.YtiminjibcafkaaaGreatDoor.X
