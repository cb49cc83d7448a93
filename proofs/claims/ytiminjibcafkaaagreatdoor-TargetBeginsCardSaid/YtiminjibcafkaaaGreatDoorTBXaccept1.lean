/- target.Accept: what it refuses. -/
import Derived.Test.YtiminjibcafkaaaGreatDoorTBXhreplicaRight
import Derived.Test.YtiminjibcafkaaaGreatDoorTBX12
import Derived.Test.YtiminjibcafkaaaGreatDoorTBJ8
import Derived.Test.YtiminjibcafkaaaGreatDoorTBXhtargettwins
import Derived.Test.YtiminjibcafkaaaGreatDoorTBXaccept0
namespace Go.Proofs.YtiminjibcafkaaaGreatDoor.X
open Go.RowKit Go.Proofs.YtiminjibcafkaaaGreatDoorW.PrintWords Go.Proofs.YtiminjibcafkaaaGreatDoorW.PrintLast Go.Proofs.YtiminjibcafkaaaGreatDoorW.PrintMore
set_option linter.unusedVariables false
set_option linter.unusedSimpArgs false
set_option maxRecDepth 100000 in
set_option maxHeartbeats 8000000 in
theorem Accept_right (k : Nat) (a0 a1 a2 a3 : Int) (l4 : List S67) (l5 : List S62) (a6 : Bool) (a7 a8 a9 a10 : Int) (l11 : List S67) (a12 : Int) (A4 A5 A11 : Option Addr) (c4 c5 c11 : Nat) (b0 b1 b2 b3 b4 b5 : Int) (m6 : List S67) (b7 : Int) (m8 : List S62) (b9 : Int) (b10 : Bool) (m11 : List S67) (M6 M8 M11 : Option Addr) (d6 d8 d11 : Nat) (w : World) (S : Nat → Prop) (o4 : On k67 w S A4 c4 l4) (o5 : On k62 w S A5 c5 l5) (o11 : On k67 w S A11 c11 l11) (p6 : On k67 w S M6 d6 m6) (p8 : On k62 w S M8 d8 m8) (p11 : On k67 w S M11 d11 m11) (hR : replica_Right.f k a0 a1 a2 a3 l4 l5 a6 a7 a8 a9 a10 l11 a12 = some false) : Calls Tryz.prog 9 #[.agg #[.int .u8 a0,.int .u8 a1,.int .u32 a2,.int .u32 a3,.slice A4 l4.length c4,.slice A5 l5.length c5,.bool a6,.int .u32 a7,.int .u8 a8,.int .u8 a9,.int .u32 a10,.slice A11 l11.length c11,.int .u32 a12],.agg #[.int .i64 b0,.int .u8 b1,.int .u8 b2,.int .u32 b3,.int .u8 b4,.int .u8 b5,.slice M6 m6.length d6,.int .u32 b7,.slice M8 m8.length d8,.int .u8 b9,.bool b10,.slice M11 m11.length d11]] w fun e w'=>e = .returned (.tuple #[.agg #[.int .u8 0,.int .u8 0,.int .u32 0,.int .u32 0,.slice none 0 0,.slice none 0 0,.bool false,.int .u32 0,.int .u8 0,.int .u8 0,.int .u32 0,.slice none 0 0,.int .u32 0],.agg #[.int .i64 0,.int .u8 0,.int .u8 0,.int .u32 0,.int .u8 0,.int .u8 0,.slice none 0 0,.int .u32 0,.slice none 0 0,.int .u8 0,.bool false,.slice none 0 0],.bool false,errW (some 9)]) ∧ Below w.heap.size w w':=by
 have HR':=Aside0.mk hR
 clear hR
 have huR:=Tryz.underlying28
 have huN:=Tryz.underlying30
 have huS:=Tryz.underlying26
 have huE:=Tryz.underlying62
 have hu35:=Tryz.underlying35
 have hu4:=Tryz.underlying4
 have huc:=Tryz.underlying70
 have eN:=errW_none
 have eS:=errW_some
 have hmf : ∀ (fn : Fn) (first cap : Array Value) (w : World),(Instr.makeFunc fn first cap).run Tryz.prog w = .ok (.func fn first cap) w:=fun _ _ _ _=>rfl
 have O4':=Aside0.mk o4
 have O5':=Aside0.mk o5
 have O11':=Aside0.mk o11
 have P6':=Aside0.mk p6
 have P8':=Aside0.mk p8
 have P11':=Aside0.mk p11
 clear o4 o5 o11 p6 p8 p11
 go_enter_defers Tryz.func9,Tryz.ntmps9
 go_wp2_with fail
 generalize hW : World.alloc (World.alloc (World.alloc (World.alloc (World.alloc (World.alloc w _) _) _) _) _) _ = w0
 have Br0:=Aside0.mk (al6_0 hW)
 have Bb0:=Aside0.mk (al6_1 hW)
 have Bo0:=Aside0.mk (al6_2 hW)
 have Bn0:=Aside0.mk (al6_3 hW)
 have Bm0:=Aside0.mk (al6_4 hW)
 have Bv0:=Aside0.mk (al6_5 hW)
 have HB0:=Aside0.mk (al6B hW)
 clear hW
 have GG:=Aside0.mk (show w.heap.size + 6 ≤ w0.heap.size by have:=blk_lt Bv0.out;omega)
 have HG0:=Aside0.mk (Nat.le_refl w0.heap.size)
 obtain ⟨r_0,r_1,r_2,r_3,r_4,r_5,r_6,r_7,r_8,r_9,r_10,r_11,r_12⟩:=cells13 Br0.out
 go_wp2_with fail
 refine (replica_Right.calls k a0 a1 a2 a3 _ _ l4 _ _ l5 a6 a7 a8 a9 a10 _ _ l11 a12 false _ (Kd.C_below O4'.out.row HB0.out) O4'.out.len (Kd.C_below O5'.out.row HB0.out) O5'.out.len (Kd.C_below O11'.out.row HB0.out) O11'.out.len HR'.out).mono ?_
 rintro ev w1 ⟨rfl,hx⟩
 have Br1:=Aside0.mk (blk_below Br0.out hx)
 have Bb1:=Aside0.mk (blk_below Bb0.out hx)
 have Bo1:=Aside0.mk (blk_below Bo0.out hx)
 have Bn1:=Aside0.mk (blk_below Bn0.out hx)
 have Bm1:=Aside0.mk (blk_below Bm0.out hx)
 have Bv1:=Aside0.mk (blk_below Bv0.out hx)
 have HB1:=Aside0.mk (below_step HB0.out hx)
 have HG1:=Aside0.mk (Nat.le_trans HG0.out hx.size)
 clear r_0 r_1 r_2 r_3 r_4 r_5 r_6 r_7 r_8 r_9 r_10 r_11 r_12
 clear hx HB0 HG0 Br0 Bb0 Bo0 Bn0 Bm0 Bv0
 go_wp2_with fail
 refine region_lex (fun (s : Option (Unit)) d w'=>Below w.heap.size w w' ∧ w0.heap.size ≤ w'.heap.size ∧ w'.heap[w.heap.size]? = w1.heap[w.heap.size]? ∧ w'.heap[w.heap.size + 1]? = w1.heap[w.heap.size + 1]? ∧ w'.heap[w.heap.size + 1 + 1]? = w1.heap[w.heap.size + 1 + 1]? ∧ w'.heap[w.heap.size + 1 + 1 + 1]? = w1.heap[w.heap.size + 1 + 1 + 1]? ∧ w'.heap[w.heap.size + 1 + 1 + 1 + 1]? = w1.heap[w.heap.size + 1 + 1 + 1 + 1]? ∧ w'.heap[w.heap.size + 1 + 1 + 1 + 1 + 1]? = (if d 6 = true then some (.cells #[.iface 70 (.int .i64 9)] 35 (0,0)) else w1.heap[w.heap.size + 1 + 1 + 1 + 1 + 1]?)) 7 #[false,false,false,false,false,false,false] (by kernel_rfl) rfl rfl ?_ ?_
 ·exact ⟨pw_below_drewN HB1.out 1,HG1.out,rfl,rfl,rfl,rfl,rfl,rfl⟩
 refine lex_val (k:=0) (N:=some 15) (a':=?a0_8) (.agg #[.int .u8 0,.int .u8 0,.int .u32 0,.int .u32 0,.slice none 0 0,.slice none 0 0,.bool false,.int .u32 0,.int .u8 0,.int .u8 0,.int .u32 0,.slice none 0 0,.int .u32 0]) #[true,false,false,false,false,false,false] rfl rfl (by kernel_rfl) (by rfl) ?h0_8 ?ha0_8 ?r0_8
 case h0_8 =>
  rintro s hs_ d w' hd ⟨hB,hG,hr,hb,ho,hn,hm,hv⟩
  obtain ⟨qo0,qo1,qo2,qo3,qo4,qo5,qo6,qo7,qo8,qo9,qo10,qo11,qo12⟩:=cells13 (ho.trans Bo1.out)
  refine ⟨w',?_,?_⟩
  ·go_simp
   try with_reducible rfl
  ·exact ⟨hB,hG,hr,hb,ho,hn,hm,hv⟩
 case ha0_8 =>
  simp only [Act.put,List.setIfInBounds_toArray,List.set_cons_zero,List.set_cons_succ,i64_w,i32_w]
  rfl
 case r0_8 =>
  refine lex_val (k:=1) (N:=some 16) (a':=?a1_8) (.agg #[.int .i64 0,.int .u8 0,.int .u8 0,.int .u32 0,.int .u8 0,.int .u8 0,.slice none 0 0,.int .u32 0,.slice none 0 0,.int .u8 0,.bool false,.slice none 0 0]) #[true,true,false,false,false,false,false] rfl rfl (by kernel_rfl) (by rfl) ?h1_8 ?ha1_8 ?r1_8
  case h1_8 =>
   rintro s hs_ d w' hd ⟨hB,hG,hr,hb,ho,hn,hm,hv⟩
   obtain ⟨qn0,qn1,qn2,qn3,qn4,qn5,qn6,qn7,qn8,qn9,qn10,qn11⟩:=cells12 (hn.trans Bn1.out)
   refine ⟨w',?_,?_⟩
   ·go_simp
    try with_reducible rfl
   ·exact ⟨hB,hG,hr,hb,ho,hn,hm,hv⟩
  case ha1_8 =>
   simp only [Act.put,List.setIfInBounds_toArray,List.set_cons_zero,List.set_cons_succ,i64_w,i32_w]
   rfl
  case r1_8 =>
   refine lex_val (k:=2) (N:=some 17) (a':=?a2_8) (.iface 70 (.int .i64 9)) #[true,true,true,false,false,false,false] rfl rfl (by kernel_rfl) (by rfl) ?h2_8 ?ha2_8 ?r2_8
   case h2_8 =>
    rintro s hs_ d w' hd ⟨hB,hG,hr,hb,ho,hn,hm,hv⟩
    refine ⟨w',?_,?_⟩
    ·go_simp
     try with_reducible rfl
    ·exact ⟨hB,hG,hr,hb,ho,hn,hm,hv⟩
   case ha2_8 =>
    simp only [Act.put,List.setIfInBounds_toArray,List.set_cons_zero,List.set_cons_succ,i64_w,i32_w]
    rfl
   case r2_8 =>
    refine lex_skip (k:=3) (N:=none) (a':=?a3_8) #[true,true,true,true,false,false,false] rfl rfl (by kernel_rfl) (by rfl) ?h3_8 ?ha3_8 ?r3_8
    case h3_8 =>
     rintro s hs_ d w' hd ⟨hB,hG,hr,hb,ho,hn,hm,hv⟩
     have hb_:=ho.trans Bo1.out
     obtain ⟨_,_,_,_,_,_,_,_,_,_,_,_,_⟩:=frz13 hb_
     obtain ⟨z0,z1,z2,z3,z4,z5,z6,z7,z8,z9,z10,z11,z12⟩:=cells13 hb_
     refine ⟨put_ w' (w.heap.size + 1 + 1) 0 [.int .u8 0,.int .u8 0,.int .u32 0,.int .u32 0,.slice none 0 0,.slice none 0 0,.bool false,.int .u32 0,.int .u8 0,.int .u8 0,.int .u32 0,.slice none 0 0,.int .u32 0],?_,?_⟩
     ·go_simp
      try rfl
     ·exact ⟨put_below _ (by omega) _ _ _ hB,by rw [put_size];exact hG,(put_far _ _ (by omega) _ _ _).trans hr,(put_far _ _ (by omega) _ _ _).trans hb,(own13_0_13 rfl hb_).trans Bo1.out.symm,(put_far _ _ (by omega) _ _ _).trans hn,(put_far _ _ (by omega) _ _ _).trans hm,(put_far _ _ (by omega) _ _ _).trans hv⟩
    case ha3_8=>rfl
    case r3_8 =>
     refine lex_skip (k:=4) (N:=none) (a':=?a4_8) #[true,true,true,true,true,false,false] rfl rfl (by kernel_rfl) (by rfl) ?h4_8 ?ha4_8 ?r4_8
     case h4_8 =>
      rintro s hs_ d w' hd ⟨hB,hG,hr,hb,ho,hn,hm,hv⟩
      have hb_:=hn.trans Bn1.out
      obtain ⟨_,_,_,_,_,_,_,_,_,_,_,_,_⟩:=frz13 hb_
      obtain ⟨z0,z1,z2,z3,z4,z5,z6,z7,z8,z9,z10,z11⟩:=cells12 hb_
      refine ⟨put_ w' (w.heap.size + 1 + 1 + 1) 0 [.int .i64 0,.int .u8 0,.int .u8 0,.int .u32 0,.int .u8 0,.int .u8 0,.slice none 0 0,.int .u32 0,.slice none 0 0,.int .u8 0,.bool false,.slice none 0 0],?_,?_⟩
      ·go_simp
       try rfl
      ·exact ⟨put_below _ (by omega) _ _ _ hB,by rw [put_size];exact hG,(put_far _ _ (by omega) _ _ _).trans hr,(put_far _ _ (by omega) _ _ _).trans hb,(put_far _ _ (by omega) _ _ _).trans ho,(own12_0_12 rfl hb_).trans Bn1.out.symm,(put_far _ _ (by omega) _ _ _).trans hm,(put_far _ _ (by omega) _ _ _).trans hv⟩
     case ha4_8=>rfl
     case r4_8 =>
      refine lex_skip (k:=5) (N:=none) (a':=?a5_8) #[true,true,true,true,true,true,false] rfl rfl (by kernel_rfl) (by rfl) ?h5_8 ?ha5_8 ?r5_8
      case h5_8 =>
       rintro s hs_ d w' hd ⟨hB,hG,hr,hb,ho,hn,hm,hv⟩
       have hb_:=hm.trans Bm1.out
       have f0:=blk_frozen hb_ 0
       have z0:=(blk_cell hb_ 0).trans (show _ = some (.bool false) from rfl)
       refine ⟨put_ w' (w.heap.size + 1 + 1 + 1 + 1) 0 [.bool false],?_,?_⟩
       ·go_simp
        try rfl
       ·exact ⟨put_below _ (by omega) _ _ _ hB,by rw [put_size];exact hG,(put_far _ _ (by omega) _ _ _).trans hr,(put_far _ _ (by omega) _ _ _).trans hb,(put_far _ _ (by omega) _ _ _).trans ho,(put_far _ _ (by omega) _ _ _).trans hn,(own1_0_1 rfl hb_).trans Bm1.out.symm,(put_far _ _ (by omega) _ _ _).trans hv⟩
      case ha5_8=>rfl
      case r5_8 =>
       refine lex_skip (k:=6) (N:=none) (a':=?a6_8) #[true,true,true,true,true,true,true] rfl rfl (by kernel_rfl) (by rfl) ?h6_8 ?ha6_8 ?r6_8
       case h6_8 =>
        rintro s hs_ d w' hd ⟨hB,hG,hr,hb,ho,hn,hm,hv⟩
        have hb_:=(hv.trans (if_neg (by simp [hd]))).trans Bv1.out
        have f0:=blk_frozen hb_ 0
        have z0:=(blk_cell hb_ 0).trans (show _ = some (.nilIface) from rfl)
        refine ⟨put_ w' (w.heap.size + 1 + 1 + 1 + 1 + 1) 0 [.iface 70 (.int .i64 9)],?_,?_⟩
        ·go_simp
         try rfl
        ·exact ⟨put_below _ (by omega) _ _ _ hB,by rw [put_size];exact hG,(put_far _ _ (by omega) _ _ _).trans hr,(put_far _ _ (by omega) _ _ _).trans hb,(put_far _ _ (by omega) _ _ _).trans ho,(put_far _ _ (by omega) _ _ _).trans hn,(put_far _ _ (by omega) _ _ _).trans hm,(own1_0_1 rfl hb_).trans (if_pos rfl).symm⟩
       case ha6_8=>rfl
       case r6_8 =>
        refine lex_done (by kernel_rfl) ?_
        rintro w2 ⟨_,hB,hG,hr,hb,ho,hn,hm,hv⟩
        have Br2:=Aside0.mk (hr.trans Br1.out)
        have Bb2:=Aside0.mk (hb.trans Bb1.out)
        have Bo2:=Aside0.mk (ho.trans Bo1.out)
        have Bn2:=Aside0.mk (hn.trans Bn1.out)
        have Bm2:=Aside0.mk (hm.trans Bm1.out)
        have Bv2:=Aside0.mk (hv.trans (if_pos rfl))
        have HB2:=Aside0.mk hB
        have HG2:=Aside0.mk hG
        clear hB hG hr hb ho hn hm hv HB1 HG1 Br1 Bb1 Bo1 Bn1 Bm1 Bv1
        go_wp2_with fail
        refine ⟨_,acc_results rfl _ _ _ _ _ _ _ _ _ _ rfl rfl rfl rfl Bo2.out Bn2.out Bm2.out Bv2.out rfl rfl,?_⟩
        exact ⟨by first | rfl | rw [eS],HB2.out⟩
set_option maxRecDepth 100000 in
set_option maxHeartbeats 8000000 in
theorem Accept_stale (k : Nat) (a0 a1 a2 a3 : Int) (l4 : List S67) (l5 : List S62) (a6 : Bool) (a7 a8 a9 a10 : Int) (l11 : List S67) (a12 : Int) (A4 A5 A11 : Option Addr) (c4 c5 c11 : Nat) (b0 b1 b2 b3 b4 b5 : Int) (m6 : List S67) (b7 : Int) (m8 : List S62) (b9 : Int) (b10 : Bool) (m11 : List S67) (M6 M8 M11 : Option Addr) (d6 d8 d11 : Nat) (w : World) (S : Nat → Prop) (o4 : On k67 w S A4 c4 l4) (o5 : On k62 w S A5 c5 l5) (o11 : On k67 w S A11 c11 l11) (p6 : On k67 w S M6 d6 m6) (p8 : On k62 w S M8 d8 m8) (p11 : On k67 w S M11 d11 m11) (hR : replica_Right.f k a0 a1 a2 a3 l4 l5 a6 a7 a8 a9 a10 l11 a12 = some true) (hN : note_Right.f k b0 b1 b2 b3 b4 b5 m6 b7 m8 b9 b10 m11 = some true) (hW : target_waited.f a0 a1 a2 a3 l4 l5 a6 a7 a8 a9 a10 l11 a12 b0 b1 b2 b3 b4 b5 m6 b7 m8 b9 b10 m11 = some false) : Calls Tryz.prog 9 #[.agg #[.int .u8 a0,.int .u8 a1,.int .u32 a2,.int .u32 a3,.slice A4 l4.length c4,.slice A5 l5.length c5,.bool a6,.int .u32 a7,.int .u8 a8,.int .u8 a9,.int .u32 a10,.slice A11 l11.length c11,.int .u32 a12],.agg #[.int .i64 b0,.int .u8 b1,.int .u8 b2,.int .u32 b3,.int .u8 b4,.int .u8 b5,.slice M6 m6.length d6,.int .u32 b7,.slice M8 m8.length d8,.int .u8 b9,.bool b10,.slice M11 m11.length d11]] w fun e w'=>e = .returned (.tuple #[.agg #[.int .u8 0,.int .u8 0,.int .u32 0,.int .u32 0,.slice none 0 0,.slice none 0 0,.bool false,.int .u32 0,.int .u8 0,.int .u8 0,.int .u32 0,.slice none 0 0,.int .u32 0],.agg #[.int .i64 0,.int .u8 0,.int .u8 0,.int .u32 0,.int .u8 0,.int .u8 0,.slice none 0 0,.int .u32 0,.slice none 0 0,.int .u8 0,.bool false,.slice none 0 0],.bool false,errW (some 4)]) ∧ Below w.heap.size w w':=by
 have HW':=Aside0.mk hW
 have HN':=Aside0.mk hN
 have HR':=Aside0.mk hR
 clear hR hN hW
 have huR:=Tryz.underlying28
 have huN:=Tryz.underlying30
 have huS:=Tryz.underlying26
 have huE:=Tryz.underlying62
 have hu35:=Tryz.underlying35
 have hu4:=Tryz.underlying4
 have huc:=Tryz.underlying70
 have eN:=errW_none
 have eS:=errW_some
 have hmf : ∀ (fn : Fn) (first cap : Array Value) (w : World),(Instr.makeFunc fn first cap).run Tryz.prog w = .ok (.func fn first cap) w:=fun _ _ _ _=>rfl
 have O4':=Aside0.mk o4
 have O5':=Aside0.mk o5
 have O11':=Aside0.mk o11
 have P6':=Aside0.mk p6
 have P8':=Aside0.mk p8
 have P11':=Aside0.mk p11
 clear o4 o5 o11 p6 p8 p11
 go_enter_defers Tryz.func9,Tryz.ntmps9
 go_wp2_with fail
 generalize hW : World.alloc (World.alloc (World.alloc (World.alloc (World.alloc (World.alloc w _) _) _) _) _) _ = w0
 have Br0:=Aside0.mk (al6_0 hW)
 have Bb0:=Aside0.mk (al6_1 hW)
 have Bo0:=Aside0.mk (al6_2 hW)
 have Bn0:=Aside0.mk (al6_3 hW)
 have Bm0:=Aside0.mk (al6_4 hW)
 have Bv0:=Aside0.mk (al6_5 hW)
 have HB0:=Aside0.mk (al6B hW)
 clear hW
 have GG:=Aside0.mk (show w.heap.size + 6 ≤ w0.heap.size by have:=blk_lt Bv0.out;omega)
 have HG0:=Aside0.mk (Nat.le_refl w0.heap.size)
 obtain ⟨r_0,r_1,r_2,r_3,r_4,r_5,r_6,r_7,r_8,r_9,r_10,r_11,r_12⟩:=cells13 Br0.out
 go_wp2_with fail
 refine (replica_Right.calls k a0 a1 a2 a3 _ _ l4 _ _ l5 a6 a7 a8 a9 a10 _ _ l11 a12 true _ (Kd.C_below O4'.out.row HB0.out) O4'.out.len (Kd.C_below O5'.out.row HB0.out) O5'.out.len (Kd.C_below O11'.out.row HB0.out) O11'.out.len HR'.out).mono ?_
 rintro ev w1 ⟨rfl,hx⟩
 have Br1:=Aside0.mk (blk_below Br0.out hx)
 have Bb1:=Aside0.mk (blk_below Bb0.out hx)
 have Bo1:=Aside0.mk (blk_below Bo0.out hx)
 have Bn1:=Aside0.mk (blk_below Bn0.out hx)
 have Bm1:=Aside0.mk (blk_below Bm0.out hx)
 have Bv1:=Aside0.mk (blk_below Bv0.out hx)
 have HB1:=Aside0.mk (below_step HB0.out hx)
 have HG1:=Aside0.mk (Nat.le_trans HG0.out hx.size)
 clear r_0 r_1 r_2 r_3 r_4 r_5 r_6 r_7 r_8 r_9 r_10 r_11 r_12
 clear hx HB0 HG0 Br0 Bb0 Bo0 Bn0 Bm0 Bv0
 obtain ⟨b_0,b_1,b_2,b_3,b_4,b_5,b_6,b_7,b_8,b_9,b_10,b_11⟩:=cells12 Bb1.out
 go_wp2_with fail
 refine (note_Right.calls k b0 b1 b2 b3 b4 b5 _ _ m6 b7 _ _ m8 b9 b10 _ _ m11 true _ (Kd.C_below P6'.out.row HB1.out) P6'.out.len (Kd.C_below P8'.out.row HB1.out) P8'.out.len (Kd.C_below P11'.out.row HB1.out) P11'.out.len HN'.out).mono ?_
 rintro ev w2 ⟨rfl,hx⟩
 have Br2:=Aside0.mk (blk_below Br1.out hx)
 have Bb2:=Aside0.mk (blk_below Bb1.out hx)
 have Bo2:=Aside0.mk (blk_below Bo1.out hx)
 have Bn2:=Aside0.mk (blk_below Bn1.out hx)
 have Bm2:=Aside0.mk (blk_below Bm1.out hx)
 have Bv2:=Aside0.mk (blk_below Bv1.out hx)
 have HB2:=Aside0.mk (below_step HB1.out hx)
 have HG2:=Aside0.mk (Nat.le_trans HG1.out hx.size)
 clear b_0 b_1 b_2 b_3 b_4 b_5 b_6 b_7 b_8 b_9 b_10 b_11
 clear hx HB1 HG1 Br1 Bb1 Bo1 Bn1 Bm1 Bv1
 obtain ⟨r_0,r_1,r_2,r_3,r_4,r_5,r_6,r_7,r_8,r_9,r_10,r_11,r_12⟩:=cells13 Br2.out
 obtain ⟨b_0,b_1,b_2,b_3,b_4,b_5,b_6,b_7,b_8,b_9,b_10,b_11⟩:=cells12 Bb2.out
 go_wp2_with fail
 refine (target_waited.calls a0 a1 a2 a3 _ _ l4 _ _ l5 a6 a7 a8 a9 a10 _ _ l11 a12 b0 b1 b2 b3 b4 b5 _ _ m6 b7 _ _ m8 b9 b10 _ _ m11 false _ (Kd.C_below O4'.out.row HB2.out) O4'.out.len (Kd.C_below O5'.out.row HB2.out) O5'.out.len (Kd.C_below O11'.out.row HB2.out) O11'.out.len (Kd.C_below P6'.out.row HB2.out) P6'.out.len (Kd.C_below P8'.out.row HB2.out) P8'.out.len (Kd.C_below P11'.out.row HB2.out) P11'.out.len HW'.out).mono ?_
 rintro ev w3 ⟨rfl,hx⟩
 have Br3:=Aside0.mk (blk_below Br2.out hx)
 have Bb3:=Aside0.mk (blk_below Bb2.out hx)
 have Bo3:=Aside0.mk (blk_below Bo2.out hx)
 have Bn3:=Aside0.mk (blk_below Bn2.out hx)
 have Bm3:=Aside0.mk (blk_below Bm2.out hx)
 have Bv3:=Aside0.mk (blk_below Bv2.out hx)
 have HB3:=Aside0.mk (below_step HB2.out hx)
 have HG3:=Aside0.mk (Nat.le_trans HG2.out hx.size)
 clear r_0 r_1 r_2 r_3 r_4 r_5 r_6 r_7 r_8 r_9 r_10 r_11 r_12 b_0 b_1 b_2 b_3 b_4 b_5 b_6 b_7 b_8 b_9 b_10 b_11
 clear hx HB2 HG2 Br2 Bb2 Bo2 Bn2 Bm2 Bv2
 go_wp2_with fail
 refine region_lex (fun (s : Option (Unit)) d w'=>Below w.heap.size w w' ∧ w0.heap.size ≤ w'.heap.size ∧ w'.heap[w.heap.size]? = w3.heap[w.heap.size]? ∧ w'.heap[w.heap.size + 1]? = w3.heap[w.heap.size + 1]? ∧ w'.heap[w.heap.size + 1 + 1]? = w3.heap[w.heap.size + 1 + 1]? ∧ w'.heap[w.heap.size + 1 + 1 + 1]? = w3.heap[w.heap.size + 1 + 1 + 1]? ∧ w'.heap[w.heap.size + 1 + 1 + 1 + 1]? = w3.heap[w.heap.size + 1 + 1 + 1 + 1]? ∧ w'.heap[w.heap.size + 1 + 1 + 1 + 1 + 1]? = (if d 6 = true then some (.cells #[.iface 70 (.int .i64 4)] 35 (0,0)) else w3.heap[w.heap.size + 1 + 1 + 1 + 1 + 1]?)) 7 #[false,false,false,false,false,false,false] (by kernel_rfl) rfl rfl ?_ ?_
 ·exact ⟨pw_below_drewN HB3.out 1,HG3.out,rfl,rfl,rfl,rfl,rfl,rfl⟩
 refine lex_val (k:=0) (N:=some 30) (a':=?a0_10) (.agg #[.int .u8 0,.int .u8 0,.int .u32 0,.int .u32 0,.slice none 0 0,.slice none 0 0,.bool false,.int .u32 0,.int .u8 0,.int .u8 0,.int .u32 0,.slice none 0 0,.int .u32 0]) #[true,false,false,false,false,false,false] rfl rfl (by kernel_rfl) (by rfl) ?h0_10 ?ha0_10 ?r0_10
 case h0_10 =>
  rintro s hs_ d w' hd ⟨hB,hG,hr,hb,ho,hn,hm,hv⟩
  obtain ⟨qo0,qo1,qo2,qo3,qo4,qo5,qo6,qo7,qo8,qo9,qo10,qo11,qo12⟩:=cells13 (ho.trans Bo3.out)
  refine ⟨w',?_,?_⟩
  ·go_simp
   try with_reducible rfl
  ·exact ⟨hB,hG,hr,hb,ho,hn,hm,hv⟩
 case ha0_10 =>
  simp only [Act.put,List.setIfInBounds_toArray,List.set_cons_zero,List.set_cons_succ,i64_w,i32_w]
  rfl
 case r0_10 =>
  refine lex_val (k:=1) (N:=some 31) (a':=?a1_10) (.agg #[.int .i64 0,.int .u8 0,.int .u8 0,.int .u32 0,.int .u8 0,.int .u8 0,.slice none 0 0,.int .u32 0,.slice none 0 0,.int .u8 0,.bool false,.slice none 0 0]) #[true,true,false,false,false,false,false] rfl rfl (by kernel_rfl) (by rfl) ?h1_10 ?ha1_10 ?r1_10
  case h1_10 =>
   rintro s hs_ d w' hd ⟨hB,hG,hr,hb,ho,hn,hm,hv⟩
   obtain ⟨qn0,qn1,qn2,qn3,qn4,qn5,qn6,qn7,qn8,qn9,qn10,qn11⟩:=cells12 (hn.trans Bn3.out)
   refine ⟨w',?_,?_⟩
   ·go_simp
    try with_reducible rfl
   ·exact ⟨hB,hG,hr,hb,ho,hn,hm,hv⟩
  case ha1_10 =>
   simp only [Act.put,List.setIfInBounds_toArray,List.set_cons_zero,List.set_cons_succ,i64_w,i32_w]
   rfl
  case r1_10 =>
   refine lex_val (k:=2) (N:=some 32) (a':=?a2_10) (.iface 70 (.int .i64 4)) #[true,true,true,false,false,false,false] rfl rfl (by kernel_rfl) (by rfl) ?h2_10 ?ha2_10 ?r2_10
   case h2_10 =>
    rintro s hs_ d w' hd ⟨hB,hG,hr,hb,ho,hn,hm,hv⟩
    refine ⟨w',?_,?_⟩
    ·go_simp
     try with_reducible rfl
    ·exact ⟨hB,hG,hr,hb,ho,hn,hm,hv⟩
   case ha2_10 =>
    simp only [Act.put,List.setIfInBounds_toArray,List.set_cons_zero,List.set_cons_succ,i64_w,i32_w]
    rfl
   case r2_10 =>
    refine lex_skip (k:=3) (N:=none) (a':=?a3_10) #[true,true,true,true,false,false,false] rfl rfl (by kernel_rfl) (by rfl) ?h3_10 ?ha3_10 ?r3_10
    case h3_10 =>
     rintro s hs_ d w' hd ⟨hB,hG,hr,hb,ho,hn,hm,hv⟩
     have hb_:=ho.trans Bo3.out
     obtain ⟨_,_,_,_,_,_,_,_,_,_,_,_,_⟩:=frz13 hb_
     obtain ⟨z0,z1,z2,z3,z4,z5,z6,z7,z8,z9,z10,z11,z12⟩:=cells13 hb_
     refine ⟨put_ w' (w.heap.size + 1 + 1) 0 [.int .u8 0,.int .u8 0,.int .u32 0,.int .u32 0,.slice none 0 0,.slice none 0 0,.bool false,.int .u32 0,.int .u8 0,.int .u8 0,.int .u32 0,.slice none 0 0,.int .u32 0],?_,?_⟩
     ·go_simp
      try rfl
     ·exact ⟨put_below _ (by omega) _ _ _ hB,by rw [put_size];exact hG,(put_far _ _ (by omega) _ _ _).trans hr,(put_far _ _ (by omega) _ _ _).trans hb,(own13_0_13 rfl hb_).trans Bo3.out.symm,(put_far _ _ (by omega) _ _ _).trans hn,(put_far _ _ (by omega) _ _ _).trans hm,(put_far _ _ (by omega) _ _ _).trans hv⟩
    case ha3_10=>rfl
    case r3_10 =>
     refine lex_skip (k:=4) (N:=none) (a':=?a4_10) #[true,true,true,true,true,false,false] rfl rfl (by kernel_rfl) (by rfl) ?h4_10 ?ha4_10 ?r4_10
     case h4_10 =>
      rintro s hs_ d w' hd ⟨hB,hG,hr,hb,ho,hn,hm,hv⟩
      have hb_:=hn.trans Bn3.out
      obtain ⟨_,_,_,_,_,_,_,_,_,_,_,_,_⟩:=frz13 hb_
      obtain ⟨z0,z1,z2,z3,z4,z5,z6,z7,z8,z9,z10,z11⟩:=cells12 hb_
      refine ⟨put_ w' (w.heap.size + 1 + 1 + 1) 0 [.int .i64 0,.int .u8 0,.int .u8 0,.int .u32 0,.int .u8 0,.int .u8 0,.slice none 0 0,.int .u32 0,.slice none 0 0,.int .u8 0,.bool false,.slice none 0 0],?_,?_⟩
      ·go_simp
       try rfl
      ·exact ⟨put_below _ (by omega) _ _ _ hB,by rw [put_size];exact hG,(put_far _ _ (by omega) _ _ _).trans hr,(put_far _ _ (by omega) _ _ _).trans hb,(put_far _ _ (by omega) _ _ _).trans ho,(own12_0_12 rfl hb_).trans Bn3.out.symm,(put_far _ _ (by omega) _ _ _).trans hm,(put_far _ _ (by omega) _ _ _).trans hv⟩
     case ha4_10=>rfl
     case r4_10 =>
      refine lex_skip (k:=5) (N:=none) (a':=?a5_10) #[true,true,true,true,true,true,false] rfl rfl (by kernel_rfl) (by rfl) ?h5_10 ?ha5_10 ?r5_10
      case h5_10 =>
       rintro s hs_ d w' hd ⟨hB,hG,hr,hb,ho,hn,hm,hv⟩
       have hb_:=hm.trans Bm3.out
       have f0:=blk_frozen hb_ 0
       have z0:=(blk_cell hb_ 0).trans (show _ = some (.bool false) from rfl)
       refine ⟨put_ w' (w.heap.size + 1 + 1 + 1 + 1) 0 [.bool false],?_,?_⟩
       ·go_simp
        try rfl
       ·exact ⟨put_below _ (by omega) _ _ _ hB,by rw [put_size];exact hG,(put_far _ _ (by omega) _ _ _).trans hr,(put_far _ _ (by omega) _ _ _).trans hb,(put_far _ _ (by omega) _ _ _).trans ho,(put_far _ _ (by omega) _ _ _).trans hn,(own1_0_1 rfl hb_).trans Bm3.out.symm,(put_far _ _ (by omega) _ _ _).trans hv⟩
      case ha5_10=>rfl
      case r5_10 =>
       refine lex_skip (k:=6) (N:=none) (a':=?a6_10) #[true,true,true,true,true,true,true] rfl rfl (by kernel_rfl) (by rfl) ?h6_10 ?ha6_10 ?r6_10
       case h6_10 =>
        rintro s hs_ d w' hd ⟨hB,hG,hr,hb,ho,hn,hm,hv⟩
        have hb_:=(hv.trans (if_neg (by simp [hd]))).trans Bv3.out
        have f0:=blk_frozen hb_ 0
        have z0:=(blk_cell hb_ 0).trans (show _ = some (.nilIface) from rfl)
        refine ⟨put_ w' (w.heap.size + 1 + 1 + 1 + 1 + 1) 0 [.iface 70 (.int .i64 4)],?_,?_⟩
        ·go_simp
         try rfl
        ·exact ⟨put_below _ (by omega) _ _ _ hB,by rw [put_size];exact hG,(put_far _ _ (by omega) _ _ _).trans hr,(put_far _ _ (by omega) _ _ _).trans hb,(put_far _ _ (by omega) _ _ _).trans ho,(put_far _ _ (by omega) _ _ _).trans hn,(put_far _ _ (by omega) _ _ _).trans hm,(own1_0_1 rfl hb_).trans (if_pos rfl).symm⟩
       case ha6_10=>rfl
       case r6_10 =>
        refine lex_done (by kernel_rfl) ?_
        rintro w4 ⟨_,hB,hG,hr,hb,ho,hn,hm,hv⟩
        have Br4:=Aside0.mk (hr.trans Br3.out)
        have Bb4:=Aside0.mk (hb.trans Bb3.out)
        have Bo4:=Aside0.mk (ho.trans Bo3.out)
        have Bn4:=Aside0.mk (hn.trans Bn3.out)
        have Bm4:=Aside0.mk (hm.trans Bm3.out)
        have Bv4:=Aside0.mk (hv.trans (if_pos rfl))
        have HB4:=Aside0.mk hB
        have HG4:=Aside0.mk hG
        clear hB hG hr hb ho hn hm hv HB3 HG3 Br3 Bb3 Bo3 Bn3 Bm3 Bv3
        go_wp2_with fail
        refine ⟨_,acc_results rfl _ _ _ _ _ _ _ _ _ _ rfl rfl rfl rfl Bo4.out Bn4.out Bm4.out Bv4.out rfl rfl,?_⟩
        exact ⟨by first | rfl | rw [eS],HB4.out⟩
end Go.Proofs.YtiminjibcafkaaaGreatDoor.X
