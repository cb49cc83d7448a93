/- Texts that this claim's law comes to, joined by wip/slim.py: Xawake07, Xtbright. -/
import Derived.Test.YtiminjibcafkaaaGreatDoorTBXhreplicaRight
import Derived.Test.YtiminjibcafkaaaGreatDoorTBX12
import Derived.Test.YtiminjibcafkaaaGreatDoorTBX10
import Derived.Test.YtiminjibcafkaaaGreatDoorTBJ5
import Derived.Test.YtiminjibcafkaaaGreatDoorTBXbegin
import Derived.Test.YtiminjibcafkaaaGreatDoorTBXaccept1
import Derived.Test.YtiminjibcafkaaaGreatDoorTBXacczdone
import Derived.Test.YtiminjibcafkaaaGreatDoorTBJ10
import Derived.Test.YtiminjibcafkaaaGreatDoorTBXhtidingsref05Right
import Derived.Test.YtiminjibcafkaaaGreatDoorTBJ4
import Derived.Test.YtiminjibcafkaaaGreatDoorTBJ20
import Derived.Test.YtiminjibcafkaaaGreatDoorTBXrefbegin
import Derived.Test.YtiminjibcafkaaaGreatDoorTBJ29
import Derived.Test.YtiminjibcafkaaaGreatDoorTBJ7
section
/- tidingslaw07.awake returns true. -/
namespace Go.Proofs.YtiminjibcafkaaaGreatDoor.X
open Go.RowKit Go.Proofs.YtiminjibcafkaaaGreatDoorW.PrintWords Go.Proofs.YtiminjibcafkaaaGreatDoorW.PrintLast Go.Proofs.YtiminjibcafkaaaGreatDoorW.PrintMore
set_option linter.unusedVariables false
set_option linter.unusedSimpArgs false
theorem at0_Run {w : World} {A : Option Addr} {n : Nat} {x : S67} (h : Kd.C k67 w A n [x]) (h1 : 0 < n) : ∃ ad,A = some ad ∧ w.cell? ad = some (.int .u8 x.f0) ∧ w.cell? ⟨ad.block,ad.off + 1,none⟩ = some (.int .u32 x.f1) ∧ w.cell? ⟨ad.block,ad.off + 2,none⟩ = some (.int .u32 x.f2):=by
 obtain ⟨ad,e,p0,p1,p2⟩:=at_T67 h 0 (by decide) (by omega)
 exact ⟨ad,e,p0,p1,p2⟩
theorem one_Run {w : World} {g : Nat} {t : TypeId} (x : S67) (h : w.heap[g]? = some (.cells #[.int .u8 x.f0,.int .u32 x.f1,.int .u32 x.f2] t (0,0))) : Kd.C k67 w (some ⟨g,0,none⟩) 1 [x]:=by
 refine ⟨rfl,by decide,fun _=>⟨_,rfl,fun j p hj=>?_⟩⟩
 match j,hj with
 | 0,hj =>
  obtain rfl : x = p:=Option.some.inj hj
  refine ⟨_,rfl,k67_mk w x,fun i u hi=>?_⟩
  match i,hi with
  | 0,hi=>exact (blk_cell h 0).trans hi
  | 1,hi=>exact (blk_cell h 1).trans hi
  | 2,hi=>exact (blk_cell h 2).trans hi
theorem one_Entry {w : World} {g : Nat} {t : TypeId} (x : S62) (h : w.heap[g]? = some (.cells #[.int .u8 x.f0,.int .u8 x.f1.f0,.int .u32 x.f1.f1,.int .u32 x.f1.f2,.int .i64 x.f2,.int .u8 x.f3,.int .u32 x.f4] t (0,0))) : Kd.C k62 w (some ⟨g,0,none⟩) 1 [x]:=by
 refine ⟨rfl,by decide,fun _=>⟨_,rfl,fun j p hj=>?_⟩⟩
 match j,hj with
 | 0,hj =>
  obtain rfl : x = p:=Option.some.inj hj
  refine ⟨_,rfl,k62_mk w x,fun i u hi=>?_⟩
  match i,hi with
  | 0,hi=>exact (blk_cell h 0).trans hi
  | 1,hi=>exact (blk_cell h 1).trans hi
  | 2,hi=>exact (blk_cell h 2).trans hi
  | 3,hi=>exact (blk_cell h 3).trans hi
  | 4,hi=>exact (blk_cell h 4).trans hi
  | 5,hi=>exact (blk_cell h 5).trans hi
  | 6,hi=>exact (blk_cell h 6).trans hi
set_option maxRecDepth 100000 in
set_option maxHeartbeats 8000000 in
theorem awake07_calls (w : World) (hg : GT w) : Calls Tryz.prog 6 #[] w fun e w'=>e = .returned (.bool true) ∧ Below w.heap.size w w':=by
 have huR:=Tryz.underlying28
 have huN:=Tryz.underlying30
 have huS:=Tryz.underlying26
 have huE:=Tryz.underlying62
 have hu35:=Tryz.underlying35
 have hu4:=Tryz.underlying4
 have huc:=Tryz.underlying70
 have eN:=errW_none
 have eS:=errW_some
 go_enter Tryz.func6,Tryz.ntmps6
 go_wp2_with fail
 refine (Begin_ok 20 2 255 0 0 [] [] false 0 0 0 0 [] 0 none none none 0 0 0 1 w (On.nil (S:=fun _=>True)).row (Nat.le_refl _) (On.nil (S:=fun _=>True)).row (Nat.le_refl _) (On.nil (S:=fun _=>True)).row (Nat.le_refl _) (fun _=>True) (fun _ _=>trivial) (Nat.zero_le _) (by kernel_rfl) (by decide) (by decide) (by decide)).mono ?_
 rintro ev w1 ⟨T,c,T1,c1,T2,c2,rfl,o1,o2,o3,hx⟩
 have HB1:=Aside0.mk hx
 clear o1 o2 o3 hx
 go_wp2_with fail
 generalize hW : World.alloc (World.alloc (World.alloc (World.alloc (World.alloc (World.alloc w1 _) _) _) _) _) _ = w2
 have Ba2:=Aside0.mk (al6_0 hW)
 have Bp2:=Aside0.mk (al6_1 hW)
 have Bx2:=Aside0.mk (al6_2 hW)
 have Bxs2:=Aside0.mk (al6_3 hW)
 have Bus2:=Aside0.mk (al6_4 hW)
 have Bb2:=Aside0.mk (al6_5 hW)
 have HB2:=Aside0.mk (below_step HB1.out (al6B hW))
 clear hW HB1 
 have hst : ∀ i,i < 1 → TakeOK 60 255 ((fun i=>if i = 0 then (([] : List S67),([] : List S62)) else ([⟨1,2,2⟩],[⟨3,⟨1,2,1⟩,1,1,9⟩])) i).1 ((fun i=>if i = 0 then (([] : List S67),([] : List S62)) else ([⟨1,2,2⟩],[⟨3,⟨1,2,1⟩,1,1,9⟩])) i).2 (([⟨3,⟨1,2,1⟩,1,1,9⟩] : List S62).getD i z62) ((fun i=>if i = 0 then (([] : List S67),([] : List S62)) else ([⟨1,2,2⟩],[⟨3,⟨1,2,1⟩,1,1,9⟩])) (i + 1)).1 ((fun i=>if i = 0 then (([] : List S67),([] : List S62)) else ([⟨1,2,2⟩],[⟨3,⟨1,2,1⟩,1,1,9⟩])) (i + 1)).2:=by
  intro i hi
  obtain rfl : i = 0:=by omega
  exact TakeOK.inB [⟨3,⟨1,2,1⟩,1,1,9⟩] [⟨1,2,2⟩] (by kernel_rfl) (by kernel_rfl) (by decide) (by kernel_rfl)
 refine (Accept_done_z 60 2 255 0 0 [] [] true 1 1 0 0 [] 1 none none none 0 0 0 2 1 2 1 0 0 [] 0 [⟨3,⟨1,2,1⟩,1,1,9⟩] 4 [⟨1,1,2⟩] none (some ⟨w1.heap.size + 1 + 1 + 1,0,none⟩) (some ⟨w1.heap.size + 1 + 1 + 1 + 1,0,none⟩) 0 1 1 w2 (fun _=>True) On.nil On.nil On.nil On.nil (⟨Nat.le_refl _,one_Entry ⟨3,⟨1,2,1⟩,1,1,9⟩ Bxs2.out,fun _ _ _=>trivial⟩ : On k62 w2 (fun _=>True) (some ⟨w1.heap.size + 1 + 1 + 1,0,none⟩) 1 [⟨3,⟨1,2,1⟩,1,1,9⟩]) (⟨Nat.le_refl _,one_Run ⟨1,1,2⟩ Bus2.out,fun _ _ _=>trivial⟩ : On k67 w2 (fun _=>True) (some ⟨w1.heap.size + 1 + 1 + 1 + 1,0,none⟩) 1 [⟨1,1,2⟩]) (by kernel_rfl) (by kernel_rfl) (by kernel_rfl) (by kernel_rfl) (by kernel_rfl) (fun _ _=>trivial) (fun i=>if i = 0 then (([] : List S67),([] : List S62)) else ([⟨1,2,2⟩],[⟨3,⟨1,2,1⟩,1,1,9⟩])) rfl hst rfl (by decide) [⟨1,1,2⟩] (by kernel_rfl)).mono ?_
 clear hst
 rintro ev w3 ⟨TU,T5,eU,e5,rfl,qu,q5,hx⟩
 have Ba3:=Aside0.mk (blk_below Ba2.out hx)
 have Bp3:=Aside0.mk (blk_below Bp2.out hx)
 have Bx3:=Aside0.mk (blk_below Bx2.out hx)
 have Bxs3:=Aside0.mk (blk_below Bxs2.out hx)
 have Bus3:=Aside0.mk (blk_below Bus2.out hx)
 have Bb3:=Aside0.mk (blk_below Bb2.out hx)
 have HB3:=Aside0.mk (below_step HB2.out hx)
 have Oku3:=Aside0.mk qu
 have Ohe3:=Aside0.mk q5
 clear hx qu q5 HB2 Ba2 Bp2 Bx2 Bxs2 Bus2 Bb2
 obtain ⟨b4q_0,b4q_1,b4q_2,b4q_3,b4q_4,b4q_5,b4q_6,b4q_7,b4q_8,b4q_9,b4q_10,b4q_11⟩:=cells12 (blk_alloc (blk_alloc (Bb3.out) (.cells #[.int .u8 2,.int .u8 255,.int .u32 0,.int .u32 0,.slice TU 1 eU,.slice T5 1 e5,.bool false,.int .u32 0,.int .u8 0,.int .u8 0,.int .u32 0,.slice none 0 0,.int .u32 1] 28)) (.cells #[.int .i64 0,.int .u8 0,.int .u8 0,.int .u32 0,.int .u8 0,.int .u8 0,.slice none 0 0,.int .u32 0,.slice none 0 0,.int .u8 0,.bool false,.slice none 0 0] 30))
 obtain ⟨p4q_0,p4q_1,p4q_2,p4q_3,p4q_4,p4q_5,p4q_6,p4q_7,p4q_8,p4q_9,p4q_10,p4q_11⟩:=cells12 (blk_alloc (blk_alloc (Bp3.out) (.cells #[.int .u8 2,.int .u8 255,.int .u32 0,.int .u32 0,.slice TU 1 eU,.slice T5 1 e5,.bool false,.int .u32 0,.int .u8 0,.int .u8 0,.int .u32 0,.slice none 0 0,.int .u32 1] 28)) (.cells #[.int .i64 0,.int .u8 0,.int .u8 0,.int .u32 0,.int .u8 0,.int .u8 0,.slice none 0 0,.int .u32 0,.slice none 0 0,.int .u8 0,.bool false,.slice none 0 0] 30))
 go_wp2_with fail
 clear b4q_0 b4q_1 b4q_2 b4q_3 b4q_4 b4q_5 b4q_6 b4q_7 b4q_8 b4q_9 b4q_10 b4q_11 p4q_0 p4q_1 p4q_2 p4q_3 p4q_4 p4q_5 p4q_6 p4q_7 p4q_8 p4q_9 p4q_10 p4q_11
 generalize hW : World.alloc (World.alloc w3 _) _ = w4
 have Ba4:=Aside0.mk (blk_below Ba3.out (al2B hW))
 have Bp4:=Aside0.mk (blk_below Bp3.out (al2B hW))
 have Bx4:=Aside0.mk (blk_below Bx3.out (al2B hW))
 have Bxs4:=Aside0.mk (blk_below Bxs3.out (al2B hW))
 have Bus4:=Aside0.mk (blk_below Bus3.out (al2B hW))
 have Bb4:=Aside0.mk (blk_below Bb3.out (al2B hW))
 have Bs4:=Aside0.mk (al2_0 hW)
 have Bq4:=Aside0.mk (al2_1 hW)
 have HB4:=Aside0.mk (below_step HB3.out (al2B hW))
 have Oku4:=Aside0.mk (Oku3.out.below (al2B hW))
 have Ohe4:=Aside0.mk (Ohe3.out.below (al2B hW))
 clear hW HB3 Ba3 Bp3 Bx3 Bxs3 Bus3 Bb3 Oku3 Ohe3
 refine (Accept_stale 60 2 255 0 0 [⟨1,1,2⟩] [⟨3,⟨1,2,1⟩,1,1,9⟩] false 0 0 0 0 [] 1 TU T5 none eU e5 0 2 1 2 1 0 0 [] 0 [⟨3,⟨1,2,1⟩,1,1,9⟩] 4 true [⟨1,1,2⟩] none (some ⟨w1.heap.size + 1 + 1 + 1,0,none⟩) (some ⟨w1.heap.size + 1 + 1 + 1 + 1,0,none⟩) 0 1 1 w4 (fun _=>True) Oku4.out Ohe4.out On.nil On.nil (⟨Nat.le_refl _,one_Entry ⟨3,⟨1,2,1⟩,1,1,9⟩ Bxs4.out,fun _ _ _=>trivial⟩ : On k62 w4 (fun _=>True) (some ⟨w1.heap.size + 1 + 1 + 1,0,none⟩) 1 [⟨3,⟨1,2,1⟩,1,1,9⟩]) (⟨Nat.le_refl _,one_Run ⟨1,1,2⟩ Bus4.out,fun _ _ _=>trivial⟩ : On k67 w4 (fun _=>True) (some ⟨w1.heap.size + 1 + 1 + 1 + 1,0,none⟩) 1 [⟨1,1,2⟩]) (by kernel_rfl) (by kernel_rfl) (by kernel_rfl)).mono ?_
 rintro ev w5 ⟨rfl,hx⟩
 have Ba5:=Aside0.mk (blk_below Ba4.out hx)
 have Bp5:=Aside0.mk (blk_below Bp4.out hx)
 have Bx5:=Aside0.mk (blk_below Bx4.out hx)
 have Bxs5:=Aside0.mk (blk_below Bxs4.out hx)
 have Bus5:=Aside0.mk (blk_below Bus4.out hx)
 have Bb5:=Aside0.mk (blk_below Bb4.out hx)
 have Bs5:=Aside0.mk (blk_below Bs4.out hx)
 have Bq5:=Aside0.mk (blk_below Bq4.out hx)
 have HB5:=Aside0.mk (below_step HB4.out hx)
 have Oku5:=Aside0.mk (Oku4.out.below hx)
 have Ohe5:=Aside0.mk (Ohe4.out.below hx)
 clear hx HB4 Ba4 Bp4 Bx4 Bxs4 Bus4 Bb4 Bs4 Bq4 Oku4 Ohe4
 obtain ⟨s6q_0,s6q_1,s6q_2,s6q_3,s6q_4,s6q_5,s6q_6,s6q_7,s6q_8,s6q_9,s6q_10,s6q_11,s6q_12⟩:=cells13 (blk_alloc (blk_alloc (Bs5.out) (.cells #[.int .u8 0,.int .u8 0,.int .u32 0,.int .u32 0,.slice none 0 0,.slice none 0 0,.bool false,.int .u32 0,.int .u8 0,.int .u8 0,.int .u32 0,.slice none 0 0,.int .u32 0] 28)) (.cells #[.int .i64 0,.int .u8 0,.int .u8 0,.int .u32 0,.int .u8 0,.int .u8 0,.slice none 0 0,.int .u32 0,.slice none 0 0,.int .u8 0,.bool false,.slice none 0 0] 30))
 go_wp2_with fail
 clear s6q_0 s6q_1 s6q_2 s6q_3 s6q_4 s6q_5 s6q_6 s6q_7 s6q_8 s6q_9 s6q_10 s6q_11 s6q_12
 generalize hW : World.alloc (World.alloc w5 _) _ = w6
 have Ba6:=Aside0.mk (blk_below Ba5.out (al2B hW))
 have Bp6:=Aside0.mk (blk_below Bp5.out (al2B hW))
 have Bx6:=Aside0.mk (blk_below Bx5.out (al2B hW))
 have Bxs6:=Aside0.mk (blk_below Bxs5.out (al2B hW))
 have Bus6:=Aside0.mk (blk_below Bus5.out (al2B hW))
 have Bb6:=Aside0.mk (blk_below Bb5.out (al2B hW))
 have Bs6:=Aside0.mk (blk_below Bs5.out (al2B hW))
 have Bq6:=Aside0.mk (blk_below Bq5.out (al2B hW))
 have Bs26:=Aside0.mk (al2_0 hW)
 have Bq26:=Aside0.mk (al2_1 hW)
 have HB6:=Aside0.mk (below_step HB5.out (al2B hW))
 have Oku6:=Aside0.mk (Oku5.out.below (al2B hW))
 have Ohe6:=Aside0.mk (Ohe5.out.below (al2B hW))
 clear hW HB5 Ba5 Bp5 Bx5 Bxs5 Bus5 Bb5 Bs5 Bq5 Oku5 Ohe5
 refine (replica_Get.calls 2 255 0 0 _ _ [⟨1,1,2⟩] _ _ [⟨3,⟨1,2,1⟩,1,1,9⟩] false 0 0 0 0 _ _ [] 1 3 9 none _ Oku6.out.row Oku6.out.len Ohe6.out.row Ohe6.out.len (On.nil (S:=fun _=>True)).row (Nat.le_refl _) (by kernel_rfl)).mono ?_
 rintro ev w7 ⟨rfl,hx⟩
 have Ba7:=Aside0.mk (blk_below Ba6.out hx)
 have Bp7:=Aside0.mk (blk_below Bp6.out hx)
 have Bx7:=Aside0.mk (blk_below Bx6.out hx)
 have Bxs7:=Aside0.mk (blk_below Bxs6.out hx)
 have Bus7:=Aside0.mk (blk_below Bus6.out hx)
 have Bb7:=Aside0.mk (blk_below Bb6.out hx)
 have Bs7:=Aside0.mk (blk_below Bs6.out hx)
 have Bq7:=Aside0.mk (blk_below Bq6.out hx)
 have Bs27:=Aside0.mk (blk_below Bs26.out hx)
 have Bq27:=Aside0.mk (blk_below Bq26.out hx)
 have HB7:=Aside0.mk (below_step HB6.out hx)
 have Oku7:=Aside0.mk (Oku6.out.below hx)
 have Ohe7:=Aside0.mk (Ohe6.out.below hx)
 clear hx HB6 Ba6 Bp6 Bx6 Bxs6 Bus6 Bb6 Bs6 Bq6 Bs26 Bq26 Oku6 Ohe6
 obtain ⟨ad,hA,y0,y1,y2⟩:=at0_Run Oku7.out.row (by decide)
 have y2a:=y2.trans (show some (Value.int .u32 _) = some (.int .u32 2) from rfl)
 clear y0 y1 y2
 have HLE:=Aside0.mk Oku7.out.len
 have Gt:=Aside0.mk (hg.below HB7.out)
 have hle : (1 : Int) ≤ (eU : Int):=by have:=HLE.out;simp at this;omega
 obtain ⟨p_0,p_1,p_2,p_3,p_4,p_5,p_6,p_7,p_8,p_9,p_10,p_11⟩:=cells12 Bp7.out
 obtain ⟨s_0,s_1,s_2,s_3,s_4,s_5,s_6,s_7,s_8,s_9,s_10,s_11,s_12⟩:=cells13 Bs7.out
 clear Oku7 Ohe7
 subst hA
 go_wp2_with fail
 refine (Code_calls (some 4) w7 Gt.out).mono ?_
 rintro ev w8 ⟨rfl,hx⟩
 have HB8:=Aside0.mk (below_step HB7.out hx)
 clear hx
 have hcd : codeOf (some 4) = 4:=rfl
 go_wp2_with fail
 go_ret
 exact ⟨rfl,HB8.out⟩
end Go.Proofs.YtiminjibcafkaaaGreatDoor.X
end
section
/- The law TargetBegins, walked. -/
namespace Go.Proofs.YtiminjibcafkaaaGreatDoor.X
open Go.RowKit Go.Proofs.YtiminjibcafkaaaGreatDoorW.PrintWords Go.Proofs.YtiminjibcafkaaaGreatDoorW.PrintLast Go.Proofs.YtiminjibcafkaaaGreatDoorW.PrintMore
set_option linter.unusedVariables false
set_option linter.unusedSimpArgs false
set_option maxRecDepth 100000 in
set_option maxHeartbeats 8000000 in
theorem TB_long (a0 a1 a2 a3 : Int) (l4 : List S67) (l5 : List S62) (a6 : Bool) (a7 a8 a9 a10 : Int) (l11 : List S67) (a12 : Int) (A4 A5 A11 : Option Addr) (c4 c5 c11 : Nat) (b : Int) (w : World) (r4 : Kd.C k67 w A4 l4.length l4) (i4 : l4.length ≤ c4) (r5 : Kd.C k62 w A5 l5.length l5) (i5 : l5.length ≤ c5) (r11 : Kd.C k67 w A11 l11.length l11) (i11 : l11.length ≤ c11) (hg : GT w) (hsh : tidingsref05_Short.f a0 a1 a2 a3 l4 l5 a6 a7 a8 a9 a10 l11 a12 = some false) : Calls Tryz.prog 4 #[.agg #[.int .u8 a0,.int .u8 a1,.int .u32 a2,.int .u32 a3,.slice A4 l4.length c4,.slice A5 l5.length c5,.bool a6,.int .u32 a7,.int .u8 a8,.int .u8 a9,.int .u32 a10,.slice A11 l11.length c11,.int .u32 a12],.int .u8 b] w fun e w'=>e = .returned (.bool true) ∧ Below w.heap.size w w':=by
 have huR:=Tryz.underlying28
 have huN:=Tryz.underlying30
 have huS:=Tryz.underlying26
 have huE:=Tryz.underlying62
 have hu35:=Tryz.underlying35
 have hu4:=Tryz.underlying4
 have huc:=Tryz.underlying70
 have eN:=errW_none
 have eS:=errW_some
 have R4':=Aside0.mk r4
 have I4':=Aside0.mk i4
 have R5':=Aside0.mk r5
 have I5':=Aside0.mk i5
 have R11':=Aside0.mk r11
 have I11':=Aside0.mk i11
 have HG':=Aside0.mk hg
 have HSH':=Aside0.mk hsh
 clear r4 i4 r5 i5 r11 i11 hg hsh
 go_enter Tryz.func4,Tryz.ntmps4
 go_wp2_with fail
 generalize hW : World.alloc w _ = w0
 have Br0:=Aside0.mk (al1_0 hW)
 have HB0:=Aside0.mk (al1B hW)
 clear hW
 have GG:=Aside0.mk (show w.heap.size + 1 ≤ w0.heap.size by have:=blk_lt Br0.out;omega)
 have HG0:=Aside0.mk (Nat.le_refl w0.heap.size)
 obtain ⟨r_0,r_1,r_2,r_3,r_4,r_5,r_6,r_7,r_8,r_9,r_10,r_11,r_12⟩:=cells13 Br0.out
 go_wp2_with fail
 refine (awake07_calls _ (HG'.out.below HB0.out)).mono ?_
 rintro ev w1 ⟨rfl,hx⟩
 have Br1:=Aside0.mk (blk_below Br0.out hx)
 have HB1:=Aside0.mk (below_step HB0.out hx)
 have HG1:=Aside0.mk (Nat.le_trans HG0.out hx.size)
 clear r_0 r_1 r_2 r_3 r_4 r_5 r_6 r_7 r_8 r_9 r_10 r_11 r_12
 clear hx HB0 HG0 Br0
 obtain ⟨r_0,r_1,r_2,r_3,r_4,r_5,r_6,r_7,r_8,r_9,r_10,r_11,r_12⟩:=cells13 Br1.out
 go_wp2_with fail
 refine (tidingsref05_Short.calls a0 a1 a2 a3 _ _ l4 _ _ l5 a6 a7 a8 a9 a10 _ _ l11 a12 false _ (Kd.C_below R4'.out HB1.out) I4'.out (Kd.C_below R5'.out HB1.out) I5'.out (Kd.C_below R11'.out HB1.out) I11'.out HSH'.out).mono ?_
 rintro ev w2 ⟨rfl,hx⟩
 have Br2:=Aside0.mk (blk_below Br1.out hx)
 have HB2:=Aside0.mk (below_step HB1.out hx)
 have HG2:=Aside0.mk (Nat.le_trans HG1.out hx.size)
 clear r_0 r_1 r_2 r_3 r_4 r_5 r_6 r_7 r_8 r_9 r_10 r_11 r_12
 clear hx HB1 HG1 Br1
 go_wp2_with fail
 go_ret
 exact ⟨rfl,HB2.out⟩
set_option maxRecDepth 100000 in
set_option maxHeartbeats 8000000 in
theorem TB_right (a0 a1 a2 a3 : Int) (l4 : List S67) (l5 : List S62) (a6 : Bool) (a7 a8 a9 a10 : Int) (l11 : List S67) (a12 : Int) (A4 A5 A11 : Option Addr) (c4 c5 c11 : Nat) (b : Int) (w : World) (r4 : Kd.C k67 w A4 l4.length l4) (i4 : l4.length ≤ c4) (r5 : Kd.C k62 w A5 l5.length l5) (i5 : l5.length ≤ c5) (r11 : Kd.C k67 w A11 l11.length l11) (i11 : l11.length ≤ c11) (hR : replica_Right.f 100000 a0 a1 a2 a3 l4 l5 a6 a7 a8 a9 a10 l11 a12 = some false) (hQ : tidingsref05_Right.f 100000 a0 a1 a2 a3 l4 l5 a6 a7 a8 a9 a10 l11 a12 = some false) (hsh : tidingsref05_Short.f a0 a1 a2 a3 l4 l5 a6 a7 a8 a9 a10 l11 a12 = some true) (hlen : l4.length ≤ 400000) (hg : GT w) (hl9 : l4.length ≤ 900 ∧ l5.length ≤ 900) (hs1 : ∀ l : List S67,l.length ≤ 900 → tidingsref01_Same.f 100000 l l = some true) (hs2 : ∀ l : List S62,l.length ≤ 900 → tidingsref02_Same.f 100000 l l = some true) : Calls Tryz.prog 4 #[.agg #[.int .u8 a0,.int .u8 a1,.int .u32 a2,.int .u32 a3,.slice A4 l4.length c4,.slice A5 l5.length c5,.bool a6,.int .u32 a7,.int .u8 a8,.int .u8 a9,.int .u32 a10,.slice A11 l11.length c11,.int .u32 a12],.int .u8 b] w fun e w'=>e = .returned (.bool true) ∧ Below w.heap.size w w':=by
 have huR:=Tryz.underlying28
 have huN:=Tryz.underlying30
 have huS:=Tryz.underlying26
 have huE:=Tryz.underlying62
 have hu35:=Tryz.underlying35
 have hu4:=Tryz.underlying4
 have huc:=Tryz.underlying70
 have eN:=errW_none
 have eS:=errW_some
 have R4':=Aside0.mk r4
 have I4':=Aside0.mk i4
 have R5':=Aside0.mk r5
 have I5':=Aside0.mk i5
 have R11':=Aside0.mk r11
 have I11':=Aside0.mk i11
 have HR':=Aside0.mk hR
 have HQ':=Aside0.mk hQ
 have HSH':=Aside0.mk hsh
 have HLEN':=Aside0.mk hlen
 have HG':=Aside0.mk hg
 have HL9':=Aside0.mk hl9
 have HS1':=Aside0.mk hs1
 have HS2':=Aside0.mk hs2
 clear r4 i4 r5 i5 r11 i11 hR hQ hsh hlen hg hl9 hs1 hs2
 go_enter Tryz.func4,Tryz.ntmps4
 go_wp2_with fail
 generalize hW : World.alloc w _ = w0
 have Br0:=Aside0.mk (al1_0 hW)
 have HB0:=Aside0.mk (al1B hW)
 clear hW
 have GG:=Aside0.mk (show w.heap.size + 1 ≤ w0.heap.size by have:=blk_lt Br0.out;omega)
 have HG0:=Aside0.mk (Nat.le_refl w0.heap.size)
 obtain ⟨r_0,r_1,r_2,r_3,r_4,r_5,r_6,r_7,r_8,r_9,r_10,r_11,r_12⟩:=cells13 Br0.out
 go_wp2_with fail
 refine (awake07_calls _ (HG'.out.below HB0.out)).mono ?_
 rintro ev w1 ⟨rfl,hx⟩
 have Br1:=Aside0.mk (blk_below Br0.out hx)
 have HB1:=Aside0.mk (below_step HB0.out hx)
 have HG1:=Aside0.mk (Nat.le_trans HG0.out hx.size)
 clear r_0 r_1 r_2 r_3 r_4 r_5 r_6 r_7 r_8 r_9 r_10 r_11 r_12
 clear hx HB0 HG0 Br0
 obtain ⟨r_0,r_1,r_2,r_3,r_4,r_5,r_6,r_7,r_8,r_9,r_10,r_11,r_12⟩:=cells13 Br1.out
 go_wp2_with fail
 refine (tidingsref05_Short.calls a0 a1 a2 a3 _ _ l4 _ _ l5 a6 a7 a8 a9 a10 _ _ l11 a12 true _ (Kd.C_below R4'.out HB1.out) I4'.out (Kd.C_below R5'.out HB1.out) I5'.out (Kd.C_below R11'.out HB1.out) I11'.out HSH'.out).mono ?_
 rintro ev w2 ⟨rfl,hx⟩
 have Br2:=Aside0.mk (blk_below Br1.out hx)
 have HB2:=Aside0.mk (below_step HB1.out hx)
 have HG2:=Aside0.mk (Nat.le_trans HG1.out hx.size)
 clear r_0 r_1 r_2 r_3 r_4 r_5 r_6 r_7 r_8 r_9 r_10 r_11 r_12
 clear hx HB1 HG1 Br1
 obtain ⟨r_0,r_1,r_2,r_3,r_4,r_5,r_6,r_7,r_8,r_9,r_10,r_11,r_12⟩:=cells13 Br2.out
 go_wp2_with fail
 refine (Begin_right 100000 a0 a1 a2 a3 l4 l5 a6 a7 a8 a9 a10 l11 a12 A4 A5 A11 c4 c5 c11 b _  (Kd.C_below R4'.out HB2.out) I4'.out (Kd.C_below R5'.out HB2.out) I5'.out (Kd.C_below R11'.out HB2.out) I11'.out HR'.out ).mono ?_
 rintro ev w3 ⟨rfl,hx⟩
 have Br3:=Aside0.mk (blk_below Br2.out hx)
 have HB3:=Aside0.mk (below_step HB2.out hx)
 have HG3:=Aside0.mk (Nat.le_trans HG2.out hx.size)
 clear r_0 r_1 r_2 r_3 r_4 r_5 r_6 r_7 r_8 r_9 r_10 r_11 r_12
 clear hx HB2 HG2 Br2
 obtain ⟨r4q_0,r4q_1,r4q_2,r4q_3,r4q_4,r4q_5,r4q_6,r4q_7,r4q_8,r4q_9,r4q_10,r4q_11,r4q_12⟩:=cells13 (blk_alloc (blk_alloc (Br3.out) (.cells #[.int .u8 0,.int .u8 0,.int .u32 0,.int .u32 0,.slice none 0 0,.slice none 0 0,.bool false,.int .u32 0,.int .u8 0,.int .u8 0,.int .u32 0,.slice none 0 0,.int .u32 0] 28)) (.cells #[.int .i64 0,.int .u8 0,.int .u8 0,.int .u32 0,.int .u8 0,.int .u8 0,.slice none 0 0,.int .u32 0,.slice none 0 0,.int .u8 0,.bool false,.slice none 0 0] 30))
 go_wp2_with fail
 clear r4q_0 r4q_1 r4q_2 r4q_3 r4q_4 r4q_5 r4q_6 r4q_7 r4q_8 r4q_9 r4q_10 r4q_11 r4q_12
 generalize hW : World.alloc (World.alloc w3 _) _ = w4
 have Br4:=Aside0.mk (blk_below Br3.out (al2B hW))
 have Ba4:=Aside0.mk (al2_0 hW)
 have Bp4:=Aside0.mk (al2_1 hW)
 have HB4:=Aside0.mk (below_step HB3.out (al2B hW))
 have HG4:=Aside0.mk (Nat.le_trans HG3.out (al2B hW).size)
 clear hW HB3 HG3 Br3
 refine (RBegin_right 100000 a0 a1 a2 a3 l4 l5 a6 a7 a8 a9 a10 l11 a12 A4 A5 A11 c4 c5 c11 b _  (Kd.C_below R4'.out HB4.out) I4'.out (Kd.C_below R5'.out HB4.out) I5'.out (Kd.C_below R11'.out HB4.out) I11'.out HQ'.out ).mono ?_
 rintro ev w5 ⟨rfl,hx⟩
 have Br5:=Aside0.mk (blk_below Br4.out hx)
 have Ba5:=Aside0.mk (blk_below Ba4.out hx)
 have Bp5:=Aside0.mk (blk_below Bp4.out hx)
 have HB5:=Aside0.mk (below_step HB4.out hx)
 have HG5:=Aside0.mk (Nat.le_trans HG4.out hx.size)
 clear hx HB4 HG4 Br4 Ba4 Bp4
 obtain ⟨r6q_0,r6q_1,r6q_2,r6q_3,r6q_4,r6q_5,r6q_6,r6q_7,r6q_8,r6q_9,r6q_10,r6q_11,r6q_12⟩:=cells13 (blk_alloc (blk_alloc (Br5.out) (.cells #[.int .u8 0,.int .u8 0,.int .u32 0,.int .u32 0,.slice none 0 0,.slice none 0 0,.bool false,.int .u32 0,.int .u8 0,.int .u8 0,.int .u32 0,.slice none 0 0,.int .u32 0] 28)) (.cells #[.int .i64 0,.int .u8 0,.int .u8 0,.int .u32 0,.int .u8 0,.int .u8 0,.slice none 0 0,.int .u32 0,.slice none 0 0,.int .u8 0,.bool false,.slice none 0 0] 30))
 go_wp2_with fail
 clear r6q_0 r6q_1 r6q_2 r6q_3 r6q_4 r6q_5 r6q_6 r6q_7 r6q_8 r6q_9 r6q_10 r6q_11 r6q_12
 generalize hW : World.alloc (World.alloc w5 _) _ = w6
 have Br6:=Aside0.mk (blk_below Br5.out (al2B hW))
 have Ba6:=Aside0.mk (blk_below Ba5.out (al2B hW))
 have Bp6:=Aside0.mk (blk_below Bp5.out (al2B hW))
 have Bc6:=Aside0.mk (al2_0 hW)
 have Bd6:=Aside0.mk (al2_1 hW)
 have HB6:=Aside0.mk (below_step HB5.out (al2B hW))
 have HG6:=Aside0.mk (Nat.le_trans HG5.out (al2B hW).size)
 clear hW HB5 HG5 Br5 Ba5 Bp5
 have hcd : codeOf (some 9) = 9:=rfl
 refine (Code_calls (some 9) _ (HG'.out.below HB6.out)).mono ?_
 rintro ev w7 ⟨rfl,hx⟩
 have Br7:=Aside0.mk (blk_below Br6.out hx)
 have Ba7:=Aside0.mk (blk_below Ba6.out hx)
 have Bp7:=Aside0.mk (blk_below Bp6.out hx)
 have Bc7:=Aside0.mk (blk_below Bc6.out hx)
 have Bd7:=Aside0.mk (blk_below Bd6.out hx)
 have HB7:=Aside0.mk (below_step HB6.out hx)
 have HG7:=Aside0.mk (Nat.le_trans HG6.out hx.size)
 clear hx HB6 HG6 Br6 Ba6 Bp6 Bc6 Bd6
 obtain ⟨a_0,a_1,a_2,a_3,a_4,a_5,a_6,a_7,a_8,a_9,a_10,a_11,a_12⟩:=cells13 Ba7.out
 obtain ⟨c_0,c_1,c_2,c_3,c_4,c_5,c_6,c_7,c_8,c_9,c_10,c_11,c_12⟩:=cells13 Bc7.out
 go_wp2_with fail
 refine (same5_walk 100000 0 0 0 0 [] [] false 0 0 0 0 [] 0 none none none none none none 0 0 0 0 0 0 _ (none_C k67 _) (Nat.le_refl _) (none_C k62 _) (Nat.le_refl _) (none_C k67 _) (Nat.le_refl _) (none_C k67 _) (Nat.le_refl _) (none_C k62 _) (Nat.le_refl _) (none_C k67 _) (Nat.le_refl _) (HS1'.out [] (by simp)) (HS2'.out [] (by simp)) (HS1'.out [] (by simp))).mono ?_
 rintro ev w8 ⟨rfl,hx⟩
 have Br8:=Aside0.mk (blk_below Br7.out hx)
 have Ba8:=Aside0.mk (blk_below Ba7.out hx)
 have Bp8:=Aside0.mk (blk_below Bp7.out hx)
 have Bc8:=Aside0.mk (blk_below Bc7.out hx)
 have Bd8:=Aside0.mk (blk_below Bd7.out hx)
 have HB8:=Aside0.mk (below_step HB7.out hx)
 have HG8:=Aside0.mk (Nat.le_trans HG7.out hx.size)
 clear a_0 a_1 a_2 a_3 a_4 a_5 a_6 a_7 a_8 a_9 a_10 a_11 a_12 c_0 c_1 c_2 c_3 c_4 c_5 c_6 c_7 c_8 c_9 c_10 c_11 c_12
 clear hx HB7 HG7 Br7 Ba7 Bp7 Bc7 Bd7
 obtain ⟨p_0,p_1,p_2,p_3,p_4,p_5,p_6,p_7,p_8,p_9,p_10,p_11⟩:=cells12 Bp8.out
 obtain ⟨d_0,d_1,d_2,d_3,d_4,d_5,d_6,d_7,d_8,d_9,d_10,d_11⟩:=cells12 Bd8.out
 go_wp2_with fail
 refine (same4_walk 100000 0 0 0 0 0 0 [] 0 [] 0 false [] none none none none none none 0 0 0 0 0 0 _ (none_C k67 _) (Nat.le_refl _) (none_C k62 _) (Nat.le_refl _) (none_C k67 _) (Nat.le_refl _) (none_C k67 _) (Nat.le_refl _) (none_C k62 _) (Nat.le_refl _) (none_C k67 _) (Nat.le_refl _) (HS1'.out [] (by simp)) (HS2'.out [] (by simp)) (HS1'.out [] (by simp))).mono ?_
 rintro ev w9 ⟨rfl,hx⟩
 have Br9:=Aside0.mk (blk_below Br8.out hx)
 have Ba9:=Aside0.mk (blk_below Ba8.out hx)
 have Bp9:=Aside0.mk (blk_below Bp8.out hx)
 have Bc9:=Aside0.mk (blk_below Bc8.out hx)
 have Bd9:=Aside0.mk (blk_below Bd8.out hx)
 have HB9:=Aside0.mk (below_step HB8.out hx)
 have HG9:=Aside0.mk (Nat.le_trans HG8.out hx.size)
 clear p_0 p_1 p_2 p_3 p_4 p_5 p_6 p_7 p_8 p_9 p_10 p_11 d_0 d_1 d_2 d_3 d_4 d_5 d_6 d_7 d_8 d_9 d_10 d_11
 clear hx HB8 HG8 Br8 Ba8 Bp8 Bc8 Bd8
 obtain ⟨r_0,r_1,r_2,r_3,r_4,r_5,r_6,r_7,r_8,r_9,r_10,r_11,r_12⟩:=cells13 Br9.out
 go_wp2_with fail
 refine (Again_no 100000 a0 a1 a2 a3 l4 l5 a6 a7 a8 a9 a10 l11 a12 A4 A5 A11 c4 c5 c11 _  (Kd.C_below R4'.out HB9.out) I4'.out (Kd.C_below R5'.out HB9.out) I5'.out (Kd.C_below R11'.out HB9.out) I11'.out 9 (show target_on.f 100000 a0 a1 a2 a3 l4 l5 a6 a7 a8 a9 a10 l11 a12 = some (some 9) by unfold target_on.f;rw [HR'.out];rfl)).mono ?_
 rintro ev w10 ⟨Y0,y0,Y1,y1,Y2,y2,rfl,q1,q2,q3,hx⟩
 have Br10:=Aside0.mk (blk_below Br9.out hx)
 have Ba10:=Aside0.mk (blk_below Ba9.out hx)
 have Bp10:=Aside0.mk (blk_below Bp9.out hx)
 have Bc10:=Aside0.mk (blk_below Bc9.out hx)
 have Bd10:=Aside0.mk (blk_below Bd9.out hx)
 have HB10:=Aside0.mk (below_step HB9.out hx)
 have Oq110:=Aside0.mk q1
 clear q1
 have Oq210:=Aside0.mk q2
 clear q2
 have Oq310:=Aside0.mk q3
 clear q3
 have HG10:=Aside0.mk (Nat.le_trans HG9.out hx.size)
 clear r_0 r_1 r_2 r_3 r_4 r_5 r_6 r_7 r_8 r_9 r_10 r_11 r_12
 clear hx HB9 HG9 Br9 Ba9 Bp9 Bc9 Bd9
 obtain ⟨r11q_0,r11q_1,r11q_2,r11q_3,r11q_4,r11q_5,r11q_6,r11q_7,r11q_8,r11q_9,r11q_10,r11q_11,r11q_12⟩:=cells13 (blk_alloc (Br10.out) (.cells #[.int .i64 0,.int .u8 0,.int .u8 0,.int .u32 0,.int .u8 0,.int .u8 0,.slice Y0 0 y0,.int .u32 0,.slice Y1 0 y1,.int .u8 0,.bool false,.slice Y2 0 y2] 30))
 go_wp2_with fail
 clear r11q_0 r11q_1 r11q_2 r11q_3 r11q_4 r11q_5 r11q_6 r11q_7 r11q_8 r11q_9 r11q_10 r11q_11 r11q_12
 generalize hW : World.alloc w10 _ = w11
 have Br11:=Aside0.mk (blk_below Br10.out (al1B hW))
 have Ba11:=Aside0.mk (blk_below Ba10.out (al1B hW))
 have Bp11:=Aside0.mk (blk_below Bp10.out (al1B hW))
 have Bc11:=Aside0.mk (blk_below Bc10.out (al1B hW))
 have Bd11:=Aside0.mk (blk_below Bd10.out (al1B hW))
 have Bn11:=Aside0.mk (al1_0 hW)
 have HB11:=Aside0.mk (below_step HB10.out (al1B hW))
 have HG11:=Aside0.mk (Nat.le_trans HG10.out (al1B hW).size)
 have Oq111:=Aside0.mk (Oq110.out.below (al1B hW))
 have Oq211:=Aside0.mk (Oq210.out.below (al1B hW))
 have Oq311:=Aside0.mk (Oq310.out.below (al1B hW))
 clear hW HB10 HG10 Br10 Ba10 Bp10 Bc10 Bd10 Oq110 Oq210 Oq310
 refine (Quit_no 100000 a0 a1 a2 a3 l4 l5 a6 a7 a8 a9 a10 l11 a12 A4 A5 A11 c4 c5 c11 _  (Kd.C_below R4'.out HB11.out) I4'.out (Kd.C_below R5'.out HB11.out) I5'.out (Kd.C_below R11'.out HB11.out) I11'.out 9 (show target_on.f 100000 a0 a1 a2 a3 l4 l5 a6 a7 a8 a9 a10 l11 a12 = some (some 9) by unfold target_on.f;rw [HR'.out];rfl)).mono ?_
 rintro ev w12 ⟨rfl,hx⟩
 have Br12:=Aside0.mk (blk_below Br11.out hx)
 have Ba12:=Aside0.mk (blk_below Ba11.out hx)
 have Bp12:=Aside0.mk (blk_below Bp11.out hx)
 have Bc12:=Aside0.mk (blk_below Bc11.out hx)
 have Bd12:=Aside0.mk (blk_below Bd11.out hx)
 have Bn12:=Aside0.mk (blk_below Bn11.out hx)
 have HB12:=Aside0.mk (below_step HB11.out hx)
 have Oq112:=Aside0.mk (Oq111.out.below hx)
 have Oq212:=Aside0.mk (Oq211.out.below hx)
 have Oq312:=Aside0.mk (Oq311.out.below hx)
 have HG12:=Aside0.mk (Nat.le_trans HG11.out hx.size)
 clear hx HB11 HG11 Br11 Ba11 Bp11 Bc11 Bd11 Bn11 Oq111 Oq211 Oq311
 obtain ⟨r13q_0,r13q_1,r13q_2,r13q_3,r13q_4,r13q_5,r13q_6,r13q_7,r13q_8,r13q_9,r13q_10,r13q_11,r13q_12⟩:=cells13 (blk_alloc (Br12.out) (.cells #[.int .u8 0,.int .u8 0,.int .u32 0,.int .u32 0,.slice none 0 0,.slice none 0 0,.bool false,.int .u32 0,.int .u8 0,.int .u8 0,.int .u32 0,.slice none 0 0,.int .u32 0] 28))
 go_wp2_with fail
 clear r13q_0 r13q_1 r13q_2 r13q_3 r13q_4 r13q_5 r13q_6 r13q_7 r13q_8 r13q_9 r13q_10 r13q_11 r13q_12
 generalize hW : World.alloc w12 _ = w13
 have Br13:=Aside0.mk (blk_below Br12.out (al1B hW))
 have Ba13:=Aside0.mk (blk_below Ba12.out (al1B hW))
 have Bp13:=Aside0.mk (blk_below Bp12.out (al1B hW))
 have Bc13:=Aside0.mk (blk_below Bc12.out (al1B hW))
 have Bd13:=Aside0.mk (blk_below Bd12.out (al1B hW))
 have Bn13:=Aside0.mk (blk_below Bn12.out (al1B hW))
 have By13:=Aside0.mk (al1_0 hW)
 have HB13:=Aside0.mk (below_step HB12.out (al1B hW))
 have HG13:=Aside0.mk (Nat.le_trans HG12.out (al1B hW).size)
 have Oq113:=Aside0.mk (Oq112.out.below (al1B hW))
 have Oq213:=Aside0.mk (Oq212.out.below (al1B hW))
 have Oq313:=Aside0.mk (Oq312.out.below (al1B hW))
 clear hW HB12 HG12 Br12 Ba12 Bp12 Bc12 Bd12 Bn12 Oq112 Oq212 Oq312
 refine (tidingsref07_On.calls 100000 a0 a1 a2 a3 _ _ l4 _ _ l5 a6 a7 a8 a9 a10 _ _ l11 a12 9 _ (Kd.C_below R4'.out HB13.out) I4'.out (Kd.C_below R5'.out HB13.out) I5'.out (Kd.C_below R11'.out HB13.out) I11'.out (show tidingsref07_On.f 100000 a0 a1 a2 a3 l4 l5 a6 a7 a8 a9 a10 l11 a12 = some 9 by unfold tidingsref07_On.f;rw [HQ'.out];rfl)).mono ?_
 rintro ev w14 ⟨rfl,hx⟩
 have Br14:=Aside0.mk (blk_below Br13.out hx)
 have Ba14:=Aside0.mk (blk_below Ba13.out hx)
 have Bp14:=Aside0.mk (blk_below Bp13.out hx)
 have Bc14:=Aside0.mk (blk_below Bc13.out hx)
 have Bd14:=Aside0.mk (blk_below Bd13.out hx)
 have Bn14:=Aside0.mk (blk_below Bn13.out hx)
 have By14:=Aside0.mk (blk_below By13.out hx)
 have HB14:=Aside0.mk (below_step HB13.out hx)
 have Oq114:=Aside0.mk (Oq113.out.below hx)
 have Oq214:=Aside0.mk (Oq213.out.below hx)
 have Oq314:=Aside0.mk (Oq313.out.below hx)
 have HG14:=Aside0.mk (Nat.le_trans HG13.out hx.size)
 clear hx HB13 HG13 Br13 Ba13 Bp13 Bc13 Bd13 Bn13 By13 Oq113 Oq213 Oq313
 go_wp2_with fail
 refine (Code_calls (some 9) _ (HG'.out.below HB14.out)).mono ?_
 rintro ev w15 ⟨rfl,hx⟩
 have Br15:=Aside0.mk (blk_below Br14.out hx)
 have Ba15:=Aside0.mk (blk_below Ba14.out hx)
 have Bp15:=Aside0.mk (blk_below Bp14.out hx)
 have Bc15:=Aside0.mk (blk_below Bc14.out hx)
 have Bd15:=Aside0.mk (blk_below Bd14.out hx)
 have Bn15:=Aside0.mk (blk_below Bn14.out hx)
 have By15:=Aside0.mk (blk_below By14.out hx)
 have HB15:=Aside0.mk (below_step HB14.out hx)
 have Oq115:=Aside0.mk (Oq114.out.below hx)
 have Oq215:=Aside0.mk (Oq214.out.below hx)
 have Oq315:=Aside0.mk (Oq314.out.below hx)
 have HG15:=Aside0.mk (Nat.le_trans HG14.out hx.size)
 clear hx HB14 HG14 Br14 Ba14 Bp14 Bc14 Bd14 Bn14 By14 Oq114 Oq214 Oq314
 go_wp2_with fail
 refine (Code_calls (some 9) _ (HG'.out.below HB15.out)).mono ?_
 rintro ev w16 ⟨rfl,hx⟩
 have Br16:=Aside0.mk (blk_below Br15.out hx)
 have Ba16:=Aside0.mk (blk_below Ba15.out hx)
 have Bp16:=Aside0.mk (blk_below Bp15.out hx)
 have Bc16:=Aside0.mk (blk_below Bc15.out hx)
 have Bd16:=Aside0.mk (blk_below Bd15.out hx)
 have Bn16:=Aside0.mk (blk_below Bn15.out hx)
 have By16:=Aside0.mk (blk_below By15.out hx)
 have HB16:=Aside0.mk (below_step HB15.out hx)
 have Oq116:=Aside0.mk (Oq115.out.below hx)
 have Oq216:=Aside0.mk (Oq215.out.below hx)
 have Oq316:=Aside0.mk (Oq315.out.below hx)
 have HG16:=Aside0.mk (Nat.le_trans HG15.out hx.size)
 clear hx HB15 HG15 Br15 Ba15 Bp15 Bc15 Bd15 Bn15 By15 Oq115 Oq215 Oq315
 obtain ⟨n_0,n_1,n_2,n_3,n_4,n_5,n_6,n_7,n_8,n_9,n_10,n_11⟩:=cells12 Bn16.out
 obtain ⟨y_0,y_1,y_2,y_3,y_4,y_5,y_6,y_7,y_8,y_9,y_10,y_11,y_12⟩:=cells13 By16.out
 go_wp2_with fail
 refine (same5_walk 100000 0 0 0 0 [] [] false 0 0 0 0 [] 0 none none none none none none 0 0 0 0 0 0 _ (none_C k67 _) (Nat.le_refl _) (none_C k62 _) (Nat.le_refl _) (none_C k67 _) (Nat.le_refl _) (none_C k67 _) (Nat.le_refl _) (none_C k62 _) (Nat.le_refl _) (none_C k67 _) (Nat.le_refl _) (HS1'.out [] (by simp)) (HS2'.out [] (by simp)) (HS1'.out [] (by simp))).mono ?_
 rintro ev w17 ⟨rfl,hx⟩
 have Br17:=Aside0.mk (blk_below Br16.out hx)
 have Ba17:=Aside0.mk (blk_below Ba16.out hx)
 have Bp17:=Aside0.mk (blk_below Bp16.out hx)
 have Bc17:=Aside0.mk (blk_below Bc16.out hx)
 have Bd17:=Aside0.mk (blk_below Bd16.out hx)
 have Bn17:=Aside0.mk (blk_below Bn16.out hx)
 have By17:=Aside0.mk (blk_below By16.out hx)
 have HB17:=Aside0.mk (below_step HB16.out hx)
 have Oq117:=Aside0.mk (Oq116.out.below hx)
 have Oq217:=Aside0.mk (Oq216.out.below hx)
 have Oq317:=Aside0.mk (Oq316.out.below hx)
 have HG17:=Aside0.mk (Nat.le_trans HG16.out hx.size)
 clear n_0 n_1 n_2 n_3 n_4 n_5 n_6 n_7 n_8 n_9 n_10 n_11 y_0 y_1 y_2 y_3 y_4 y_5 y_6 y_7 y_8 y_9 y_10 y_11 y_12
 clear hx HB16 HG16 Br16 Ba16 Bp16 Bc16 Bd16 Bn16 By16 Oq116 Oq216 Oq316
 go_wp2_with fail
 go_ret
 exact ⟨rfl,HB17.out⟩
end Go.Proofs.YtiminjibcafkaaaGreatDoor.X
end
