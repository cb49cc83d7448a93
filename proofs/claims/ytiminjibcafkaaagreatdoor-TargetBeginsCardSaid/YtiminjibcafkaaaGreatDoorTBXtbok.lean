/- The law TargetBegins, walked. -/
import Derived.Test.YtiminjibcafkaaaGreatDoorTBXhreplicaRight
import Derived.Test.YtiminjibcafkaaaGreatDoorTBXhtidingsref05Right
import Derived.Test.YtiminjibcafkaaaGreatDoorTBX12
import Derived.Test.YtiminjibcafkaaaGreatDoorTBJ4
import Derived.Test.YtiminjibcafkaaaGreatDoorTBJ20
import Derived.Test.YtiminjibcafkaaaGreatDoorTBXbegin
import Derived.Test.YtiminjibcafkaaaGreatDoorTBXrefbegin
import Derived.Test.YtiminjibcafkaaaGreatDoorTBJ29
import Derived.Test.YtiminjibcafkaaaGreatDoorTBJ7
import Derived.Test.YtiminjibcafkaaaGreatDoorTBJ48
import Derived.Test.YtiminjibcafkaaaGreatDoorTBJ10
namespace Go.Proofs.YtiminjibcafkaaaGreatDoor.X
open Go.RowKit Go.Proofs.YtiminjibcafkaaaGreatDoorW.PrintWords Go.Proofs.YtiminjibcafkaaaGreatDoorW.PrintLast Go.Proofs.YtiminjibcafkaaaGreatDoorW.PrintMore
set_option linter.unusedVariables false
set_option linter.unusedSimpArgs false
theorem Begin_okN (k : Nat) (a0 a1 a2 a3 : Int) (l4 : List S67) (l5 : List S62) (a6 : Bool) (a7 a8 a9 a10 : Int) (l11 : List S67) (a12 : Int) (A4 A5 A11 : Option Addr) (c4 c5 c11 : Nat) (b : Int) (w : World) (r4 : Kd.C k67 w A4 l4.length l4) (i4 : l4.length ≤ c4) (r5 : Kd.C k62 w A5 l5.length l5) (i5 : l5.length ≤ c5) (r11 : Kd.C k67 w A11 l11.length l11) (i11 : l11.length ≤ c11) (S : Nat → Prop) (hS : ∀ j,w.heap.size ≤ j → S j) (hlen : l4.length ≤ 400000) (hR : replica_Right.f k a0 a1 a2 a3 l4 l5 a6 a7 a8 a9 a10 l11 a12 = some true) (hf : ¬ 8 ≤ b) (hs : ¬ b = a0) (hl : ¬ a12 = 4294967295) (nn : Int) (hnn : nn = (IntKind.u32.wrap (a12 + 1))) : Calls Tryz.prog 14 #[.agg #[.int .u8 a0,.int .u8 a1,.int .u32 a2,.int .u32 a3,.slice A4 l4.length c4,.slice A5 l5.length c5,.bool a6,.int .u32 a7,.int .u8 a8,.int .u8 a9,.int .u32 a10,.slice A11 l11.length c11,.int .u32 a12],.int .u8 b] w fun e w'=>∃ T c T1 c1 T2 c2,e = .returned (.tuple #[.agg #[.int .u8 a0,.int .u8 a1,.int .u32 a2,.int .u32 a3,.slice A4 l4.length c4,.slice A5 l5.length c5,.bool true,.int .u32 nn,.int .u8 b,.int .u8 0,.int .u32 0,.slice none 0 0,.int .u32 nn],.agg #[.int .i64 1,.int .u8 a0,.int .u8 b,.int .u32 nn,.int .u8 0,.int .u8 a1,.slice T l4.length c,.int .u32 0,.slice T1 0 c1,.int .u8 0,.bool false,.slice T2 0 c2],errW none]) ∧ On k67 w' S T c l4 ∧ On k62 w' S T1 c1 [] ∧ On k67 w' S T2 c2 [] ∧ Below w.heap.size w w':=by
 subst hnn
 exact Begin_ok k a0 a1 a2 a3 l4 l5 a6 a7 a8 a9 a10 l11 a12 A4 A5 A11 c4 c5 c11 b w r4 i4 r5 i5 r11 i11 S hS hlen hR hf hs hl
theorem RBegin_okN (k : Nat) (a0 a1 a2 a3 : Int) (l4 : List S67) (l5 : List S62) (a6 : Bool) (a7 a8 a9 a10 : Int) (l11 : List S67) (a12 : Int) (A4 A5 A11 : Option Addr) (c4 c5 c11 : Nat) (b : Int) (w : World) (r4 : Kd.C k67 w A4 l4.length l4) (i4 : l4.length ≤ c4) (r5 : Kd.C k62 w A5 l5.length l5) (i5 : l5.length ≤ c5) (r11 : Kd.C k67 w A11 l11.length l11) (i11 : l11.length ≤ c11) (hR : tidingsref05_Right.f k a0 a1 a2 a3 l4 l5 a6 a7 a8 a9 a10 l11 a12 = some true) (hf : ¬ 7 < b) (hs : ¬ b = a0) (hl : ¬ a12 = 4294967295) (nn : Int) (hnn : nn = (IntKind.u32.wrap (a12 + 1))) : Calls Tryz.prog 15 #[.agg #[.int .u8 a0,.int .u8 a1,.int .u32 a2,.int .u32 a3,.slice A4 l4.length c4,.slice A5 l5.length c5,.bool a6,.int .u32 a7,.int .u8 a8,.int .u8 a9,.int .u32 a10,.slice A11 l11.length c11,.int .u32 a12],.int .u8 b] w fun e w'=>e = .returned (.tuple #[.agg #[.int .u8 a0,.int .u8 a1,.int .u32 a2,.int .u32 a3,.slice A4 l4.length c4,.slice A5 l5.length c5,.bool true,.int .u32 nn,.int .u8 b,.int .u8 0,.int .u32 0,.slice none 0 0,.int .u32 nn],.agg #[.int .i64 1,.int .u8 a0,.int .u8 b,.int .u32 nn,.int .u8 0,.int .u8 a1,.slice A4 l4.length c4,.int .u32 0,.slice none 0 0,.int .u8 0,.bool false,.slice none 0 0],.int .i64 0]) ∧ Below w.heap.size w w':=by
 subst hnn
 exact RBegin_ok k a0 a1 a2 a3 l4 l5 a6 a7 a8 a9 a10 l11 a12 A4 A5 A11 c4 c5 c11 b w r4 i4 r5 i5 r11 i11 hR hf hs hl
set_option maxRecDepth 100000 in
set_option maxHeartbeats 8000000 in
theorem TB_ok (a0 a1 a2 a3 : Int) (l4 : List S67) (l5 : List S62) (a6 : Bool) (a7 a8 a9 a10 : Int) (l11 : List S67) (a12 : Int) (A4 A5 A11 : Option Addr) (c4 c5 c11 : Nat) (b : Int) (nn : Int) (hnn : nn = IntKind.u32.wrap (a12 + 1)) (w : World) (r4 : Kd.C k67 w A4 l4.length l4) (i4 : l4.length ≤ c4) (r5 : Kd.C k62 w A5 l5.length l5) (i5 : l5.length ≤ c5) (r11 : Kd.C k67 w A11 l11.length l11) (i11 : l11.length ≤ c11) (hR : replica_Right.f 100000 a0 a1 a2 a3 l4 l5 a6 a7 a8 a9 a10 l11 a12 = some true) (hQ : tidingsref05_Right.f 100000 a0 a1 a2 a3 l4 l5 a6 a7 a8 a9 a10 l11 a12 = some true) (hsh : tidingsref05_Short.f a0 a1 a2 a3 l4 l5 a6 a7 a8 a9 a10 l11 a12 = some true) (hlen : l4.length ≤ 400000) (hg : GT w) (hl9 : l4.length ≤ 900 ∧ l5.length ≤ 900) (hs1 : ∀ l : List S67,l.length ≤ 900 → tidingsref01_Same.f 100000 l l = some true) (hs2 : ∀ l : List S62,l.length ≤ 900 → tidingsref02_Same.f 100000 l l = some true) (hf : ¬ 8 ≤ b) (hs : ¬ b = a0) (hl : ¬ a12 = 4294967295) (hNp : note_Right.f 100000 1 a0 b nn 0 a1 l4 0 [] 0 false [] = some true) (hRa : replica_Right.f 100000 a0 a1 a2 a3 l4 l5 true nn b 0 0 [] nn = some true) (hNn : a6 = true → note_Right.f 100000 1 a0 a8 a7 a9 a1 l4 0 [] 0 false [] = some true) (hRx : replica_Right.f 100000 a0 a1 a2 a3 l4 l5 false 0 0 0 0 [] a12 = some true) : Calls Tryz.prog 4 #[.agg #[.int .u8 a0,.int .u8 a1,.int .u32 a2,.int .u32 a3,.slice A4 l4.length c4,.slice A5 l5.length c5,.bool a6,.int .u32 a7,.int .u8 a8,.int .u8 a9,.int .u32 a10,.slice A11 l11.length c11,.int .u32 a12],.int .u8 b] w fun e w'=>e = .returned (.bool true) ∧ Below w.heap.size w w':=by
 have huR:=Tryz.underlying28
 have huN:=Tryz.underlying30
 have huS:=Tryz.underlying26
 have huE:=Tryz.underlying62
 have hu35:=Tryz.underlying35
 have hu4:=Tryz.underlying4
 have huc:=Tryz.underlying70
 have eN:=errW_none
 have eS:=errW_some
 have R4':=Aside0.mk r4
 have I4':=Aside0.mk i4
 have R5':=Aside0.mk r5
 have I5':=Aside0.mk i5
 have R11':=Aside0.mk r11
 have I11':=Aside0.mk i11
 have HR':=Aside0.mk hR
 have HQ':=Aside0.mk hQ
 have HSH':=Aside0.mk hsh
 have HLEN':=Aside0.mk hlen
 have HG':=Aside0.mk hg
 have HL9':=Aside0.mk hl9
 have HS1':=Aside0.mk hs1
 have HS2':=Aside0.mk hs2
 have HF':=Aside0.mk hf
 have HS':=Aside0.mk hs
 have HL':=Aside0.mk hl
 have HNP':=Aside0.mk hNp
 have HRA':=Aside0.mk hRa
 have HNN':=Aside0.mk hNn
 have HRX':=Aside0.mk hRx
 have HNN1:=Aside0.mk hnn
 clear hnn
 clear r4 i4 r5 i5 r11 i11 hR hQ hsh hlen hg hl9 hs1 hs2 hf hs hl hNp hRa hNn hRx
 go_enter Tryz.func4,Tryz.ntmps4
 go_wp2_with fail
 generalize hW : World.alloc w _ = w0
 have Br0:=Aside0.mk (al1_0 hW)
 have HB0:=Aside0.mk (al1B hW)
 clear hW
 have GG:=Aside0.mk (show w.heap.size + 1 ≤ w0.heap.size by have:=blk_lt Br0.out;omega)
 have HG0:=Aside0.mk (Nat.le_refl w0.heap.size)
 obtain ⟨r_0,r_1,r_2,r_3,r_4,r_5,r_6,r_7,r_8,r_9,r_10,r_11,r_12⟩:=cells13 Br0.out
 go_wp2_with fail
 refine (awake07_calls _ (HG'.out.below HB0.out)).mono ?_
 rintro ev w1 ⟨rfl,hx⟩
 have Br1:=Aside0.mk (blk_below Br0.out hx)
 have HB1:=Aside0.mk (below_step HB0.out hx)
 have HG1:=Aside0.mk (Nat.le_trans HG0.out hx.size)
 clear r_0 r_1 r_2 r_3 r_4 r_5 r_6 r_7 r_8 r_9 r_10 r_11 r_12
 clear hx HB0 HG0 Br0
 obtain ⟨r_0,r_1,r_2,r_3,r_4,r_5,r_6,r_7,r_8,r_9,r_10,r_11,r_12⟩:=cells13 Br1.out
 go_wp2_with fail
 refine (tidingsref05_Short.calls a0 a1 a2 a3 _ _ l4 _ _ l5 a6 a7 a8 a9 a10 _ _ l11 a12 true _ (Kd.C_below R4'.out HB1.out) I4'.out (Kd.C_below R5'.out HB1.out) I5'.out (Kd.C_below R11'.out HB1.out) I11'.out HSH'.out).mono ?_
 rintro ev w2 ⟨rfl,hx⟩
 have Br2:=Aside0.mk (blk_below Br1.out hx)
 have HB2:=Aside0.mk (below_step HB1.out hx)
 have HG2:=Aside0.mk (Nat.le_trans HG1.out hx.size)
 clear r_0 r_1 r_2 r_3 r_4 r_5 r_6 r_7 r_8 r_9 r_10 r_11 r_12
 clear hx HB1 HG1 Br1
 obtain ⟨r_0,r_1,r_2,r_3,r_4,r_5,r_6,r_7,r_8,r_9,r_10,r_11,r_12⟩:=cells13 Br2.out
 go_wp2_with fail
 refine (Begin_okN 100000 a0 a1 a2 a3 l4 l5 a6 a7 a8 a9 a10 l11 a12 A4 A5 A11 c4 c5 c11 b _  (Kd.C_below R4'.out HB2.out) I4'.out (Kd.C_below R5'.out HB2.out) I5'.out (Kd.C_below R11'.out HB2.out) I11'.out (fun _=>True) (fun _ _=>trivial) HLEN'.out HR'.out (by have:=HF'.out;omega) HS'.out HL'.out _ HNN1.out).mono ?_
 rintro ev w3 ⟨T,c,T1,c1,T2,c2,rfl,q1,q2,q3,hx⟩
 have Br3:=Aside0.mk (blk_below Br2.out hx)
 have HB3:=Aside0.mk (below_step HB2.out hx)
 have Oq13:=Aside0.mk q1
 clear q1
 have Oq23:=Aside0.mk q2
 clear q2
 have Oq33:=Aside0.mk q3
 clear q3
 have HG3:=Aside0.mk (Nat.le_trans HG2.out hx.size)
 clear r_0 r_1 r_2 r_3 r_4 r_5 r_6 r_7 r_8 r_9 r_10 r_11 r_12
 clear hx HB2 HG2 Br2
 obtain ⟨r4q_0,r4q_1,r4q_2,r4q_3,r4q_4,r4q_5,r4q_6,r4q_7,r4q_8,r4q_9,r4q_10,r4q_11,r4q_12⟩:=cells13 (blk_alloc (blk_alloc (Br3.out) (.cells #[.int .u8 a0,.int .u8 a1,.int .u32 a2,.int .u32 a3,.slice A4 l4.length c4,.slice A5 l5.length c5,.bool true,.int .u32 nn,.int .u8 b,.int .u8 0,.int .u32 0,.slice none 0 0,.int .u32 nn] 28)) (.cells #[.int .i64 1,.int .u8 a0,.int .u8 b,.int .u32 nn,.int .u8 0,.int .u8 a1,.slice T l4.length c,.int .u32 0,.slice T1 0 c1,.int .u8 0,.bool false,.slice T2 0 c2] 30))
 go_wp2_with fail
 clear r4q_0 r4q_1 r4q_2 r4q_3 r4q_4 r4q_5 r4q_6 r4q_7 r4q_8 r4q_9 r4q_10 r4q_11 r4q_12
 generalize hW : World.alloc (World.alloc w3 _) _ = w4
 have Br4:=Aside0.mk (blk_below Br3.out (al2B hW))
 have Ba4:=Aside0.mk (al2_0 hW)
 have Bp4:=Aside0.mk (al2_1 hW)
 have HB4:=Aside0.mk (below_step HB3.out (al2B hW))
 have HG4:=Aside0.mk (Nat.le_trans HG3.out (al2B hW).size)
 have Oq14:=Aside0.mk (Oq13.out.below (al2B hW))
 have Oq24:=Aside0.mk (Oq23.out.below (al2B hW))
 have Oq34:=Aside0.mk (Oq33.out.below (al2B hW))
 clear hW HB3 HG3 Br3 Oq13 Oq23 Oq33
 refine (RBegin_okN 100000 a0 a1 a2 a3 l4 l5 a6 a7 a8 a9 a10 l11 a12 A4 A5 A11 c4 c5 c11 b _  (Kd.C_below R4'.out HB4.out) I4'.out (Kd.C_below R5'.out HB4.out) I5'.out (Kd.C_below R11'.out HB4.out) I11'.out HQ'.out (by have:=HF'.out;omega) HS'.out HL'.out _ HNN1.out).mono ?_
 rintro ev w5 ⟨rfl,hx⟩
 have Br5:=Aside0.mk (blk_below Br4.out hx)
 have Ba5:=Aside0.mk (blk_below Ba4.out hx)
 have Bp5:=Aside0.mk (blk_below Bp4.out hx)
 have HB5:=Aside0.mk (below_step HB4.out hx)
 have Oq15:=Aside0.mk (Oq14.out.below hx)
 have Oq25:=Aside0.mk (Oq24.out.below hx)
 have Oq35:=Aside0.mk (Oq34.out.below hx)
 have HG5:=Aside0.mk (Nat.le_trans HG4.out hx.size)
 clear hx HB4 HG4 Br4 Ba4 Bp4 Oq14 Oq24 Oq34
 obtain ⟨r6q_0,r6q_1,r6q_2,r6q_3,r6q_4,r6q_5,r6q_6,r6q_7,r6q_8,r6q_9,r6q_10,r6q_11,r6q_12⟩:=cells13 (blk_alloc (blk_alloc (Br5.out) (.cells #[.int .u8 a0,.int .u8 a1,.int .u32 a2,.int .u32 a3,.slice A4 l4.length c4,.slice A5 l5.length c5,.bool true,.int .u32 nn,.int .u8 b,.int .u8 0,.int .u32 0,.slice none 0 0,.int .u32 nn] 28)) (.cells #[.int .i64 1,.int .u8 a0,.int .u8 b,.int .u32 nn,.int .u8 0,.int .u8 a1,.slice A4 l4.length c4,.int .u32 0,.slice none 0 0,.int .u8 0,.bool false,.slice none 0 0] 30))
 go_wp2_with fail
 clear r6q_0 r6q_1 r6q_2 r6q_3 r6q_4 r6q_5 r6q_6 r6q_7 r6q_8 r6q_9 r6q_10 r6q_11 r6q_12
 generalize hW : World.alloc (World.alloc w5 _) _ = w6
 have Br6:=Aside0.mk (blk_below Br5.out (al2B hW))
 have Ba6:=Aside0.mk (blk_below Ba5.out (al2B hW))
 have Bp6:=Aside0.mk (blk_below Bp5.out (al2B hW))
 have Bc6:=Aside0.mk (al2_0 hW)
 have Bd6:=Aside0.mk (al2_1 hW)
 have HB6:=Aside0.mk (below_step HB5.out (al2B hW))
 have HG6:=Aside0.mk (Nat.le_trans HG5.out (al2B hW).size)
 have Oq16:=Aside0.mk (Oq15.out.below (al2B hW))
 have Oq26:=Aside0.mk (Oq25.out.below (al2B hW))
 have Oq36:=Aside0.mk (Oq35.out.below (al2B hW))
 clear hW HB5 HG5 Br5 Ba5 Bp5 Oq15 Oq25 Oq35
 have hcd : codeOf none = 0:=rfl
 refine (Code_calls none _ (HG'.out.below HB6.out)).mono ?_
 rintro ev w7 ⟨rfl,hx⟩
 have Br7:=Aside0.mk (blk_below Br6.out hx)
 have Ba7:=Aside0.mk (blk_below Ba6.out hx)
 have Bp7:=Aside0.mk (blk_below Bp6.out hx)
 have Bc7:=Aside0.mk (blk_below Bc6.out hx)
 have Bd7:=Aside0.mk (blk_below Bd6.out hx)
 have HB7:=Aside0.mk (below_step HB6.out hx)
 have Oq17:=Aside0.mk (Oq16.out.below hx)
 have Oq27:=Aside0.mk (Oq26.out.below hx)
 have Oq37:=Aside0.mk (Oq36.out.below hx)
 have HG7:=Aside0.mk (Nat.le_trans HG6.out hx.size)
 clear hx HB6 HG6 Br6 Ba6 Bp6 Bc6 Bd6 Oq16 Oq26 Oq36
 obtain ⟨a_0,a_1,a_2,a_3,a_4,a_5,a_6,a_7,a_8,a_9,a_10,a_11,a_12⟩:=cells13 Ba7.out
 obtain ⟨c_0,c_1,c_2,c_3,c_4,c_5,c_6,c_7,c_8,c_9,c_10,c_11,c_12⟩:=cells13 Bc7.out
 go_wp2_with fail
 refine (same5_walk 100000 a0 a1 a2 a3 l4 l5 true nn b 0 0 [] nn A4 A5 none A4 A5 none c4 c5 0 c4 c5 0 _ (Kd.C_below R4'.out HB7.out) I4'.out (Kd.C_below R5'.out HB7.out) I5'.out (none_C k67 _) (Nat.le_refl _) (Kd.C_below R4'.out HB7.out) I4'.out (Kd.C_below R5'.out HB7.out) I5'.out (none_C k67 _) (Nat.le_refl _) (HS1'.out l4 HL9'.out.1) (HS2'.out l5 HL9'.out.2) (HS1'.out [] (by simp))).mono ?_
 rintro ev w8 ⟨rfl,hx⟩
 have Br8:=Aside0.mk (blk_below Br7.out hx)
 have Ba8:=Aside0.mk (blk_below Ba7.out hx)
 have Bp8:=Aside0.mk (blk_below Bp7.out hx)
 have Bc8:=Aside0.mk (blk_below Bc7.out hx)
 have Bd8:=Aside0.mk (blk_below Bd7.out hx)
 have HB8:=Aside0.mk (below_step HB7.out hx)
 have Oq18:=Aside0.mk (Oq17.out.below hx)
 have Oq28:=Aside0.mk (Oq27.out.below hx)
 have Oq38:=Aside0.mk (Oq37.out.below hx)
 have HG8:=Aside0.mk (Nat.le_trans HG7.out hx.size)
 clear a_0 a_1 a_2 a_3 a_4 a_5 a_6 a_7 a_8 a_9 a_10 a_11 a_12 c_0 c_1 c_2 c_3 c_4 c_5 c_6 c_7 c_8 c_9 c_10 c_11 c_12
 clear hx HB7 HG7 Br7 Ba7 Bp7 Bc7 Bd7 Oq17 Oq27 Oq37
 obtain ⟨p_0,p_1,p_2,p_3,p_4,p_5,p_6,p_7,p_8,p_9,p_10,p_11⟩:=cells12 Bp8.out
 obtain ⟨d_0,d_1,d_2,d_3,d_4,d_5,d_6,d_7,d_8,d_9,d_10,d_11⟩:=cells12 Bd8.out
 go_wp2_with fail
 refine (same4_walk 100000 1 a0 b nn 0 a1 l4 0 [] 0 false [] T T1 T2 A4 none none c c1 c2 c4 0 0 _ Oq18.out.row Oq18.out.len Oq28.out.row Oq28.out.len Oq38.out.row Oq38.out.len (Kd.C_below R4'.out HB8.out) I4'.out (none_C k62 _) (Nat.le_refl _) (none_C k67 _) (Nat.le_refl _) (HS1'.out l4 HL9'.out.1) (HS2'.out [] (by simp)) (HS1'.out [] (by simp))).mono ?_
 rintro ev w9 ⟨rfl,hx⟩
 have Br9:=Aside0.mk (blk_below Br8.out hx)
 have Ba9:=Aside0.mk (blk_below Ba8.out hx)
 have Bp9:=Aside0.mk (blk_below Bp8.out hx)
 have Bc9:=Aside0.mk (blk_below Bc8.out hx)
 have Bd9:=Aside0.mk (blk_below Bd8.out hx)
 have HB9:=Aside0.mk (below_step HB8.out hx)
 have Oq19:=Aside0.mk (Oq18.out.below hx)
 have Oq29:=Aside0.mk (Oq28.out.below hx)
 have Oq39:=Aside0.mk (Oq38.out.below hx)
 have HG9:=Aside0.mk (Nat.le_trans HG8.out hx.size)
 clear p_0 p_1 p_2 p_3 p_4 p_5 p_6 p_7 p_8 p_9 p_10 p_11 d_0 d_1 d_2 d_3 d_4 d_5 d_6 d_7 d_8 d_9 d_10 d_11
 clear hx HB8 HG8 Br8 Ba8 Bp8 Bc8 Bd8 Oq18 Oq28 Oq38
 obtain ⟨p_0,p_1,p_2,p_3,p_4,p_5,p_6,p_7,p_8,p_9,p_10,p_11⟩:=cells12 Bp9.out
 go_wp2_with fail
 refine (note_Right.calls 100000 1 a0 b nn 0 a1 T c l4 0 T1 c1 [] 0 false T2 c2 [] true _ Oq19.out.row Oq19.out.len Oq29.out.row Oq29.out.len Oq39.out.row Oq39.out.len HNP'.out).mono ?_
 rintro ev w10 ⟨rfl,hx⟩
 have Br10:=Aside0.mk (blk_below Br9.out hx)
 have Ba10:=Aside0.mk (blk_below Ba9.out hx)
 have Bp10:=Aside0.mk (blk_below Bp9.out hx)
 have Bc10:=Aside0.mk (blk_below Bc9.out hx)
 have Bd10:=Aside0.mk (blk_below Bd9.out hx)
 have HB10:=Aside0.mk (below_step HB9.out hx)
 have Oq110:=Aside0.mk (Oq19.out.below hx)
 have Oq210:=Aside0.mk (Oq29.out.below hx)
 have Oq310:=Aside0.mk (Oq39.out.below hx)
 have HG10:=Aside0.mk (Nat.le_trans HG9.out hx.size)
 clear p_0 p_1 p_2 p_3 p_4 p_5 p_6 p_7 p_8 p_9 p_10 p_11
 clear hx HB9 HG9 Br9 Ba9 Bp9 Bc9 Bd9 Oq19 Oq29 Oq39
 obtain ⟨a_0,a_1,a_2,a_3,a_4,a_5,a_6,a_7,a_8,a_9,a_10,a_11,a_12⟩:=cells13 Ba10.out
 go_wp2_with fail
 refine (replica_Right.calls 100000 a0 a1 a2 a3 A4 c4 l4 A5 c5 l5 true nn b 0 0 none 0 [] nn true _ (Kd.C_below R4'.out HB10.out) I4'.out (Kd.C_below R5'.out HB10.out) I5'.out (none_C k67 _) (Nat.le_refl _) HRA'.out).mono ?_
 rintro ev w11 ⟨rfl,hx⟩
 have Br11:=Aside0.mk (blk_below Br10.out hx)
 have Ba11:=Aside0.mk (blk_below Ba10.out hx)
 have Bp11:=Aside0.mk (blk_below Bp10.out hx)
 have Bc11:=Aside0.mk (blk_below Bc10.out hx)
 have Bd11:=Aside0.mk (blk_below Bd10.out hx)
 have HB11:=Aside0.mk (below_step HB10.out hx)
 have Oq111:=Aside0.mk (Oq110.out.below hx)
 have Oq211:=Aside0.mk (Oq210.out.below hx)
 have Oq311:=Aside0.mk (Oq310.out.below hx)
 have HG11:=Aside0.mk (Nat.le_trans HG10.out hx.size)
 clear a_0 a_1 a_2 a_3 a_4 a_5 a_6 a_7 a_8 a_9 a_10 a_11 a_12
 clear hx HB10 HG10 Br10 Ba10 Bp10 Bc10 Bd10 Oq110 Oq210 Oq310
 obtain ⟨r_0,r_1,r_2,r_3,r_4,r_5,r_6,r_7,r_8,r_9,r_10,r_11,r_12⟩:=cells13 Br11.out
 go_wp2_with fail
 clear Oq111
 clear Oq211
 clear Oq311
 cases a6 with
 | true =>
  refine (Again_ok 100000 a0 a1 a2 a3 l4 l5 true a7 a8 a9 a10 l11 a12 A4 A5 A11 c4 c5 c11 _  (Kd.C_below R4'.out HB11.out) I4'.out (Kd.C_below R5'.out HB11.out) I5'.out (Kd.C_below R11'.out HB11.out) I11'.out (show target_on.f 100000 a0 a1 a2 a3 l4 l5 true a7 a8 a9 a10 l11 a12 = some none by unfold target_on.f;rw [HR'.out];rfl) HLEN'.out).mono ?_
  rintro ev w12 ⟨Y0,y0,Y1,y1,Y2,y2,rfl,q1,q2,q3,hx⟩
  have Br12:=Aside0.mk (blk_below Br11.out hx)
  have Ba12:=Aside0.mk (blk_below Ba11.out hx)
  have Bp12:=Aside0.mk (blk_below Bp11.out hx)
  have Bc12:=Aside0.mk (blk_below Bc11.out hx)
  have Bd12:=Aside0.mk (blk_below Bd11.out hx)
  have HB12:=Aside0.mk (below_step HB11.out hx)
  have Oq112:=Aside0.mk q1
  clear q1
  have Oq212:=Aside0.mk q2
  clear q2
  have Oq312:=Aside0.mk q3
  clear q3
  have HG12:=Aside0.mk (Nat.le_trans HG11.out hx.size)
  clear r_0 r_1 r_2 r_3 r_4 r_5 r_6 r_7 r_8 r_9 r_10 r_11 r_12
  clear hx HB11 HG11 Br11 Ba11 Bp11 Bc11 Bd11
  obtain ⟨r13q_0,r13q_1,r13q_2,r13q_3,r13q_4,r13q_5,r13q_6,r13q_7,r13q_8,r13q_9,r13q_10,r13q_11,r13q_12⟩:=cells13 (blk_alloc (Br12.out) (.cells #[.int .i64 1,.int .u8 a0,.int .u8 a8,.int .u32 a7,.int .u8 a9,.int .u8 a1,.slice Y0 l4.length y0,.int .u32 0,.slice Y1 0 y1,.int .u8 0,.bool false,.slice Y2 0 y2] 30))
  go_wp2_with fail
  clear r13q_0 r13q_1 r13q_2 r13q_3 r13q_4 r13q_5 r13q_6 r13q_7 r13q_8 r13q_9 r13q_10 r13q_11 r13q_12
  generalize hW : World.alloc w12 _ = w13
  have Br13:=Aside0.mk (blk_below Br12.out (al1B hW))
  have Ba13:=Aside0.mk (blk_below Ba12.out (al1B hW))
  have Bp13:=Aside0.mk (blk_below Bp12.out (al1B hW))
  have Bc13:=Aside0.mk (blk_below Bc12.out (al1B hW))
  have Bd13:=Aside0.mk (blk_below Bd12.out (al1B hW))
  have Bn13:=Aside0.mk (al1_0 hW)
  have HB13:=Aside0.mk (below_step HB12.out (al1B hW))
  have HG13:=Aside0.mk (Nat.le_trans HG12.out (al1B hW).size)
  have Oq113:=Aside0.mk (Oq112.out.below (al1B hW))
  have Oq213:=Aside0.mk (Oq212.out.below (al1B hW))
  have Oq313:=Aside0.mk (Oq312.out.below (al1B hW))
  clear hW HB12 HG12 Br12 Ba12 Bp12 Bc12 Bd12 Oq112 Oq212 Oq312
  refine (Quit_ok 100000 a0 a1 a2 a3 l4 l5 true a7 a8 a9 a10 l11 a12 A4 A5 A11 c4 c5 c11 _  (Kd.C_below R4'.out HB13.out) I4'.out (Kd.C_below R5'.out HB13.out) I5'.out (Kd.C_below R11'.out HB13.out) I11'.out (show target_on.f 100000 a0 a1 a2 a3 l4 l5 true a7 a8 a9 a10 l11 a12 = some none by unfold target_on.f;rw [HR'.out];rfl)).mono ?_
  rintro ev w14 ⟨rfl,hx⟩
  have Br14:=Aside0.mk (blk_below Br13.out hx)
  have Ba14:=Aside0.mk (blk_below Ba13.out hx)
  have Bp14:=Aside0.mk (blk_below Bp13.out hx)
  have Bc14:=Aside0.mk (blk_below Bc13.out hx)
  have Bd14:=Aside0.mk (blk_below Bd13.out hx)
  have Bn14:=Aside0.mk (blk_below Bn13.out hx)
  have HB14:=Aside0.mk (below_step HB13.out hx)
  have Oq114:=Aside0.mk (Oq113.out.below hx)
  have Oq214:=Aside0.mk (Oq213.out.below hx)
  have Oq314:=Aside0.mk (Oq313.out.below hx)
  have HG14:=Aside0.mk (Nat.le_trans HG13.out hx.size)
  clear hx HB13 HG13 Br13 Ba13 Bp13 Bc13 Bd13 Bn13 Oq113 Oq213 Oq313
  obtain ⟨r15q_0,r15q_1,r15q_2,r15q_3,r15q_4,r15q_5,r15q_6,r15q_7,r15q_8,r15q_9,r15q_10,r15q_11,r15q_12⟩:=cells13 (blk_alloc (Br14.out) (.cells #[.int .u8 a0,.int .u8 a1,.int .u32 a2,.int .u32 a3,.slice A4 l4.length c4,.slice A5 l5.length c5,.bool false,.int .u32 0,.int .u8 0,.int .u8 0,.int .u32 0,.slice none 0 0,.int .u32 a12] 28))
  go_wp2_with fail
  clear r15q_0 r15q_1 r15q_2 r15q_3 r15q_4 r15q_5 r15q_6 r15q_7 r15q_8 r15q_9 r15q_10 r15q_11 r15q_12
  generalize hW : World.alloc w14 _ = w15
  have Br15:=Aside0.mk (blk_below Br14.out (al1B hW))
  have Ba15:=Aside0.mk (blk_below Ba14.out (al1B hW))
  have Bp15:=Aside0.mk (blk_below Bp14.out (al1B hW))
  have Bc15:=Aside0.mk (blk_below Bc14.out (al1B hW))
  have Bd15:=Aside0.mk (blk_below Bd14.out (al1B hW))
  have Bn15:=Aside0.mk (blk_below Bn14.out (al1B hW))
  have By15:=Aside0.mk (al1_0 hW)
  have HB15:=Aside0.mk (below_step HB14.out (al1B hW))
  have HG15:=Aside0.mk (Nat.le_trans HG14.out (al1B hW).size)
  have Oq115:=Aside0.mk (Oq114.out.below (al1B hW))
  have Oq215:=Aside0.mk (Oq214.out.below (al1B hW))
  have Oq315:=Aside0.mk (Oq314.out.below (al1B hW))
  clear hW HB14 HG14 Br14 Ba14 Bp14 Bc14 Bd14 Bn14 Oq114 Oq214 Oq314
  refine (tidingsref07_On.calls 100000 a0 a1 a2 a3 _ _ l4 _ _ l5 true a7 a8 a9 a10 _ _ l11 a12 0 _ (Kd.C_below R4'.out HB15.out) I4'.out (Kd.C_below R5'.out HB15.out) I5'.out (Kd.C_below R11'.out HB15.out) I11'.out (show tidingsref07_On.f 100000 a0 a1 a2 a3 l4 l5 true a7 a8 a9 a10 l11 a12 = some 0 by unfold tidingsref07_On.f;rw [HQ'.out];rfl)).mono ?_
  rintro ev w16 ⟨rfl,hx⟩
  have Br16:=Aside0.mk (blk_below Br15.out hx)
  have Ba16:=Aside0.mk (blk_below Ba15.out hx)
  have Bp16:=Aside0.mk (blk_below Bp15.out hx)
  have Bc16:=Aside0.mk (blk_below Bc15.out hx)
  have Bd16:=Aside0.mk (blk_below Bd15.out hx)
  have Bn16:=Aside0.mk (blk_below Bn15.out hx)
  have By16:=Aside0.mk (blk_below By15.out hx)
  have HB16:=Aside0.mk (below_step HB15.out hx)
  have Oq116:=Aside0.mk (Oq115.out.below hx)
  have Oq216:=Aside0.mk (Oq215.out.below hx)
  have Oq316:=Aside0.mk (Oq315.out.below hx)
  have HG16:=Aside0.mk (Nat.le_trans HG15.out hx.size)
  clear hx HB15 HG15 Br15 Ba15 Bp15 Bc15 Bd15 Bn15 By15 Oq115 Oq215 Oq315
  go_wp2_with fail
  have hce : codeOf none = 0:=rfl
  refine (Code_calls none _ (HG'.out.below HB16.out)).mono ?_
  rintro ev w17 ⟨rfl,hx⟩
  have Br17:=Aside0.mk (blk_below Br16.out hx)
  have Ba17:=Aside0.mk (blk_below Ba16.out hx)
  have Bp17:=Aside0.mk (blk_below Bp16.out hx)
  have Bc17:=Aside0.mk (blk_below Bc16.out hx)
  have Bd17:=Aside0.mk (blk_below Bd16.out hx)
  have Bn17:=Aside0.mk (blk_below Bn16.out hx)
  have By17:=Aside0.mk (blk_below By16.out hx)
  have HB17:=Aside0.mk (below_step HB16.out hx)
  have Oq117:=Aside0.mk (Oq116.out.below hx)
  have Oq217:=Aside0.mk (Oq216.out.below hx)
  have Oq317:=Aside0.mk (Oq316.out.below hx)
  have HG17:=Aside0.mk (Nat.le_trans HG16.out hx.size)
  clear hx HB16 HG16 Br16 Ba16 Bp16 Bc16 Bd16 Bn16 By16 Oq116 Oq216 Oq316
  go_wp2_with fail
  refine (Code_calls none _ (HG'.out.below HB17.out)).mono ?_
  rintro ev w18 ⟨rfl,hx⟩
  have Br18:=Aside0.mk (blk_below Br17.out hx)
  have Ba18:=Aside0.mk (blk_below Ba17.out hx)
  have Bp18:=Aside0.mk (blk_below Bp17.out hx)
  have Bc18:=Aside0.mk (blk_below Bc17.out hx)
  have Bd18:=Aside0.mk (blk_below Bd17.out hx)
  have Bn18:=Aside0.mk (blk_below Bn17.out hx)
  have By18:=Aside0.mk (blk_below By17.out hx)
  have HB18:=Aside0.mk (below_step HB17.out hx)
  have Oq118:=Aside0.mk (Oq117.out.below hx)
  have Oq218:=Aside0.mk (Oq217.out.below hx)
  have Oq318:=Aside0.mk (Oq317.out.below hx)
  have HG18:=Aside0.mk (Nat.le_trans HG17.out hx.size)
  clear hx HB17 HG17 Br17 Ba17 Bp17 Bc17 Bd17 Bn17 By17 Oq117 Oq217 Oq317
  obtain ⟨n_0,n_1,n_2,n_3,n_4,n_5,n_6,n_7,n_8,n_9,n_10,n_11⟩:=cells12 Bn18.out
  obtain ⟨y_0,y_1,y_2,y_3,y_4,y_5,y_6,y_7,y_8,y_9,y_10,y_11,y_12⟩:=cells13 By18.out
  go_wp2_with fail
  refine region_lex (fun (s : Option (Unit)) d w'=>Below w.heap.size w w' ∧ w0.heap.size ≤ w'.heap.size ∧ w'.heap[w.heap.size]? = w18.heap[w.heap.size]? ∧ w'.heap[w3.heap.size]? = w18.heap[w3.heap.size]? ∧ w'.heap[w3.heap.size + 1]? = w18.heap[w3.heap.size + 1]? ∧ w'.heap[w5.heap.size]? = w18.heap[w5.heap.size]? ∧ w'.heap[w5.heap.size + 1]? = w18.heap[w5.heap.size + 1]? ∧ w'.heap[w12.heap.size]? = w18.heap[w12.heap.size]? ∧ w'.heap[w14.heap.size]? = w18.heap[w14.heap.size]? ∧ On k67 w' (fun _=>True) Y0 y0 l4 ∧ On k62 w' (fun _=>True) Y1 y1 [] ∧ On k67 w' (fun _=>True) Y2 y2 []) 19 #[false,false,false,false,false,false,false,false,false,false,false,false,false,false,false,false,false,false,false] (by kernel_rfl) rfl rfl ?_ ?_
  ·exact ⟨pw_below_drewN HB18.out 1,HG18.out,rfl,rfl,rfl,rfl,rfl,rfl,rfl,On.drewN Oq118.out 1,On.drewN Oq218.out 1,On.drewN Oq318.out 1⟩
  clear n_0 n_1 n_2 n_3 n_4 n_5 n_6 n_7 n_8 n_9 n_10 n_11 y_0 y_1 y_2 y_3 y_4 y_5 y_6 y_7 y_8 y_9 y_10 y_11 y_12
  refine lex_val (k:=0) (N:=some 96) (a':=?a0_12) (.agg #[.int .i64 1,.int .u8 a0,.int .u8 a8,.int .u32 a7,.int .u8 a9,.int .u8 a1,.slice Y0 l4.length y0,.int .u32 0,.slice Y1 0 y1,.int .u8 0,.bool false,.slice Y2 0 y2]) #[true,false,false,false,false,false,false,false,false,false,false,false,false,false,false,false,false,false,false] rfl rfl (by kernel_rfl) (by rfl) ?h0_12 ?ha0_12 ?r0_12
  case h0_12 =>
   rintro s hs_ d w' hd ⟨hB,hG,hr,ha,hp,hc,hd,hn,hy,oq1,oq2,oq3⟩
   obtain ⟨qn0,qn1,qn2,qn3,qn4,qn5,qn6,qn7,qn8,qn9,qn10,qn11⟩:=cells12 (hn.trans Bn18.out)
   refine ⟨w',?_,?_⟩
   ·go_simp
    try with_reducible rfl
   ·exact ⟨hB,hG,hr,ha,hp,hc,hd,hn,hy,oq1,oq2,oq3⟩
  case ha0_12 =>
   simp only [Act.put,List.setIfInBounds_toArray,List.set_cons_zero,List.set_cons_succ,i64_w,i32_w]
   rfl
  case r0_12 =>
   refine lex_val (k:=1) (N:=some 97) (a':=?a1_12) (.agg #[.int .u8 a0,.int .u8 a1,.int .u32 a2,.int .u32 a3,.slice A4 l4.length c4,.slice A5 l5.length c5,.bool true,.int .u32 a7,.int .u8 a8,.int .u8 a9,.int .u32 a10,.slice A11 l11.length c11,.int .u32 a12]) #[true,true,false,false,false,false,false,false,false,false,false,false,false,false,false,false,false,false,false] rfl rfl (by kernel_rfl) (by rfl) ?h1_12 ?ha1_12 ?r1_12
   case h1_12 =>
    rintro s hs_ d w' hd ⟨hB,hG,hr,ha,hp,hc,hd,hn,hy,oq1,oq2,oq3⟩
    obtain ⟨qr0,qr1,qr2,qr3,qr4,qr5,qr6,qr7,qr8,qr9,qr10,qr11,qr12⟩:=cells13 (hr.trans Br18.out)
    refine ⟨w',?_,?_⟩
    ·go_simp
     try with_reducible rfl
    ·exact ⟨hB,hG,hr,ha,hp,hc,hd,hn,hy,oq1,oq2,oq3⟩
   case ha1_12 =>
    simp only [Act.put,List.setIfInBounds_toArray,List.set_cons_zero,List.set_cons_succ,i64_w,i32_w]
    rfl
   case r1_12 =>
    refine lex_call (k:=2) (N:=some 98) (a':=?a2_12) 21 #[.agg #[.int .u8 a0,.int .u8 a1,.int .u32 a2,.int .u32 a3,.slice A4 l4.length c4,.slice A5 l5.length c5,.bool true,.int .u32 a7,.int .u8 a8,.int .u8 a9,.int .u32 a10,.slice A11 l11.length c11,.int .u32 a12]] (.agg #[.int .i64 1,.int .u8 a0,.int .u8 a8,.int .u32 a7,.int .u8 a9,.int .u8 a1,.slice A4 l4.length c4,.int .u32 0,.slice none 0 0,.int .u8 0,.bool false,.slice none 0 0]) #[true,true,true,false,false,false,false,false,false,false,false,false,false,false,false,false,false,false,false] rfl rfl (by kernel_rfl) (by rfl) ?h12_12 ?h2_12 ?ha2_12 ?r2_12
    case h12_12=>intro w';go_simp
    case h2_12 =>
     rintro s hs_ d w' hd ⟨hB,hG,hr,ha,hp,hc,hd,hn,hy,oq1,oq2,oq3⟩
     refine (ref07_Pull_is a0 a1 a2 a3 l4 l5 true a7 a8 a9 a10 l11 a12 A4 A5 A11 c4 c5 c11 w').mono ?_
     rintro e w2 ⟨rfl,hx⟩
     exact ⟨rfl,hB.trans (hx.mono hB.size),Nat.le_trans hG hx.size,keep_ hr Br18.out hx,keep_ ha Ba18.out hx,keep_ hp Bp18.out hx,keep_ hc Bc18.out hx,keep_ hd Bd18.out hx,keep_ hn Bn18.out hx,keep_ hy By18.out hx,oq1.below hx,oq2.below hx,oq3.below hx⟩
    case ha2_12 =>
     simp only [Act.put,List.setIfInBounds_toArray,List.set_cons_zero,List.set_cons_succ,i64_w,i32_w]
     rfl
    case r2_12 =>
     refine lex_call (k:=3) (N:=some 99) (a':=?a3_12) 13 #[.agg #[.int .i64 1,.int .u8 a0,.int .u8 a8,.int .u32 a7,.int .u8 a9,.int .u8 a1,.slice Y0 l4.length y0,.int .u32 0,.slice Y1 0 y1,.int .u8 0,.bool false,.slice Y2 0 y2],.agg #[.int .i64 1,.int .u8 a0,.int .u8 a8,.int .u32 a7,.int .u8 a9,.int .u8 a1,.slice A4 l4.length c4,.int .u32 0,.slice none 0 0,.int .u8 0,.bool false,.slice none 0 0]] (.bool true) #[true,true,true,true,false,false,false,false,false,false,false,false,false,false,false,false,false,false,false] rfl rfl (by kernel_rfl) (by rfl) ?h13_12 ?h3_12 ?ha3_12 ?r3_12
     case h13_12=>intro w';go_simp
     case h3_12 =>
      rintro s hs_ d w' hd ⟨hB,hG,hr,ha,hp,hc,hd,hn,hy,oq1,oq2,oq3⟩
      refine (same4_walk 100000 1 a0 a8 a7 a9 a1 l4 0 [] 0 false [] Y0 Y1 Y2 A4 none none y0 y1 y2 c4 0 0 w' oq1.row oq1.len oq2.row oq2.len oq3.row oq3.len (Kd.C_below R4'.out hB) I4'.out (none_C k62 _) (Nat.le_refl _) (none_C k67 _) (Nat.le_refl _) (HS1'.out l4 HL9'.out.1) (HS2'.out [] (by simp)) (HS1'.out [] (by simp))).mono ?_
      rintro e w2 ⟨rfl,hx⟩
      exact ⟨rfl,hB.trans (hx.mono hB.size),Nat.le_trans hG hx.size,keep_ hr Br18.out hx,keep_ ha Ba18.out hx,keep_ hp Bp18.out hx,keep_ hc Bc18.out hx,keep_ hd Bd18.out hx,keep_ hn Bn18.out hx,keep_ hy By18.out hx,oq1.below hx,oq2.below hx,oq3.below hx⟩
     case ha3_12 =>
      simp only [Act.put,List.setIfInBounds_toArray,List.set_cons_zero,List.set_cons_succ,i64_w,i32_w]
      rfl
     case r3_12 =>
      refine lex_val (k:=4) (N:=some 100) (a':=?a4_12) (.bool true) #[true,true,true,true,true,false,false,false,false,false,false,false,false,false,false,false,false,false,false] rfl rfl (by kernel_rfl) (by rfl) ?h4_12 ?ha4_12 ?r4_12
      case h4_12 =>
       rintro s hs_ d w' hd ⟨hB,hG,hr,ha,hp,hc,hd,hn,hy,oq1,oq2,oq3⟩
       refine ⟨w',?_,?_⟩
       ·go_simp
        try with_reducible rfl
       ·exact ⟨hB,hG,hr,ha,hp,hc,hd,hn,hy,oq1,oq2,oq3⟩
      case ha4_12 =>
       simp only [Act.put,List.setIfInBounds_toArray,List.set_cons_zero,List.set_cons_succ,i64_w,i32_w]
       rfl
      case r4_12 =>
       refine lex_val (k:=5) (N:=some 101) (a':=?a5_12) (.agg #[.int .i64 1,.int .u8 a0,.int .u8 a8,.int .u32 a7,.int .u8 a9,.int .u8 a1,.slice Y0 l4.length y0,.int .u32 0,.slice Y1 0 y1,.int .u8 0,.bool false,.slice Y2 0 y2]) #[true,true,true,true,true,true,false,false,false,false,false,false,false,false,false,false,false,false,false] rfl rfl (by kernel_rfl) (by rfl) ?h5_12 ?ha5_12 ?r5_12
       case h5_12 =>
        rintro s hs_ d w' hd ⟨hB,hG,hr,ha,hp,hc,hd,hn,hy,oq1,oq2,oq3⟩
        obtain ⟨qn0,qn1,qn2,qn3,qn4,qn5,qn6,qn7,qn8,qn9,qn10,qn11⟩:=cells12 (hn.trans Bn18.out)
        refine ⟨w',?_,?_⟩
        ·go_simp
         try with_reducible rfl
        ·exact ⟨hB,hG,hr,ha,hp,hc,hd,hn,hy,oq1,oq2,oq3⟩
       case ha5_12 =>
        simp only [Act.put,List.setIfInBounds_toArray,List.set_cons_zero,List.set_cons_succ,i64_w,i32_w]
        rfl
       case r5_12 =>
        refine lex_call (k:=6) (N:=some 102) (a':=?a6_12) 16 #[.agg #[.int .i64 1,.int .u8 a0,.int .u8 a8,.int .u32 a7,.int .u8 a9,.int .u8 a1,.slice Y0 l4.length y0,.int .u32 0,.slice Y1 0 y1,.int .u8 0,.bool false,.slice Y2 0 y2]] (.bool true) #[true,true,true,true,true,true,true,false,false,false,false,false,false,false,false,false,false,false,false] rfl rfl (by kernel_rfl) (by rfl) ?h16_12 ?h6_12 ?ha6_12 ?r6_12
        case h16_12=>intro w';go_simp
        case h6_12 =>
         rintro s hs_ d w' hd ⟨hB,hG,hr,ha,hp,hc,hd,hn,hy,oq1,oq2,oq3⟩
         refine (note_Right.calls 100000 1 a0 a8 a7 a9 a1 Y0 y0 l4 0 Y1 y1 [] 0 false Y2 y2 [] true w' oq1.row oq1.len oq2.row oq2.len oq3.row oq3.len (HNN'.out (by simp))).mono ?_
         rintro e w2 ⟨rfl,hx⟩
         exact ⟨rfl,hB.trans (hx.mono hB.size),Nat.le_trans hG hx.size,keep_ hr Br18.out hx,keep_ ha Ba18.out hx,keep_ hp Bp18.out hx,keep_ hc Bc18.out hx,keep_ hd Bd18.out hx,keep_ hn Bn18.out hx,keep_ hy By18.out hx,oq1.below hx,oq2.below hx,oq3.below hx⟩
        case ha6_12 =>
         simp only [Act.put,List.setIfInBounds_toArray,List.set_cons_zero,List.set_cons_succ,i64_w,i32_w]
         rfl
        case r6_12 =>
         refine lex_val (k:=7) (N:=some 103) (a':=?a7_12) (.bool true) #[true,true,true,true,true,true,true,true,false,false,false,false,false,false,false,false,false,false,false] rfl rfl (by kernel_rfl) (by rfl) ?h7_12 ?ha7_12 ?r7_12
         case h7_12 =>
          rintro s hs_ d w' hd ⟨hB,hG,hr,ha,hp,hc,hd,hn,hy,oq1,oq2,oq3⟩
          refine ⟨w',?_,?_⟩
          ·go_simp
           try with_reducible rfl
          ·exact ⟨hB,hG,hr,ha,hp,hc,hd,hn,hy,oq1,oq2,oq3⟩
         case ha7_12 =>
          simp only [Act.put,List.setIfInBounds_toArray,List.set_cons_zero,List.set_cons_succ,i64_w,i32_w]
          rfl
         case r7_12 =>
          refine lex_val (k:=8) (N:=some 104) (a':=?a8_12) (.bool true) #[true,true,true,true,true,true,true,true,true,false,false,false,false,false,false,false,false,false,false] rfl rfl (by kernel_rfl) (by rfl) ?h8_12 ?ha8_12 ?r8_12
          case h8_12 =>
           rintro s hs_ d w' hd ⟨hB,hG,hr,ha,hp,hc,hd,hn,hy,oq1,oq2,oq3⟩
           refine ⟨w',?_,?_⟩
           ·go_simp
            try with_reducible rfl
           ·exact ⟨hB,hG,hr,ha,hp,hc,hd,hn,hy,oq1,oq2,oq3⟩
          case ha8_12 =>
           simp only [Act.put,List.setIfInBounds_toArray,List.set_cons_zero,List.set_cons_succ,i64_w,i32_w]
           rfl
          case r8_12 =>
           refine lex_val (k:=9) (N:=some 105) (a':=?a9_12) (.agg #[.int .u8 a0,.int .u8 a1,.int .u32 a2,.int .u32 a3,.slice A4 l4.length c4,.slice A5 l5.length c5,.bool false,.int .u32 0,.int .u8 0,.int .u8 0,.int .u32 0,.slice none 0 0,.int .u32 a12]) #[true,true,true,true,true,true,true,true,true,true,false,false,false,false,false,false,false,false,false] rfl rfl (by kernel_rfl) (by rfl) ?h9_12 ?ha9_12 ?r9_12
           case h9_12 =>
            rintro s hs_ d w' hd ⟨hB,hG,hr,ha,hp,hc,hd,hn,hy,oq1,oq2,oq3⟩
            obtain ⟨qy0,qy1,qy2,qy3,qy4,qy5,qy6,qy7,qy8,qy9,qy10,qy11,qy12⟩:=cells13 (hy.trans By18.out)
            refine ⟨w',?_,?_⟩
            ·go_simp
             try with_reducible rfl
            ·exact ⟨hB,hG,hr,ha,hp,hc,hd,hn,hy,oq1,oq2,oq3⟩
           case ha9_12 =>
            simp only [Act.put,List.setIfInBounds_toArray,List.set_cons_zero,List.set_cons_succ,i64_w,i32_w]
            rfl
           case r9_12 =>
            refine lex_val (k:=10) (N:=some 106) (a':=?a10_12) (.agg #[.int .u8 a0,.int .u8 a1,.int .u32 a2,.int .u32 a3,.slice A4 l4.length c4,.slice A5 l5.length c5,.bool true,.int .u32 a7,.int .u8 a8,.int .u8 a9,.int .u32 a10,.slice A11 l11.length c11,.int .u32 a12]) #[true,true,true,true,true,true,true,true,true,true,true,false,false,false,false,false,false,false,false] rfl rfl (by kernel_rfl) (by rfl) ?h10_12 ?ha10_12 ?r10_12
            case h10_12 =>
             rintro s hs_ d w' hd ⟨hB,hG,hr,ha,hp,hc,hd,hn,hy,oq1,oq2,oq3⟩
             obtain ⟨qr0,qr1,qr2,qr3,qr4,qr5,qr6,qr7,qr8,qr9,qr10,qr11,qr12⟩:=cells13 (hr.trans Br18.out)
             refine ⟨w',?_,?_⟩
             ·go_simp
              try with_reducible rfl
             ·exact ⟨hB,hG,hr,ha,hp,hc,hd,hn,hy,oq1,oq2,oq3⟩
            case ha10_12 =>
             simp only [Act.put,List.setIfInBounds_toArray,List.set_cons_zero,List.set_cons_succ,i64_w,i32_w]
             rfl
            case r10_12 =>
             refine lex_call (k:=11) (N:=some 107) (a':=?a11_12) 22 #[.agg #[.int .u8 a0,.int .u8 a1,.int .u32 a2,.int .u32 a3,.slice A4 l4.length c4,.slice A5 l5.length c5,.bool true,.int .u32 a7,.int .u8 a8,.int .u8 a9,.int .u32 a10,.slice A11 l11.length c11,.int .u32 a12]] (.agg #[.int .u8 a0,.int .u8 a1,.int .u32 a2,.int .u32 a3,.slice A4 l4.length c4,.slice A5 l5.length c5,.bool false,.int .u32 0,.int .u8 0,.int .u8 0,.int .u32 0,.slice none 0 0,.int .u32 a12]) #[true,true,true,true,true,true,true,true,true,true,true,true,false,false,false,false,false,false,false] rfl rfl (by kernel_rfl) (by rfl) ?h111_12 ?h11_12 ?ha11_12 ?r11_12
             case h111_12=>intro w';go_simp
             case h11_12 =>
              rintro s hs_ d w' hd ⟨hB,hG,hr,ha,hp,hc,hd,hn,hy,oq1,oq2,oq3⟩
              refine (ref07_Off_is a0 a1 a2 a3 l4 l5 true a7 a8 a9 a10 l11 a12 A4 A5 A11 c4 c5 c11 w').mono ?_
              rintro e w2 ⟨rfl,hx⟩
              exact ⟨rfl,hB.trans (hx.mono hB.size),Nat.le_trans hG hx.size,keep_ hr Br18.out hx,keep_ ha Ba18.out hx,keep_ hp Bp18.out hx,keep_ hc Bc18.out hx,keep_ hd Bd18.out hx,keep_ hn Bn18.out hx,keep_ hy By18.out hx,oq1.below hx,oq2.below hx,oq3.below hx⟩
             case ha11_12 =>
              simp only [Act.put,List.setIfInBounds_toArray,List.set_cons_zero,List.set_cons_succ,i64_w,i32_w]
              rfl
             case r11_12 =>
              refine lex_call (k:=12) (N:=some 108) (a':=?a12_12) 12 #[.agg #[.int .u8 a0,.int .u8 a1,.int .u32 a2,.int .u32 a3,.slice A4 l4.length c4,.slice A5 l5.length c5,.bool false,.int .u32 0,.int .u8 0,.int .u8 0,.int .u32 0,.slice none 0 0,.int .u32 a12],.agg #[.int .u8 a0,.int .u8 a1,.int .u32 a2,.int .u32 a3,.slice A4 l4.length c4,.slice A5 l5.length c5,.bool false,.int .u32 0,.int .u8 0,.int .u8 0,.int .u32 0,.slice none 0 0,.int .u32 a12]] (.bool true) #[true,true,true,true,true,true,true,true,true,true,true,true,true,false,false,false,false,false,false] rfl rfl (by kernel_rfl) (by rfl) ?h112_12 ?h12_12 ?ha12_12 ?r12_12
              case h112_12=>intro w';go_simp
              case h12_12 =>
               rintro s hs_ d w' hd ⟨hB,hG,hr,ha,hp,hc,hd,hn,hy,oq1,oq2,oq3⟩
               refine (same5_walk 100000 a0 a1 a2 a3 l4 l5 false 0 0 0 0 [] a12 A4 A5 none A4 A5 none c4 c5 0 c4 c5 0 w' (Kd.C_below R4'.out hB) I4'.out (Kd.C_below R5'.out hB) I5'.out (none_C k67 _) (Nat.le_refl _) (Kd.C_below R4'.out hB) I4'.out (Kd.C_below R5'.out hB) I5'.out (none_C k67 _) (Nat.le_refl _) (HS1'.out l4 HL9'.out.1) (HS2'.out l5 HL9'.out.2) (HS1'.out [] (by simp))).mono ?_
               rintro e w2 ⟨rfl,hx⟩
               exact ⟨rfl,hB.trans (hx.mono hB.size),Nat.le_trans hG hx.size,keep_ hr Br18.out hx,keep_ ha Ba18.out hx,keep_ hp Bp18.out hx,keep_ hc Bc18.out hx,keep_ hd Bd18.out hx,keep_ hn Bn18.out hx,keep_ hy By18.out hx,oq1.below hx,oq2.below hx,oq3.below hx⟩
              case ha12_12 =>
               simp only [Act.put,List.setIfInBounds_toArray,List.set_cons_zero,List.set_cons_succ,i64_w,i32_w]
               rfl
              case r12_12 =>
               refine lex_val (k:=13) (N:=some 109) (a':=?a13_12) (.bool true) #[true,true,true,true,true,true,true,true,true,true,true,true,true,true,false,false,false,false,false] rfl rfl (by kernel_rfl) (by rfl) ?h13_12 ?ha13_12 ?r13_12
               case h13_12 =>
                rintro s hs_ d w' hd ⟨hB,hG,hr,ha,hp,hc,hd,hn,hy,oq1,oq2,oq3⟩
                refine ⟨w',?_,?_⟩
                ·go_simp
                 try with_reducible rfl
                ·exact ⟨hB,hG,hr,ha,hp,hc,hd,hn,hy,oq1,oq2,oq3⟩
               case ha13_12 =>
                simp only [Act.put,List.setIfInBounds_toArray,List.set_cons_zero,List.set_cons_succ,i64_w,i32_w]
                rfl
               case r13_12 =>
                refine lex_val (k:=14) (N:=some 110) (a':=?a14_12) (.bool true) #[true,true,true,true,true,true,true,true,true,true,true,true,true,true,true,false,false,false,false] rfl rfl (by kernel_rfl) (by rfl) ?h14_12 ?ha14_12 ?r14_12
                case h14_12 =>
                 rintro s hs_ d w' hd ⟨hB,hG,hr,ha,hp,hc,hd,hn,hy,oq1,oq2,oq3⟩
                 refine ⟨w',?_,?_⟩
                 ·go_simp
                  try with_reducible rfl
                 ·exact ⟨hB,hG,hr,ha,hp,hc,hd,hn,hy,oq1,oq2,oq3⟩
                case ha14_12 =>
                 simp only [Act.put,List.setIfInBounds_toArray,List.set_cons_zero,List.set_cons_succ,i64_w,i32_w]
                 rfl
                case r14_12 =>
                 refine lex_val (k:=15) (N:=some 111) (a':=?a15_12) (.agg #[.int .u8 a0,.int .u8 a1,.int .u32 a2,.int .u32 a3,.slice A4 l4.length c4,.slice A5 l5.length c5,.bool false,.int .u32 0,.int .u8 0,.int .u8 0,.int .u32 0,.slice none 0 0,.int .u32 a12]) #[true,true,true,true,true,true,true,true,true,true,true,true,true,true,true,true,false,false,false] rfl rfl (by kernel_rfl) (by rfl) ?h15_12 ?ha15_12 ?r15_12
                 case h15_12 =>
                  rintro s hs_ d w' hd ⟨hB,hG,hr,ha,hp,hc,hd,hn,hy,oq1,oq2,oq3⟩
                  obtain ⟨qy0,qy1,qy2,qy3,qy4,qy5,qy6,qy7,qy8,qy9,qy10,qy11,qy12⟩:=cells13 (hy.trans By18.out)
                  refine ⟨w',?_,?_⟩
                  ·go_simp
                   try with_reducible rfl
                  ·exact ⟨hB,hG,hr,ha,hp,hc,hd,hn,hy,oq1,oq2,oq3⟩
                 case ha15_12 =>
                  simp only [Act.put,List.setIfInBounds_toArray,List.set_cons_zero,List.set_cons_succ,i64_w,i32_w]
                  rfl
                 case r15_12 =>
                  refine lex_call (k:=16) (N:=some 112) (a':=?a16_12) 17 #[.agg #[.int .u8 a0,.int .u8 a1,.int .u32 a2,.int .u32 a3,.slice A4 l4.length c4,.slice A5 l5.length c5,.bool false,.int .u32 0,.int .u8 0,.int .u8 0,.int .u32 0,.slice none 0 0,.int .u32 a12]] (.bool true) #[true,true,true,true,true,true,true,true,true,true,true,true,true,true,true,true,true,false,false] rfl rfl (by kernel_rfl) (by rfl) ?h116_12 ?h16_12 ?ha16_12 ?r16_12
                  case h116_12=>intro w';go_simp
                  case h16_12 =>
                   rintro s hs_ d w' hd ⟨hB,hG,hr,ha,hp,hc,hd,hn,hy,oq1,oq2,oq3⟩
                   refine (replica_Right.calls 100000 a0 a1 a2 a3 A4 c4 l4 A5 c5 l5 false 0 0 0 0 none 0 [] a12 true w' (Kd.C_below R4'.out hB) I4'.out (Kd.C_below R5'.out hB) I5'.out (none_C k67 _) (Nat.le_refl _) HRX'.out).mono ?_
                   rintro e w2 ⟨rfl,hx⟩
                   exact ⟨rfl,hB.trans (hx.mono hB.size),Nat.le_trans hG hx.size,keep_ hr Br18.out hx,keep_ ha Ba18.out hx,keep_ hp Bp18.out hx,keep_ hc Bc18.out hx,keep_ hd Bd18.out hx,keep_ hn Bn18.out hx,keep_ hy By18.out hx,oq1.below hx,oq2.below hx,oq3.below hx⟩
                  case ha16_12 =>
                   simp only [Act.put,List.setIfInBounds_toArray,List.set_cons_zero,List.set_cons_succ,i64_w,i32_w]
                   rfl
                  case r16_12 =>
                   refine lex_val (k:=17) (N:=some 113) (a':=?a17_12) (.bool true) #[true,true,true,true,true,true,true,true,true,true,true,true,true,true,true,true,true,true,false] rfl rfl (by kernel_rfl) (by rfl) ?h17_12 ?ha17_12 ?r17_12
                   case h17_12 =>
                    rintro s hs_ d w' hd ⟨hB,hG,hr,ha,hp,hc,hd,hn,hy,oq1,oq2,oq3⟩
                    refine ⟨w',?_,?_⟩
                    ·go_simp
                     try with_reducible rfl
                    ·exact ⟨hB,hG,hr,ha,hp,hc,hd,hn,hy,oq1,oq2,oq3⟩
                   case ha17_12 =>
                    simp only [Act.put,List.setIfInBounds_toArray,List.set_cons_zero,List.set_cons_succ,i64_w,i32_w]
                    rfl
                   case r17_12 =>
                    refine lex_val (k:=18) (N:=some 4) (a':=?a18_12) (.bool true) #[true,true,true,true,true,true,true,true,true,true,true,true,true,true,true,true,true,true,true] rfl rfl (by kernel_rfl) (by rfl) ?h18_12 ?ha18_12 ?r18_12
                    case h18_12 =>
                     rintro s hs_ d w' hd ⟨hB,hG,hr,ha,hp,hc,hd,hn,hy,oq1,oq2,oq3⟩
                     refine ⟨w',?_,?_⟩
                     ·go_simp
                      try with_reducible rfl
                     ·exact ⟨hB,hG,hr,ha,hp,hc,hd,hn,hy,oq1,oq2,oq3⟩
                    case ha18_12 =>
                     simp only [Act.put,List.setIfInBounds_toArray,List.set_cons_zero,List.set_cons_succ,i64_w,i32_w]
                     rfl
                    case r18_12 =>
                     refine lex_done (by kernel_rfl) ?_
                     rintro w19 ⟨_,hB,hG,hr,ha,hp,hc,hd,hn,hy,oq1,oq2,oq3⟩
                     have Br19:=Aside0.mk (hr.trans Br18.out)
                     have Ba19:=Aside0.mk (ha.trans Ba18.out)
                     have Bp19:=Aside0.mk (hp.trans Bp18.out)
                     have Bc19:=Aside0.mk (hc.trans Bc18.out)
                     have Bd19:=Aside0.mk (hd.trans Bd18.out)
                     have Bn19:=Aside0.mk (hn.trans Bn18.out)
                     have By19:=Aside0.mk (hy.trans By18.out)
                     have HB19:=Aside0.mk hB
                     have HG19:=Aside0.mk hG
                     have Oq119:=Aside0.mk oq1
                     have Oq219:=Aside0.mk oq2
                     have Oq319:=Aside0.mk oq3
                     clear hB hG hr ha hp hc hd hn hy oq1 oq2 oq3 HB18 HG18 Br18 Ba18 Bp18 Bc18 Bd18 Bn18 By18 Oq118 Oq218 Oq318
                     go_wp2_with fail
                     go_ret
                     exact ⟨rfl,HB19.out⟩
 | false =>
  refine (Again_no 100000 a0 a1 a2 a3 l4 l5 false a7 a8 a9 a10 l11 a12 A4 A5 A11 c4 c5 c11 _  (Kd.C_below R4'.out HB11.out) I4'.out (Kd.C_below R5'.out HB11.out) I5'.out (Kd.C_below R11'.out HB11.out) I11'.out 8 (show target_on.f 100000 a0 a1 a2 a3 l4 l5 false a7 a8 a9 a10 l11 a12 = some (some 8) by unfold target_on.f;rw [HR'.out];rfl)).mono ?_
  rintro ev w12 ⟨Y0,y0,Y1,y1,Y2,y2,rfl,q1,q2,q3,hx⟩
  have Br12:=Aside0.mk (blk_below Br11.out hx)
  have Ba12:=Aside0.mk (blk_below Ba11.out hx)
  have Bp12:=Aside0.mk (blk_below Bp11.out hx)
  have Bc12:=Aside0.mk (blk_below Bc11.out hx)
  have Bd12:=Aside0.mk (blk_below Bd11.out hx)
  have HB12:=Aside0.mk (below_step HB11.out hx)
  have Oq112:=Aside0.mk q1
  clear q1
  have Oq212:=Aside0.mk q2
  clear q2
  have Oq312:=Aside0.mk q3
  clear q3
  have HG12:=Aside0.mk (Nat.le_trans HG11.out hx.size)
  clear r_0 r_1 r_2 r_3 r_4 r_5 r_6 r_7 r_8 r_9 r_10 r_11 r_12
  clear hx HB11 HG11 Br11 Ba11 Bp11 Bc11 Bd11
  obtain ⟨r13q_0,r13q_1,r13q_2,r13q_3,r13q_4,r13q_5,r13q_6,r13q_7,r13q_8,r13q_9,r13q_10,r13q_11,r13q_12⟩:=cells13 (blk_alloc (Br12.out) (.cells #[.int .i64 0,.int .u8 0,.int .u8 0,.int .u32 0,.int .u8 0,.int .u8 0,.slice Y0 0 y0,.int .u32 0,.slice Y1 0 y1,.int .u8 0,.bool false,.slice Y2 0 y2] 30))
  go_wp2_with fail
  clear r13q_0 r13q_1 r13q_2 r13q_3 r13q_4 r13q_5 r13q_6 r13q_7 r13q_8 r13q_9 r13q_10 r13q_11 r13q_12
  generalize hW : World.alloc w12 _ = w13
  have Br13:=Aside0.mk (blk_below Br12.out (al1B hW))
  have Ba13:=Aside0.mk (blk_below Ba12.out (al1B hW))
  have Bp13:=Aside0.mk (blk_below Bp12.out (al1B hW))
  have Bc13:=Aside0.mk (blk_below Bc12.out (al1B hW))
  have Bd13:=Aside0.mk (blk_below Bd12.out (al1B hW))
  have Bn13:=Aside0.mk (al1_0 hW)
  have HB13:=Aside0.mk (below_step HB12.out (al1B hW))
  have HG13:=Aside0.mk (Nat.le_trans HG12.out (al1B hW).size)
  have Oq113:=Aside0.mk (Oq112.out.below (al1B hW))
  have Oq213:=Aside0.mk (Oq212.out.below (al1B hW))
  have Oq313:=Aside0.mk (Oq312.out.below (al1B hW))
  clear hW HB12 HG12 Br12 Ba12 Bp12 Bc12 Bd12 Oq112 Oq212 Oq312
  refine (Quit_no 100000 a0 a1 a2 a3 l4 l5 false a7 a8 a9 a10 l11 a12 A4 A5 A11 c4 c5 c11 _  (Kd.C_below R4'.out HB13.out) I4'.out (Kd.C_below R5'.out HB13.out) I5'.out (Kd.C_below R11'.out HB13.out) I11'.out 8 (show target_on.f 100000 a0 a1 a2 a3 l4 l5 false a7 a8 a9 a10 l11 a12 = some (some 8) by unfold target_on.f;rw [HR'.out];rfl)).mono ?_
  rintro ev w14 ⟨rfl,hx⟩
  have Br14:=Aside0.mk (blk_below Br13.out hx)
  have Ba14:=Aside0.mk (blk_below Ba13.out hx)
  have Bp14:=Aside0.mk (blk_below Bp13.out hx)
  have Bc14:=Aside0.mk (blk_below Bc13.out hx)
  have Bd14:=Aside0.mk (blk_below Bd13.out hx)
  have Bn14:=Aside0.mk (blk_below Bn13.out hx)
  have HB14:=Aside0.mk (below_step HB13.out hx)
  have Oq114:=Aside0.mk (Oq113.out.below hx)
  have Oq214:=Aside0.mk (Oq213.out.below hx)
  have Oq314:=Aside0.mk (Oq313.out.below hx)
  have HG14:=Aside0.mk (Nat.le_trans HG13.out hx.size)
  clear hx HB13 HG13 Br13 Ba13 Bp13 Bc13 Bd13 Bn13 Oq113 Oq213 Oq313
  obtain ⟨r15q_0,r15q_1,r15q_2,r15q_3,r15q_4,r15q_5,r15q_6,r15q_7,r15q_8,r15q_9,r15q_10,r15q_11,r15q_12⟩:=cells13 (blk_alloc (Br14.out) (.cells #[.int .u8 0,.int .u8 0,.int .u32 0,.int .u32 0,.slice none 0 0,.slice none 0 0,.bool false,.int .u32 0,.int .u8 0,.int .u8 0,.int .u32 0,.slice none 0 0,.int .u32 0] 28))
  go_wp2_with fail
  clear r15q_0 r15q_1 r15q_2 r15q_3 r15q_4 r15q_5 r15q_6 r15q_7 r15q_8 r15q_9 r15q_10 r15q_11 r15q_12
  generalize hW : World.alloc w14 _ = w15
  have Br15:=Aside0.mk (blk_below Br14.out (al1B hW))
  have Ba15:=Aside0.mk (blk_below Ba14.out (al1B hW))
  have Bp15:=Aside0.mk (blk_below Bp14.out (al1B hW))
  have Bc15:=Aside0.mk (blk_below Bc14.out (al1B hW))
  have Bd15:=Aside0.mk (blk_below Bd14.out (al1B hW))
  have Bn15:=Aside0.mk (blk_below Bn14.out (al1B hW))
  have By15:=Aside0.mk (al1_0 hW)
  have HB15:=Aside0.mk (below_step HB14.out (al1B hW))
  have HG15:=Aside0.mk (Nat.le_trans HG14.out (al1B hW).size)
  have Oq115:=Aside0.mk (Oq114.out.below (al1B hW))
  have Oq215:=Aside0.mk (Oq214.out.below (al1B hW))
  have Oq315:=Aside0.mk (Oq314.out.below (al1B hW))
  clear hW HB14 HG14 Br14 Ba14 Bp14 Bc14 Bd14 Bn14 Oq114 Oq214 Oq314
  refine (tidingsref07_On.calls 100000 a0 a1 a2 a3 _ _ l4 _ _ l5 false a7 a8 a9 a10 _ _ l11 a12 8 _ (Kd.C_below R4'.out HB15.out) I4'.out (Kd.C_below R5'.out HB15.out) I5'.out (Kd.C_below R11'.out HB15.out) I11'.out (show tidingsref07_On.f 100000 a0 a1 a2 a3 l4 l5 false a7 a8 a9 a10 l11 a12 = some 8 by unfold tidingsref07_On.f;rw [HQ'.out];rfl)).mono ?_
  rintro ev w16 ⟨rfl,hx⟩
  have Br16:=Aside0.mk (blk_below Br15.out hx)
  have Ba16:=Aside0.mk (blk_below Ba15.out hx)
  have Bp16:=Aside0.mk (blk_below Bp15.out hx)
  have Bc16:=Aside0.mk (blk_below Bc15.out hx)
  have Bd16:=Aside0.mk (blk_below Bd15.out hx)
  have Bn16:=Aside0.mk (blk_below Bn15.out hx)
  have By16:=Aside0.mk (blk_below By15.out hx)
  have HB16:=Aside0.mk (below_step HB15.out hx)
  have Oq116:=Aside0.mk (Oq115.out.below hx)
  have Oq216:=Aside0.mk (Oq215.out.below hx)
  have Oq316:=Aside0.mk (Oq315.out.below hx)
  have HG16:=Aside0.mk (Nat.le_trans HG15.out hx.size)
  clear hx HB15 HG15 Br15 Ba15 Bp15 Bc15 Bd15 Bn15 By15 Oq115 Oq215 Oq315
  go_wp2_with fail
  have hce : codeOf (some 8) = 8:=rfl
  refine (Code_calls (some 8) _ (HG'.out.below HB16.out)).mono ?_
  rintro ev w17 ⟨rfl,hx⟩
  have Br17:=Aside0.mk (blk_below Br16.out hx)
  have Ba17:=Aside0.mk (blk_below Ba16.out hx)
  have Bp17:=Aside0.mk (blk_below Bp16.out hx)
  have Bc17:=Aside0.mk (blk_below Bc16.out hx)
  have Bd17:=Aside0.mk (blk_below Bd16.out hx)
  have Bn17:=Aside0.mk (blk_below Bn16.out hx)
  have By17:=Aside0.mk (blk_below By16.out hx)
  have HB17:=Aside0.mk (below_step HB16.out hx)
  have Oq117:=Aside0.mk (Oq116.out.below hx)
  have Oq217:=Aside0.mk (Oq216.out.below hx)
  have Oq317:=Aside0.mk (Oq316.out.below hx)
  have HG17:=Aside0.mk (Nat.le_trans HG16.out hx.size)
  clear hx HB16 HG16 Br16 Ba16 Bp16 Bc16 Bd16 Bn16 By16 Oq116 Oq216 Oq316
  go_wp2_with fail
  refine (Code_calls (some 8) _ (HG'.out.below HB17.out)).mono ?_
  rintro ev w18 ⟨rfl,hx⟩
  have Br18:=Aside0.mk (blk_below Br17.out hx)
  have Ba18:=Aside0.mk (blk_below Ba17.out hx)
  have Bp18:=Aside0.mk (blk_below Bp17.out hx)
  have Bc18:=Aside0.mk (blk_below Bc17.out hx)
  have Bd18:=Aside0.mk (blk_below Bd17.out hx)
  have Bn18:=Aside0.mk (blk_below Bn17.out hx)
  have By18:=Aside0.mk (blk_below By17.out hx)
  have HB18:=Aside0.mk (below_step HB17.out hx)
  have Oq118:=Aside0.mk (Oq117.out.below hx)
  have Oq218:=Aside0.mk (Oq217.out.below hx)
  have Oq318:=Aside0.mk (Oq317.out.below hx)
  have HG18:=Aside0.mk (Nat.le_trans HG17.out hx.size)
  clear hx HB17 HG17 Br17 Ba17 Bp17 Bc17 Bd17 Bn17 By17 Oq117 Oq217 Oq317
  obtain ⟨n_0,n_1,n_2,n_3,n_4,n_5,n_6,n_7,n_8,n_9,n_10,n_11⟩:=cells12 Bn18.out
  obtain ⟨y_0,y_1,y_2,y_3,y_4,y_5,y_6,y_7,y_8,y_9,y_10,y_11,y_12⟩:=cells13 By18.out
  go_wp2_with fail
  refine (same5_walk 100000 0 0 0 0 [] [] false 0 0 0 0 [] 0 none none none none none none 0 0 0 0 0 0 _ (none_C k67 _) (Nat.le_refl _) (none_C k62 _) (Nat.le_refl _) (none_C k67 _) (Nat.le_refl _) (none_C k67 _) (Nat.le_refl _) (none_C k62 _) (Nat.le_refl _) (none_C k67 _) (Nat.le_refl _) (HS1'.out [] (by simp)) (HS2'.out [] (by simp)) (HS1'.out [] (by simp))).mono ?_
  rintro ev w19 ⟨rfl,hx⟩
  have Br19:=Aside0.mk (blk_below Br18.out hx)
  have Ba19:=Aside0.mk (blk_below Ba18.out hx)
  have Bp19:=Aside0.mk (blk_below Bp18.out hx)
  have Bc19:=Aside0.mk (blk_below Bc18.out hx)
  have Bd19:=Aside0.mk (blk_below Bd18.out hx)
  have Bn19:=Aside0.mk (blk_below Bn18.out hx)
  have By19:=Aside0.mk (blk_below By18.out hx)
  have HB19:=Aside0.mk (below_step HB18.out hx)
  have Oq119:=Aside0.mk (Oq118.out.below hx)
  have Oq219:=Aside0.mk (Oq218.out.below hx)
  have Oq319:=Aside0.mk (Oq318.out.below hx)
  have HG19:=Aside0.mk (Nat.le_trans HG18.out hx.size)
  clear n_0 n_1 n_2 n_3 n_4 n_5 n_6 n_7 n_8 n_9 n_10 n_11 y_0 y_1 y_2 y_3 y_4 y_5 y_6 y_7 y_8 y_9 y_10 y_11 y_12
  clear hx HB18 HG18 Br18 Ba18 Bp18 Bc18 Bd18 Bn18 By18 Oq118 Oq218 Oq318
  go_wp2_with fail
  go_ret
  exact ⟨rfl,HB19.out⟩
end Go.Proofs.YtiminjibcafkaaaGreatDoor.X
