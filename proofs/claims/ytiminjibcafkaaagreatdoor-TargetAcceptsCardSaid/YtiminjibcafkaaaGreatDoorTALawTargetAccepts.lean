/- The law tidingslaw07.TargetAccepts returns true at every input, and its arguments read behind the call as they read before: the row. -/
import Derived.Test.YtiminjibcafkaaaGreatDoorTAJ43
import Derived.Test.YtiminjibcafkaaaGreatDoorTAXtacc
import Derived.Test.YtiminjibcafkaaaGreatDoorTAXrefacc
import Derived.Test.YtiminjibcafkaaaGreatDoorTAJ47
import Derived.Test.YtiminjibcafkaaaGreatDoorCards
import Derived.Test.YtiminjibcafkaaaGreatDoorTie
import Derived.Test.YtiminjibcafkaaaGreatDoorTAXop
import Derived.WalkKit
import Derived.ProofKit
import Derived.OpenShut
import Derived.ShutString
import Derived.ChangeOld
import Derived.Below
import Derived.Carry
import Derived.SizedLaws
import Derived.ChangeAt
import Derived.WideShapes
import Derived.RowKit
import Derived.LaidLaws
import Derived.LaidHandle
import Derived.Deep.DeepHandedRow
import Derived.SevenTiedAt
set_option linter.unusedSimpArgs false
set_option linter.unusedVariables false
section
namespace Go.Proofs.YtiminjibcafkaaaGreatDoor.X
open RowKit YtiminjibcafkaaaGreatDoorW.PrintWords YtiminjibcafkaaaGreatDoorW.PrintLast YtiminjibcafkaaaGreatDoorW.PrintMore
theorem On.of_C {α : Type} {d : Kd α} {w : World} {A : Option Addr} {c : Nat} {l : List α} (h : d.C w A l.length l) (hc : l.length ≤ c) : On d w (fun _=>True) A c l:=⟨hc,h,fun _ _ _=>trivial⟩
theorem codeOf_pos (c : Int) (h : 0 < c) : codeOf (some c) = c:=by
 show (if c > 0 then c else -1) = c;exact if_pos h
set_option maxHeartbeats 4000000 in
theorem TargetAccepts_law (w : World) (x0 : S28) (x1 : S30) (o0 : Ok_Replica x0) (o1 : Ok_Note x1) (hg : GT w) {A4 A5 A11 M6 M8 M11 : Option Addr} {c4 c5 c11 d6 d8 d11 : Nat} (r4 : Kd.C k67 w A4 x0.f4.length x0.f4) (i4 : x0.f4.length ≤ c4) (r5 : Kd.C k62 w A5 x0.f5.length x0.f5) (i5 : x0.f5.length ≤ c5) (r11 : Kd.C k67 w A11 x0.f6.f5.length x0.f6.f5) (i11 : x0.f6.f5.length ≤ c11)
 (s6 : Kd.C k67 w M6 x1.f6.length x1.f6) (j6 : x1.f6.length ≤ d6) (s8 : Kd.C k62 w M8 x1.f8.length x1.f8) (j8 : x1.f8.length ≤ d8) (s11 : Kd.C k67 w M11 x1.f11.length x1.f11) (j11 : x1.f11.length ≤ d11) :
 Calls Tryz.prog 3 #[.agg #[.int .u8 x0.f0,.int .u8 x0.f1,.int .u32 x0.f2,.int .u32 x0.f3,.slice A4 x0.f4.length c4,.slice A5 x0.f5.length c5,.bool x0.f6.f0,.int .u32 x0.f6.f1,.int .u8 x0.f6.f2,.int .u8 x0.f6.f3,.int .u32 x0.f6.f4,.slice A11 x0.f6.f5.length c11,.int .u32 x0.f6.f6],.agg #[.int .i64 x1.f0,.int .u8 x1.f1,.int .u8 x1.f2,.int .u32 x1.f3,.int .u8 x1.f4,.int .u8 x1.f5,.slice M6 x1.f6.length d6,.int .u32 x1.f7,.slice M8 x1.f8.length d8,.int .u8 x1.f9,.bool x1.f10,.slice M11 x1.f11.length d11]] w fun e w'=>e = .returned (.bool true) ∧ Below w.heap.size w w':=by
 obtain ⟨p0,p1,p2,p3,p4,p5,q0,q1,q2,q3,q4,q5,q6⟩:=o0;obtain ⟨t0,t1,t2,t3,t4,t5,t6,t7,t8,t9,t10,t11⟩:=o1;obtain ⟨a0,a1,a2,a3,l4,l5,⟨a6,a7,a8,a9,a10,l11,a12⟩⟩:=x0;obtain ⟨b0,b1,b2,b3,b4,b5,m6,b7,m8,b9,b10,m11⟩:=x1;dsimp only at *;have o4:=On.of_C r4 i4;have o5:=On.of_C r5 i5;have o11:=On.of_C r11 i11;have o6:=On.of_C s6 j6;have o8:=On.of_C s8 j8;have o12:=On.of_C s11 j11;have e5 : tidingsref05_Short.f a0 a1 a2 a3 l4 l5 a6 a7 a8 a9 a10 l11 a12 = some (decide (l4.length ≤ 300) && (decide (l5.length ≤ 300) && decide (l11.length ≤ 300))):=by
  unfold tidingsref05_Short.f;by_cases h1 : l4.length ≤ 300
  ·rw [if_pos (by omega),zE h1];by_cases h2 : l5.length ≤ 300
   ·rw [if_pos (by omega),zE h2,Bool.true_and,Bool.true_and];exact congrArg some (decide_eq_decide.2 (by omega))
   ·rw [if_neg (by omega),zF h2];rfl
  ·rw [if_neg (by omega),zF h1];rfl
 have e4 : tidingsref04_Short.f b0 b1 b2 b3 b4 b5 m6 b7 m8 b9 b10 m11 = some (decide (m6.length ≤ 300) && (decide (m8.length ≤ 300) && decide (m11.length ≤ 300))):=by
  unfold tidingsref04_Short.f;by_cases h1 : m6.length ≤ 300
  ·rw [if_pos (by omega),zE h1];by_cases h2 : m8.length ≤ 300
   ·rw [if_pos (by omega),zE h2,Bool.true_and,Bool.true_and];exact congrArg some (decide_eq_decide.2 (by omega))
   ·rw [if_neg (by omega),zF h2];rfl
  ·rw [if_neg (by omega),zF h1];rfl
 cases f5 : (decide (l4.length ≤ 300) && (decide (l5.length ≤ 300) && decide (l11.length ≤ 300))) with
 | false =>
  rw [f5] at e5;exact TA_short a0 a1 a2 a3 l4 l5 a6 a7 a8 a9 a10 l11 a12 A4 A5 A11 c4 c5 c11 b0 b1 b2 b3 b4 b5 m6 b7 m8 b9 b10 m11 M6 M8 M11 d6 d8 d11 w _ o4 o5 o11 o6 o8 o12 hg false false e5 (fun h=>by cases h)
 | true =>
 rw [f5] at e5;cases f4 : (decide (m6.length ≤ 300) && (decide (m8.length ≤ 300) && decide (m11.length ≤ 300))) with
 | false =>
  rw [f4] at e4;exact TA_short a0 a1 a2 a3 l4 l5 a6 a7 a8 a9 a10 l11 a12 A4 A5 A11 c4 c5 c11 b0 b1 b2 b3 b4 b5 m6 b7 m8 b9 b10 m11 M6 M8 M11 d6 d8 d11 w _ o4 o5 o11 o6 o8 o12 hg true false e5 (fun _=>⟨e4,rfl⟩)
 | true =>
 rw [f4] at e4;simp only [zZ,yH] at f5 f4;obtain ⟨h4,h5,h11⟩:=f5;obtain ⟨g6,g8,g11⟩:=f4;have hs1 : ∀ l : List S67,l.length ≤ 900 → tidingsref01_Same.f 100000 l l = some true:=fun l hl=>Same01_is l (by omega) 100000 (by omega)
 have hs2 : ∀ l : List S62,l.length ≤ 900 → tidingsref02_Same.f 100000 l l = some true:=fun l hl=>Same02_is l (by omega) 100000 (by omega)
 obtain ⟨res,hT,hR,hO⟩:=acc_same 100000 a0 a1 a2 a3 l4 l5 a6 a7 a8 a9 a10 l11 a12 b0 b1 b2 b3 b4 b5 m6 b7 m8 b9 b10 m11 (by omega) h4 h5 h11 g6 g8 g11 p4 p5 q5 t6 t8 t11 p1 q1.1 q3.1 t3.1 t4.1 t9;have cT:=fun (W : World) (hb : Below w.heap.size w W)=>tAcc_calls 100000 a0 a1 a2 a3 l4 l5 a6 a7 a8 a9 a10 l11 a12 A4 A5 A11 c4 c5 c11 b0 b1 b2 b3 b4 b5 m6 b7 m8 b9 b10 m11 M6 M8 M11 d6 d8 d11 W _ (o4.below hb) (o5.below hb) (o11.below hb) (o6.below hb) (o8.below hb) (o12.below hb) (fun _ _=>trivial) (by omega) res hT
 have cR:=fun (W : World) (hb : Below w.heap.size w W)=>refAcc_calls 100000 a0 a1 a2 a3 l4 l5 a6 a7 a8 a9 a10 l11 a12 A4 A5 A11 c4 c5 c11 b0 b1 b2 b3 b4 b5 m6 b7 m8 b9 b10 m11 M6 M8 M11 d6 d8 d11 W _ (o4.below hb) (o5.below hb) (o11.below hb) (o6.below hb) (o8.below hb) (o12.below hb) (fun _ _=>trivial) res hR
 have TA:=TA_walk a0 a1 a2 a3 l4 l5 a6 a7 a8 a9 a10 l11 a12 A4 A5 A11 c4 c5 c11 b0 b1 b2 b3 b4 b5 m6 b7 m8 b9 b10 m11 M6 M8 M11 d6 d8 d11 w _ o4 o5 o11 o6 o8 o12 hg e5 e4;cases res with
 | zero c=>exact TA 0 0 0 0 [] [] false 0 0 0 0 [] 0 0 0 0 0 0 0 [] false (some c) c (codeOf_pos c hO) cT cR (by simp) (by simp) (by simp) (by simp) hs1 hs2
 | off=>exact TA a0 a1 a2 a3 l4 l5 false 0 0 0 0 [] a12 0 0 0 0 0 0 [] false (some 10) 10 rfl cT cR (by omega) (by omega) (by simp) (by simp) hs1 hs2
 | done u hd=>exact TA a0 a1 a2 a3 u hd false 0 0 0 0 [] a12 0 0 0 0 0 0 [] false none 0 rfl cT cR hO.1 hO.2 (by simp) (by simp) hs1 hs2
 | more kn hd=>exact TA a0 a1 a2 a3 kn hd a6 a7 a8 b9 (if b4 = 0 then b7 else a10) (if b4 = 0 then m11 else l11) a12 1 a0 a8 a7 b9 a1 kn true none 0 rfl cT cR hO.1 hO.2 (by split<;>omega) hO.1 hs1 hs2
end Go.Proofs.YtiminjibcafkaaaGreatDoor.X
end
namespace Go.Proofs.YtiminjibcafkaaaGreatDoor.targetAccepts
open Go Go.ChangeShapes Go.WideShapes Go.ChangeAt Go.RowKit Go.Proofs.YtiminjibcafkaaaGreatDoor.X Go.Proofs.YtiminjibcafkaaaGreatDoorW.PrintWords Go.Proofs.YtiminjibcafkaaaGreatDoorW.PrintLast Go.Proofs.YtiminjibcafkaaaGreatDoorW.PrintMore
theorem own : ownKnob Tryz.prog.godebug = none:=by kernel_rfl
theorem laidOut : laidOutB Tryz.prog = true:=by kernel_rfl
theorem et : Tryz.prog.globalNamed "errors.errorType" = some 0:=by kernel_rfl
theorem rt : (Tryz.prog.cutTypes.find? (·.1 == "internal/reflectlite.rtype")).map (·.2) = some 145:=by kernel_rfl
theorem oneRow : ((List.range 214).filter fun t=>Tryz.prog.rowNamed t [101,114,114,111,114]) = [35]:=by kernel_rfl
theorem nTypes : Tryz.prog.types.size = 214:=by kernel_rfl
theorem handle_of_laid {W : World} (h : laidMetH Tryz.prog Rows.targetAcceptsRow.laid W) : GT W:=by
 have h' : laidMet Tryz.prog [] W ∧ handlesMet Tryz.prog Rows.targetAcceptsRow.laid W:=h;obtain ⟨name,u,ty,e1,e2,e3,e4,e5⟩:=h'.2 _ (List.mem_singleton.2 rfl);have en : name = [101,114,114,111,114]:=(zH e1).symm;subst en;obtain rfl:=zH (rt.symm.trans e2);have hm : ty ∈ (List.range 214).filter fun t=>Tryz.prog.rowNamed t [101,114,114,111,114]:=List.mem_filter.2 ⟨List.mem_range.2 (by rw [← nTypes];exact e3),e4⟩
 rw [oneRow] at hm;obtain rfl:=List.mem_singleton.1 hm;have hh : typeHandle Tryz.prog 35 = .pointer (some ⟨1,35,none⟩):=by kernel_rfl
 rw [hh] at e5;unfold GT;simpa using World.var?_cell et e5 0
noncomputable def laidWorld (os : Os) : World :=
 let w0:=World.holding Tryz.prog os ⟨#[],#[],[]⟩
 { w0 with heap:=w0.heap.modify 0 fun
  | .cells _ t frozen=>.cells #[.iface 145 (.agg #[.pointer (some ⟨1,35,none⟩)])] t frozen
  | o=>o }
theorem laid_met (os : Os) (args : Array Value) : laidMetH Tryz.prog Rows.targetAcceptsRow.laid ((laidWorld os).forCall (fun _ _=>0) ⟨#[],args,[]⟩).memory :=
 laidMetH_of_parts (laidMet_nil _ _) (by kernel_rfl)
set_option maxRecDepth 100000 in
theorem lifted (os : Os) (started : os.Started) (H : Type) (enc : TypeId × Value → H) (F : Stop.Interp) :
 ReturnsInHanded {} Tryz.checked os 3 .any ((OpenSpec.ofChange Rows.targetAcceptsSpec).preRow enc Tryz.prog Tryz.f3 Rows.targetAcceptsRow.domain false Rows.targetAcceptsRow.laid) (((OpenSpec.ofChange Rows.targetAcceptsSpec).at F).post enc Tryz.prog Tryz.f3 false true false false):=by
 refine returnsInHanded_of_row (C:=Tryz.checked) (s:=OpenSpec.ofChange Rows.targetAcceptsSpec) own started (by kernel_rfl) Tryz.func3
  (witness_row_at (enc:=enc) (C:=Tryz.checked) false (laidWorld os) #[.agg #[.int .u8 0,.int .u8 0,.int .u32 0,.int .u32 0,.slice none 0 0,.slice none 0 0,.bool false,.int .u32 0,.int .u8 0,.int .u8 0,.int .u32 0,.slice none 0 0,.int .u32 0],.agg #[.int .i64 0,.int .u8 0,.int .u8 0,.int .u32 0,.int .u8 0,.int .u8 0,.slice none 0 0,.int .u32 0,.slice none 0 0,.int .u8 0,.bool false,.slice none 0 0]] rfl (by kernel_rfl) (by kernel_rfl) (by kernel_rfl)
   ⟨⟨ChangeSpec.pre_of_preB (fuel:=8) (by kernel_rfl),laid_met os _⟩,sizedMet_of_sizedB (fuel:=8) (by kernel_rfl)⟩) ?_
 intro W base args ds gs before hval0 hW hcnd hkc hsz0 hL hso _;have hval : ∀ (j : Nat) t v,Tryz.f3.params[j]? = some t → args[j]? = some v → Value.okWide Tryz.prog W .any base t v:=hval0;have hW':=hW;obtain ⟨p,q,hA0,hV,rfl,hfz,hnd⟩:=hW;have hA : DataW.TrodAll enc Tryz.prog W 0 (fun _=>true) true Tryz.f3.params.toList args.toList ds p:=hA0;rw [Tryz.params3] at hA hval;obtain ⟨v0,vs0,d0,ds0,p0,q0,hargs,rfl,rfl,h0,r0⟩:=trodAll_cons hA;obtain ⟨v1,vs1,d1,ds1,p1,q1,rfl,rfl,rfl,h1,r1⟩:=trodAll_cons r0;obtain ⟨rfl,rfl,rfl⟩:=trodAll_nil r1;obtain rfl : args = #[v0,v1]:=by cases args;simp_all
 obtain ⟨rfl,rfl⟩:=trodVars_none hV;have k0:=h0;have lt0 : ∀ x ∈ p0,x.block < W.heap.size:=by obtain ⟨m,hm⟩:=k0;exact DataW.trod_lt m _ _ _ hm
 obtain ⟨cs0,rfl,_⟩:=okWide_struct Tryz.underlying28 (hval 0 28 v0 rfl rfl);obtain ⟨fuel0,hf0⟩:=h0;obtain ⟨x0,e0,o0⟩:=op_Replica hf0;obtain ⟨A0_4,p0_4,A0_5,p0_5,A0_11,p0_11,e0,l0_4,g0_4,l0_5,g0_5,l0_11,g0_11⟩:=k28_open e0;obtain rfl : cs0 = #[Value.int .u8 x0.f0,Value.int .u8 x0.f1,Value.int .u32 x0.f2,Value.int .u32 x0.f3,Value.slice A0_4 x0.f4.length p0_4,Value.slice A0_5 x0.f5.length p0_5,Value.bool x0.f6.f0,Value.int .u32 x0.f6.f1,Value.int .u8 x0.f6.f2,Value.int .u8 x0.f6.f3,Value.int .u32 x0.f6.f4,Value.slice A0_11 x0.f6.f5.length p0_11,Value.int .u32 x0.f6.f6]:=Array.toList_inj.1 e0;have k1:=h1;have lt1 : ∀ x ∈ p1,x.block < W.heap.size:=by obtain ⟨m,hm⟩:=k1;exact DataW.trod_lt m _ _ _ hm
 obtain ⟨cs1,rfl,_⟩:=okWide_struct Tryz.underlying30 (hval 1 30 v1 rfl rfl);obtain ⟨fuel1,hf1⟩:=h1;obtain ⟨x1,e1,o1⟩:=op_Note hf1;obtain ⟨A1_6,p1_6,A1_8,p1_8,A1_11,p1_11,e1,l1_6,g1_6,l1_8,g1_8,l1_11,g1_11⟩:=k30_open e1;obtain rfl : cs1 = #[Value.int .i64 x1.f0,Value.int .u8 x1.f1,Value.int .u8 x1.f2,Value.int .u32 x1.f3,Value.int .u8 x1.f4,Value.int .u8 x1.f5,Value.slice A1_6 x1.f6.length p1_6,Value.int .u32 x1.f7,Value.slice A1_8 x1.f8.length p1_8,Value.int .u8 x1.f9,Value.bool x1.f10,Value.slice A1_11 x1.f11.length p1_11]:=Array.toList_inj.1 e1;clear hA0 hval0 hsz0;refine (TargetAccepts_law W x0 x1 o0 o1 (handle_of_laid hL) g0_4 l0_4 g0_5 l0_5 g0_11 l0_11 g1_6 l1_6 g1_8 l1_8 g1_11 l1_11).mono fun e W' ⟨he,bel⟩=>?_
 subst he;exact ⟨_,rfl,_,_,_,[],_,[],hW',trodAll_mk1 (shut_bool Tryz.underlying4 _),(trodAll_cons_mk (Below.trod laidOut (by kernel_rfl) (zD (by kernel_rfl)) k0 bel lt0) (trodAll_cons_mk (Below.trod laidOut (by kernel_rfl) (zD (by kernel_rfl)) k1 bel lt1) trodAll_mk0)),rfl,bel.frame _,fun h=>by cases h⟩
theorem said : Rows.TargetAcceptsSaid :=
 OpenClaim.holds_of_cond 3 Tryz.f3 rfl rfl rfl rfl rfl rfl rfl ⟨rfl,rfl,rfl,rfl,rfl⟩ rfl rfl rfl rfl rfl (by kernel_rfl) Tryz.func3 (by kernel_rfl)
  (zD (by kernel_rfl)) (by unfold Func.isWrapper;first | (rw [if_pos (by decide +kernel)];kernel_rfl) | (rw [if_neg (by decide +kernel)];exact ⟨rfl,rfl⟩))
  (fun os started H enc _ F=>by rw [OpenClaim.pre_eq_preRow];exact lifted os started H enc F)
theorem plain (f : FuncId) (fn : Func) (hf : Tryz.pinned.checked.prog.funcNamed "tidings/tidingslaw07.TargetAccepts" = some f) (hfn : Tryz.pinned.checked.prog.funcs[f]? = some fn) :
 true = Tryz.pinned.checked.prog.looks [] ∧ ∀ (j : Nat) t,fn.params[j]? = some t → Tryz.pinned.checked.prog.wantsStandIn t = false:=by
 obtain rfl : f = 3:=zH ((show Tryz.prog.funcNamed "tidings/tidingslaw07.TargetAccepts" = some 3 by kernel_rfl).symm.trans hf) |>.symm
 obtain rfl : fn = Tryz.f3:=(zH (Tryz.func3.symm.trans hfn)).symm;refine ⟨by kernel_rfl,fun j t ht=>?_⟩;rw [Tryz.params3] at ht;have hm:=Array.mem_of_getElem? ht;simp only [List.mem_toArray,List.mem_cons,List.not_mem_nil,or_false] at hm;rcases hm with rfl | rfl
 ·exact (show Tryz.prog.wantsStandIn 28 = false by kernel_rfl)
 ·exact (show Tryz.prog.wantsStandIn 30 = false by kernel_rfl)
theorem card : Rows.TargetAcceptsCardSaid :=
 Claim7.holds_tied_plain_at .later [] _ _ _ _ said (fun _ h=>by cases h) (by kernel_rfl) (fun _ h=>by cases h) targetAccepts_row_tie rfl ⟨rfl,rfl⟩ (by kernel_rfl) rfl plain (by kernel_rfl)
#print axioms card
end Go.Proofs.YtiminjibcafkaaaGreatDoor.targetAccepts
namespace Go.Proofs.YtiminjibcafkaaaGreatDoor
theorem targetAccepts_holds : Rows.TargetAcceptsCardSaid:=targetAccepts.card
end Go.Proofs.YtiminjibcafkaaaGreatDoor
