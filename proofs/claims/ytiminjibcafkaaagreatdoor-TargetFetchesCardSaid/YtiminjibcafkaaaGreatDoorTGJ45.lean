/- Texts that this claim's law comes to, joined by wip/slim.py: TAXaccept0, TFbegin. -/
import Derived.Test.YtiminjibcafkaaaGreatDoorTGJ21
import Derived.Test.YtiminjibcafkaaaGreatDoorTGTAJ30
import Derived.Test.YtiminjibcafkaaaGreatDoorTGTAJ8
import Derived.Test.YtiminjibcafkaaaGreatDoorTGTAXmust
import Derived.Recover
set_option linter.unusedSimpArgs false
set_option linter.unusedVariables false
section
namespace Go.Proofs.YtiminjibcafkaaaGreatDoor.X
open RowKit YtiminjibcafkaaaGreatDoorW.PrintWords YtiminjibcafkaaaGreatDoorW.PrintLast YtiminjibcafkaaaGreatDoorW.PrintMore
theorem acc_results {fn : Func} (h : fn.results = #[.cell 4 28,.cell 5 30,.cell 6 4,.cell 7 35]) (tmps : Array Value) (w : World) (go gn gm gx : Nat) (CO CN : Array Value) (m ev : Value)
 (h4 : tmps.getD 4 undef = .pointer (some ⟨go,0,none⟩)) (h5 : tmps.getD 5 undef = .pointer (some ⟨gn,0,none⟩)) (h6 : tmps.getD 6 undef = .pointer (some ⟨gm,0,none⟩)) (h7 : tmps.getD 7 undef = .pointer (some ⟨gx,0,none⟩))
 (ho : w.heap[go]? = some (.cells CO 28 (0,0))) (hn : w.heap[gn]? = some (.cells CN 30 (0,0))) (hm : w.heap[gm]? = some (.cells #[m] 4 (0,0))) (hx : w.heap[gx]? = some (.cells #[ev] 35 (0,0))) (so : CO.size = 13) (sn : CN.size = 12) :
 (results fn tmps).run Tryz.prog w = .ok (.tuple #[.agg CO,.agg CN,m,ev]) w:=by
 have e4 : tmps[4]?.getD undef = .pointer (some ⟨go,0,none⟩):=by simpa using h4
 have e5 : tmps[5]?.getD undef = .pointer (some ⟨gn,0,none⟩):=by simpa using h5
 have e6 : tmps[6]?.getD undef = .pointer (some ⟨gm,0,none⟩):=by simpa using h6
 have e7 : tmps[7]?.getD undef = .pointer (some ⟨gx,0,none⟩):=by simpa using h7
 have hi1 : (Tryz.prog.info? 28).map (·.size) = some CO.size:=by rw [so];kernel_rfl
 have hi2 : (Tryz.prog.info? 30).map (·.size) = some CN.size:=by rw [sn];kernel_rfl
 have r1:=run_loadVar_row (P:=Tryz.prog) w go 28 28 CO (0,0) _ ho Tryz.underlying28 rfl hi1;have r2:=run_loadVar_row (P:=Tryz.prog) w gn 30 30 CN (0,0) _ hn Tryz.underlying30 rfl hi2;have cm : w.cell? ⟨gm,0,none⟩ = some m:=(zI hm 0).trans rfl;have cx : w.cell? ⟨gx,0,none⟩ = some ev:=(zI hx 0).trans rfl;have r3 : (loadVar 4 ⟨gm,0,none⟩).run Tryz.prog w = .ok m w:=by simp [loadVar,isAgg,underlying,Tryz.underlying4,cm]
 have r4 : (loadVar 35 ⟨gx,0,none⟩).run Tryz.prog w = .ok ev w:=by simp [loadVar,isAgg,underlying,Tryz.underlying35,cx]
 clear hi1 hi2 cm cx;simp [results,h,e4,e5,e6,e7,asAddr,r1,r2,r3,r4]
theorem leaves_nil {P : Program} {fn : Func} {tmps : Array Value} {R : Ending → World → Prop} {w : World} {v : Value} (hr : (results fn tmps).run P w = .ok v w) (h : R (.returned v) w) : Leaves P fn tmps R [] .returning w:=⟨v,hr,h⟩
theorem union_On (k : Nat) (A : Option Addr) (c : Nat) (l : List S67) (B : Option Addr) (d : Nat) (m : List S67) (u : List S67) (r : Option Int) (w : World) (S : Nat → Prop) (h : Kd.C k67 w A l.length l) (hc : l.length ≤ c) (h' : Kd.C k67 w B m.length m) (hc' : m.length ≤ d) (hS : ∀ j,w.heap.size ≤ j → S j) (hu : know_Union.f k l m = some (u,r)) :
 Calls Tryz.prog 38 #[.slice A l.length c,.slice B m.length d] w fun e w'=>∃ T e1,e = .returned (.tuple #[.slice T u.length e1,errW r]) ∧ On k67 w' S T e1 u ∧ Below w.heap.size w w':=by
 refine (know_Union.calls k A c l B d m u r w h hc h' hc' hu).mono ?_;rintro e w' ⟨v,rfl,hR,hx⟩;obtain ⟨T,d,rfl⟩:=yJ hR;exact ⟨T,d,rfl,.of_R hR (fun k _ h=>hS k h),hx⟩
set_option maxRecDepth 100000 in
set_option maxHeartbeats 8000000 in
theorem catch_left (c : Int) (B go gn gm gx : Nat) (w0 w : World) (n1 : go ≠ gn) (n2 : go ≠ gm) (n3 : go ≠ gx) (n4 : gn ≠ gm) (n5 : gn ≠ gx) (n6 : gm ≠ gx) (b1 : B ≤ go) (b2 : B ≤ gn) (b3 : B ≤ gm) (b4 : B ≤ gx)
 (ho : w.heap[go]? = some (.cells #[.int .u8 0,.int .u8 0,.int .u32 0,.int .u32 0,.slice none 0 0,.slice none 0 0,.bool false,.int .u32 0,.int .u8 0,.int .u8 0,.int .u32 0,.slice none 0 0,.int .u32 0] 28 (0,0))) (hn : w.heap[gn]? = some (.cells #[.int .i64 0,.int .u8 0,.int .u8 0,.int .u32 0,.int .u8 0,.int .u8 0,.slice none 0 0,.int .u32 0,.slice none 0 0,.int .u8 0,.bool false,.slice none 0 0] 30 (0,0))) (hm : w.heap[gm]? = some (.cells #[.bool false] 4 (0,0))) (hx : w.heap[gx]? = some (.cells #[.nilIface] 35 (0,0))) (hB : Below B w0 w) :
 CallsD Tryz.prog 34 #[.pointer (some ⟨go,0,none⟩),.pointer (some ⟨gn,0,none⟩),.pointer (some ⟨gm,0,none⟩),.pointer (some ⟨gx,0,none⟩)] (.panicking [{ v:=leftV c,recovered:=false }]) w fun e u' w' =>
  e = .returned (.tuple #[]) ∧ u' = .panicking [{ v:=leftV c,recovered:=true }] ∧ w'.heap[go]? = some (.cells #[.int .u8 0,.int .u8 0,.int .u32 0,.int .u32 0,.slice none 0 0,.slice none 0 0,.bool false,.int .u32 0,.int .u8 0,.int .u8 0,.int .u32 0,.slice none 0 0,.int .u32 0] 28 (0,0)) ∧ w'.heap[gn]? = some (.cells #[.int .i64 0,.int .u8 0,.int .u8 0,.int .u32 0,.int .u8 0,.int .u8 0,.slice none 0 0,.int .u32 0,.slice none 0 0,.int .u8 0,.bool false,.slice none 0 0] 30 (0,0)) ∧ w'.heap[gm]? = some (.cells #[.bool false] 4 (0,0)) ∧ w'.heap[gx]? = some (.cells #[errW (some c)] 35 (0,0)) ∧ Below B w0 w':=by
 have huR:=Tryz.underlying28;have huN:=Tryz.underlying30;have huS:=Tryz.underlying26;have huE:=Tryz.underlying62;have hu35:=Tryz.underlying35;have hu4:=Tryz.underlying4;have huc:=Tryz.underlying70;have eN:=errW_none;have eS:=errW_some;have hul:=Tryz.underlying72;have hta : ∀ w' : World,(Instr.typeAssert (.iface 72 (.agg #[.iface 70 (.int .i64 c)])) 20 72 false).run Tryz.prog w' = .ok (.agg #[.iface 70 (.int .i64 c)]) w':=fun w'=>by kernel_rfl
 have hfd : ∀ w' : World,(Instr.field 72 (.agg #[.iface 70 (.int .i64 c)]) 0).run Tryz.prog w' = .ok (.iface 70 (.int .i64 c)) w':=fun w'=>by kernel_rfl
 have eL : leftV c = .iface 72 (.agg #[.iface 70 (.int .i64 c)]):=rfl;rw [eL];clear eL;refine callsD_of_wpS Tryz.func34 rfl fun c₀ cs hu=>?_
 apply wpS_seq;apply wpS_region;simp [wpOpsS,go_sem,recoverD,hu,Tryz.ntmps34,Exit.thenS];apply wpS_seq;apply wpS_region;simp [wpOpsS,go_sem,recoverD,hu,Tryz.ntmps34,Exit.thenS];refine wpS_cond (t:=true) (by simp [Act.eval,Array.replicate]) ?_;simp only [if_true];refine wpS_of_wp ?_;have Bo0:=zA ho;clear ho;have Bn0:=zA hn;clear hn;have Bm0:=zA hm;clear hm;have Bx0:=zA hx;clear hx;have HB0:=zA hB;clear hB;have HG0:=zA (Nat.zero_le w.heap.size);refine region_lex (fun (s : Option (Unit)) d w'=>Below B w0 w' ∧ 0 ≤ w'.heap.size ∧ w'.heap[go]? = w.heap[go]? ∧ w'.heap[gn]? = w.heap[gn]? ∧ w'.heap[gm]? = w.heap[gm]? ∧ w'.heap[gx]? = (if d 8 = true then some (.cells #[.iface 70 (.int .i64 c)] 35 (0,0)) else w.heap[gx]?)) 9 #[false,false,false,false,false,false,false,false,false] (by kernel_rfl) rfl rfl ?_ ?_
 ·exact ⟨pw_below_drewN HB0.out 1,HG0.out,rfl,rfl,rfl,rfl⟩
 refine lex_val (k:=0) (N:=some 8) (a':=?a0_7) (.agg #[.int .u8 0,.int .u8 0,.int .u32 0,.int .u32 0,.slice none 0 0,.slice none 0 0,.bool false,.int .u32 0,.int .u8 0,.int .u8 0,.int .u32 0,.slice none 0 0,.int .u32 0]) #[true,false,false,false,false,false,false,false,false] rfl rfl (by kernel_rfl) (by rfl) ?h0_7 ?ha0_7 ?r0_7
 case h0_7 =>
  rintro s hs_ d w' hd ⟨hB,hG,ho,hn,hm,hx⟩;refine ⟨w',?_,?_⟩
  ·go_simp
   try with_reducible rfl
  ·exact ⟨hB,hG,ho,hn,hm,hx⟩
 case ha0_7 =>
  simp only [Act.put,zK,zP,zQ,i64_w,i32_w];rfl
 case r0_7 =>
  refine lex_val (k:=1) (N:=some 9) (a':=?a1_7) (.agg #[.int .i64 0,.int .u8 0,.int .u8 0,.int .u32 0,.int .u8 0,.int .u8 0,.slice none 0 0,.int .u32 0,.slice none 0 0,.int .u8 0,.bool false,.slice none 0 0]) #[true,true,false,false,false,false,false,false,false] rfl rfl (by kernel_rfl) (by rfl) ?h1_7 ?ha1_7 ?r1_7
  case h1_7 =>
   rintro s hs_ d w' hd ⟨hB,hG,ho,hn,hm,hx⟩;refine ⟨w',?_,?_⟩
   ·go_simp
    try with_reducible rfl
   ·exact ⟨hB,hG,ho,hn,hm,hx⟩
  case ha1_7 =>
   simp only [Act.put,zK,zP,zQ,i64_w,i32_w];rfl
  case r1_7 =>
   refine lex_val (k:=2) (N:=some 10) (a':=?a2_7) (.iface 72 (.agg #[.iface 70 (.int .i64 c)])) #[true,true,true,false,false,false,false,false,false] rfl rfl (by kernel_rfl) (by rfl) ?h2_7 ?ha2_7 ?r2_7
   case h2_7 =>
    rintro s hs_ d w' hd ⟨hB,hG,ho,hn,hm,hx⟩;refine ⟨w',?_,?_⟩
    ·go_simp
     try with_reducible rfl
    ·exact ⟨hB,hG,ho,hn,hm,hx⟩
   case ha2_7 =>
    simp only [Act.put,zK,zP,zQ,i64_w,i32_w];rfl
   case r2_7 =>
    refine lex_val (k:=3) (N:=some 11) (a':=?a3_7) (.agg #[.iface 70 (.int .i64 c)]) #[true,true,true,true,false,false,false,false,false] rfl rfl (by kernel_rfl) (by rfl) ?h3_7 ?ha3_7 ?r3_7
    case h3_7 =>
     rintro s hs_ d w' hd ⟨hB,hG,ho,hn,hm,hx⟩;refine ⟨w',?_,?_⟩
     ·go_simp
      try with_reducible rfl
     ·exact ⟨hB,hG,ho,hn,hm,hx⟩
    case ha3_7 =>
     simp only [Act.put,zK,zP,zQ,i64_w,i32_w];rfl
    case r3_7 =>
     refine lex_val (k:=4) (N:=some 12) (a':=?a4_7) (.iface 70 (.int .i64 c)) #[true,true,true,true,true,false,false,false,false] rfl rfl (by kernel_rfl) (by rfl) ?h4_7 ?ha4_7 ?r4_7
     case h4_7 =>
      rintro s hs_ d w' hd ⟨hB,hG,ho,hn,hm,hx⟩;refine ⟨w',?_,?_⟩
      ·go_simp
       try with_reducible rfl
      ·exact ⟨hB,hG,ho,hn,hm,hx⟩
     case ha4_7 =>
      simp only [Act.put,zK,zP,zQ,i64_w,i32_w];rfl
     case r4_7 =>
      refine lex_skip (k:=5) (N:=none) (a':=?a5_7) #[true,true,true,true,true,true,false,false,false] rfl rfl (by kernel_rfl) (by rfl) ?h5_7 ?ha5_7 ?r5_7
      case h5_7 =>
       rintro s hs_ d w' hd ⟨hB,hG,ho,hn,hm,hx⟩;have hb_:=ho.trans Bo0.out;have f_:=frz13 hb_;obtain ⟨z0,z1,z2,z3,z4,z5,z6,z7,z8,z9,z10,z11,z12⟩:=cells13 hb_;refine ⟨put_ w' (go) 0 [.int .u8 0,.int .u8 0,.int .u32 0,.int .u32 0,.slice none 0 0,.slice none 0 0,.bool false,.int .u32 0,.int .u8 0,.int .u8 0,.int .u32 0,.slice none 0 0,.int .u32 0],?_,?_⟩
       ·go_simp
        try rfl
       ·exact ⟨put_below _ (by omega) _ _ _ hB,by rw [put_size];exact hG,(own13_0_13 rfl hb_).trans Bo0.out.symm,(put_far _ _ (by omega) _ _ _).trans hn,(put_far _ _ (by omega) _ _ _).trans hm,(put_far _ _ (by omega) _ _ _).trans hx⟩
      case ha5_7=>rfl
      case r5_7 =>
       refine lex_skip (k:=6) (N:=none) (a':=?a6_7) #[true,true,true,true,true,true,true,false,false] rfl rfl (by kernel_rfl) (by rfl) ?h6_7 ?ha6_7 ?r6_7
       case h6_7 =>
        rintro s hs_ d w' hd ⟨hB,hG,ho,hn,hm,hx⟩;have hb_:=hn.trans Bn0.out;have f_:=frz13 hb_;obtain ⟨z0,z1,z2,z3,z4,z5,z6,z7,z8,z9,z10,z11⟩:=cells12 hb_;refine ⟨put_ w' (gn) 0 [.int .i64 0,.int .u8 0,.int .u8 0,.int .u32 0,.int .u8 0,.int .u8 0,.slice none 0 0,.int .u32 0,.slice none 0 0,.int .u8 0,.bool false,.slice none 0 0],?_,?_⟩
        ·go_simp
         try rfl
        ·exact ⟨put_below _ (by omega) _ _ _ hB,by rw [put_size];exact hG,(put_far _ _ (by omega) _ _ _).trans ho,(own12_0_12 rfl hb_).trans Bn0.out.symm,(put_far _ _ (by omega) _ _ _).trans hm,(put_far _ _ (by omega) _ _ _).trans hx⟩
       case ha6_7=>rfl
       case r6_7 =>
        refine lex_skip (k:=7) (N:=none) (a':=?a7_7) #[true,true,true,true,true,true,true,true,false] rfl rfl (by kernel_rfl) (by rfl) ?h7_7 ?ha7_7 ?r7_7
        case h7_7 =>
         rintro s hs_ d w' hd ⟨hB,hG,ho,hn,hm,hx⟩;have hb_:=hm.trans Bm0.out;have f0:=yA hb_ 0;have z0:=(zI hb_ 0).trans (show _ = some (.bool false) from rfl);refine ⟨put_ w' (gm) 0 [.bool false],?_,?_⟩
         ·go_simp
          try rfl
         ·exact ⟨put_below _ (by omega) _ _ _ hB,by rw [put_size];exact hG,(put_far _ _ (by omega) _ _ _).trans ho,(put_far _ _ (by omega) _ _ _).trans hn,(own1_0_1 rfl hb_).trans Bm0.out.symm,(put_far _ _ (by omega) _ _ _).trans hx⟩
        case ha7_7=>rfl
        case r7_7 =>
         refine lex_skip (k:=8) (N:=none) (a':=?a8_7) #[true,true,true,true,true,true,true,true,true] rfl rfl (by kernel_rfl) (by rfl) ?h8_7 ?ha8_7 ?r8_7
         case h8_7 =>
          rintro s hs_ d w' hd ⟨hB,hG,ho,hn,hm,hx⟩;have hb_:=(hx.trans (if_neg (by simp [hd]))).trans Bx0.out;have f0:=yA hb_ 0;have z0:=(zI hb_ 0).trans (show _ = some (.nilIface) from rfl);refine ⟨put_ w' (gx) 0 [.iface 70 (.int .i64 c)],?_,?_⟩
          ·go_simp
           try rfl
          ·exact ⟨put_below _ (by omega) _ _ _ hB,by rw [put_size];exact hG,(put_far _ _ (by omega) _ _ _).trans ho,(put_far _ _ (by omega) _ _ _).trans hn,(put_far _ _ (by omega) _ _ _).trans hm,(own1_0_1 rfl hb_).trans (if_pos rfl).symm⟩
         case ha8_7=>rfl
         case r8_7 =>
          refine lex_done (by kernel_rfl) ?_;rintro w1 ⟨_,hB,hG,ho,hn,hm,hx⟩;have Bo1:=zA (ho.trans Bo0.out);have Bn1:=zA (hn.trans Bn0.out);have Bm1:=zA (hm.trans Bm0.out);have Bx1:=zA (hx.trans (if_pos rfl));have HB1:=zA hB;have HG1:=zA hG;clear hB hG ho hn hm hx HB0 HG0 Bo0 Bn0 Bm0 Bx0;refine ⟨rfl,_,rfl,_,results_none rfl _ _ _,rfl,rfl,Bo1.out,Bn1.out,Bm1.out,Bx1.out,HB1.out⟩
theorem catch_none (go gn gm gx : Nat) (w : World) : CallsD Tryz.prog 34 #[.pointer (some ⟨go,0,none⟩),.pointer (some ⟨gn,0,none⟩),.pointer (some ⟨gm,0,none⟩),.pointer (some ⟨gx,0,none⟩)] .returning w fun e u' w'=>e = .returned (.tuple #[]) ∧ u' = .returning ∧ w' = w:=by
 refine callsD_of_wpS Tryz.func34 rfl fun c₀ cs hu=>?_
 apply wpS_seq;apply wpS_region;simp [wpOpsS,go_sem,recoverD,hu,Tryz.ntmps34,Exit.thenS];apply wpS_seq;apply wpS_region;simp [wpOpsS,go_sem,recoverD,hu,Tryz.ntmps34,Exit.thenS];refine wpS_cond (t:=false) (by simp [Act.eval,Array.replicate]) ?_;simp only [yC,if_false];refine wpS_of_wp (wp_skip ?_);cases c₀;simp_all [bodyPostS,results]
end Go.Proofs.YtiminjibcafkaaaGreatDoor.X
end
section
namespace Go.Proofs.YtiminjibcafkaaaGreatDoor.X
open Go.RowKit Go.Shelf Go.Proofs.YtiminjibcafkaaaGreatDoorW.PrintWords Go.Proofs.YtiminjibcafkaaaGreatDoorW.PrintLast Go.Proofs.YtiminjibcafkaaaGreatDoorW.PrintMore
set_option maxRecDepth 100000 in
set_option maxHeartbeats 8000000 in
theorem Begin_last (k : Nat) (a0 a1 a2 a3 : Int) (l4 : List S67) (l5 : List S62) (a6 : Bool) (a7 a8 a9 a10 : Int) (l11 : List S67) (a12 : Int) (A4 A5 A11 : Option Addr) (c4 c5 c11 : Nat) (b : Int) (w : World) (r4 : Kd.C k67 w A4 l4.length l4) (i4 : l4.length ≤ c4) (r5 : Kd.C k62 w A5 l5.length l5) (i5 : l5.length ≤ c5) (r11 : Kd.C k67 w A11 l11.length l11) (i11 : l11.length ≤ c11) (hR : replica_Right.f k a0 a1 a2 a3 l4 l5 a6 a7 a8 a9 a10 l11 a12 = some true) (hf : ¬ 8 ≤ b) (hs : ¬ b = a0) (hl : a12 = 4294967295) : Calls Tryz.prog 14 #[.agg #[.int .u8 a0,.int .u8 a1,.int .u32 a2,.int .u32 a3,.slice A4 l4.length c4,.slice A5 l5.length c5,.bool a6,.int .u32 a7,.int .u8 a8,.int .u8 a9,.int .u32 a10,.slice A11 l11.length c11,.int .u32 a12],.int .u8 b] w fun e w'=>e = .returned (.tuple #[.agg #[.int .u8 0,.int .u8 0,.int .u32 0,.int .u32 0,.slice none 0 0,.slice none 0 0,.bool false,.int .u32 0,.int .u8 0,.int .u8 0,.int .u32 0,.slice none 0 0,.int .u32 0],.agg #[.int .i64 0,.int .u8 0,.int .u8 0,.int .u32 0,.int .u8 0,.int .u8 0,.slice none 0 0,.int .u32 0,.slice none 0 0,.int .u8 0,.bool false,.slice none 0 0],errW (some 5)]) ∧ Below w.heap.size w w':=by
 have huR:=Tryz.underlying28;have huN:=Tryz.underlying30;have huS:=Tryz.underlying26;have hu35:=Tryz.underlying35;have eN:=errW_none;have eS:=errW_some;have R4':=zA r4;have I4':=zA i4;have R5':=zA r5;have I5':=zA i5;have R11':=zA r11;have I11':=zA i11;clear r4 i4 r5 i5 r11 i11;have HR':=zA hR;clear hR;have hf1 : decide (b ≥ 8) = false:=zF hf;have hf2 : decide (8 ≤ b) = false:=zF hf;clear hf;have hs1 : decide (b = a0) = false:=zF hs;have hs2 : (b == a0) = false:=by simp [hs]
 clear hs;have hl1 : decide (a12 = 4294967295) = true:=zE hl;have hl2 : (a12 == 4294967295) = true:=by simp [hl]
 clear hl;go_enter Tryz.func14,Tryz.ntmps14;go_wp2_with fail;generalize hW : World.alloc (World.alloc (World.alloc w _) _) _ = w0;have Br0:=zA (al3_0 hW);have Bo0:=zA (al3_1 hW);have Bn0:=zA (al3_2 hW);have HB0:=zA (al3B hW);clear hW;have GG:=zA (show w.heap.size + 3 ≤ w0.heap.size by have:=blk_lt Bn0.out;omega);have HG0:=zA (zM w0.heap.size);have r_:=cells13 Br0.out;go_wp2_with fail;refine (replica_Right.calls k a0 a1 a2 a3 _ _ l4 _ _ l5 a6 a7 a8 a9 a10 _ _ l11 a12 true _ (zL R4'.out HB0.out) I4'.out (zL R5'.out HB0.out) I5'.out (zL R11'.out HB0.out) I11'.out HR'.out).mono ?_;rintro ev w1 ⟨rfl,hx⟩;have Br1:=zA (zC Br0.out hx);have Bo1:=zA (zC Bo0.out hx);have Bn1:=zA (zC Bn0.out hx);have HB1:=zA (zG HB0.out hx);have HG1:=zA (zV HG0.out hx.size);clear r_;clear hx HB0 HG0 Br0 Bo0 Bn0;have r_:=cells13 Br1.out;have o_:=cells13 Bo1.out;have n_:=cells12 Bn1.out;go_wp2_with (first | ((with_reducible refine gate_store (t:=28) (p:=4) rfl ?_);refine store_event (t:=28) (p:=4) (v:=?vo13_) (w1:=put_ w1 (w.heap.size + 1) 0 [.int .u8 0,.int .u8 0,.int .u32 0,.int .u32 0,.slice none 0 0,.slice none 0 0,.bool false,.int .u32 0,.int .u8 0,.int .u8 0,.int .u32 0,.slice none 0 0,.int .u32 0]) ?hg ?ho ?hn ?hr ?_;(case ho=>rfl);(case hg=>rfl);(case hn=>rfl);(case hr=>have f_:=frz13 Bo1.out;go_simp;rfl);intro w2 hw;have Br2:=zA (far_ hw (by omega) Br1.out);have Bo2:=zA (own13_0_13 hw Bo1.out);have Bn2:=zA (far_ hw (by omega) Bn1.out);have HB2:=zA (bel_ hw (by omega) HB1.out);have HG2:=zA (siz_ hw HG1.out);clear hw HB1 HG1 Br1 Bo1 Bn1 r_ o_ n_;have r2_:=cells13 Br2.out;have o2_:=cells13 Bo2.out;have n2_:=cells12 Bn2.out) | ((with_reducible refine gate_store (t:=30) (p:=5) rfl ?_);refine store_event (t:=30) (p:=5) (v:=?vo14_) (w1:=put_ w2 (w.heap.size + 1 + 1) 0 [.int .i64 0,.int .u8 0,.int .u8 0,.int .u32 0,.int .u8 0,.int .u8 0,.slice none 0 0,.int .u32 0,.slice none 0 0,.int .u8 0,.bool false,.slice none 0 0]) ?hg ?ho ?hn ?hr ?_;(case ho=>rfl);(case hg=>rfl);(case hn=>rfl);(case hr=>have f_:=frz13 Bn2.out;go_simp;rfl);intro w3 hw;have Br3:=zA (far_ hw (by omega) Br2.out);have Bo3:=zA (far_ hw (by omega) Bo2.out);have Bn3:=zA (own12_0_12 hw Bn2.out);have HB3:=zA (bel_ hw (by omega) HB2.out);have HG3:=zA (siz_ hw HG2.out);clear hw HB2 HG2 Br2 Bo2 Bn2 r2_ o2_ n2_;have r3_:=cells13 Br3.out;have o3_:=cells13 Bo3.out;have n3_:=cells12 Bn3.out))
 refine bodyPost_ret (results_list (rs:=[.cell 4 28,.cell 5 30,.tmp 6]) rfl (by simp) (.cell (w.heap.size + 1) 28 #[.int .u8 0,.int .u8 0,.int .u32 0,.int .u32 0,.slice none 0 0,.slice none 0 0,.bool false,.int .u32 0,.int .u8 0,.int .u8 0,.int .u32 0,.slice none 0 0,.int .u32 0] (0,0) _ rfl Bo3.out Tryz.underlying28 rfl (by kernel_rfl) (.cell (w.heap.size + 1 + 1) 30 #[.int .i64 0,.int .u8 0,.int .u8 0,.int .u32 0,.int .u8 0,.int .u8 0,.slice none 0 0,.int .u32 0,.slice none 0 0,.int .u8 0,.bool false,.slice none 0 0] (0,0) _ rfl Bn3.out Tryz.underlying30 rfl (by kernel_rfl) (.tmp .nil)))) rfl ?_;exact ⟨by first | rfl | rw [eS],HB3.out⟩
end Go.Proofs.YtiminjibcafkaaaGreatDoor.X
end
