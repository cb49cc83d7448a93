/- target.Accept: what it hands back, every way. -/
import Derived.Test.YtiminjibcafkaaaGreatDoorTGTAXhreplicaRight
import Derived.Test.YtiminjibcafkaaaGreatDoorTGTAJ29
import Derived.Test.YtiminjibcafkaaaGreatDoorTGTAJ6
import Derived.Test.YtiminjibcafkaaaGreatDoorTGJ21
import Derived.Test.YtiminjibcafkaaaGreatDoorTGTAJ11
import Derived.Test.YtiminjibcafkaaaGreatDoorTGTAXaccdef
import Derived.Test.YtiminjibcafkaaaGreatDoorTGTAJ8
import Derived.Test.YtiminjibcafkaaaGreatDoorTGTAXtake2
import Derived.Test.YtiminjibcafkaaaGreatDoorTGTAJ30
import Derived.Test.YtiminjibcafkaaaGreatDoorTGJ45
set_option linter.unusedSimpArgs false
set_option linter.unusedVariables false
namespace Go.Proofs.YtiminjibcafkaaaGreatDoor.X
open RowKit YtiminjibcafkaaaGreatDoorW.PrintWords YtiminjibcafkaaaGreatDoorW.PrintLast YtiminjibcafkaaaGreatDoorW.PrintMore
theorem tput_cases {k : Nat} {kn : List S67} {hd : List S62} {y : S62} {g : Bool} {r : Int ⊕ (List S67 × List S62)} (h : tput k kn hd y g = some r) :
 ∃ h5,item_Take.f k hd y.f0 y.f1.f0 y.f1.f1 y.f1.f2 y.f2 y.f3 y.f4 = some (h5,none) ∧ ((g = true ∧ r = .inr (kn,h5)) ∨ (g = false ∧ ∃ h4 e,know_Add.f k kn y.f1.f0 y.f1.f1 = some (h4,e) ∧ ((e = none ∧ r = .inr (h4,h5)) ∨ ∃ c,e = some c ∧ r = .inl c))):=by
 unfold tput at h;obtain ⟨⟨h5,e5⟩,ht,h⟩:=zJ.mp h;cases e5 with
 | some c=>cases h
 | none =>
  refine ⟨h5,ht,?_⟩;cases g with
  | true=>exact .inl ⟨rfl,(zH h).symm⟩
  | false =>
   obtain ⟨⟨h4,e⟩,ha,h⟩:=zJ.mp h;refine .inr ⟨rfl,h4,e,ha,?_⟩;cases e with
   | none=>exact .inl ⟨rfl,(zH h).symm⟩
   | some c=>exact .inr ⟨c,rfl,(zH h).symm⟩
theorem tstep_cases {k : Nat} {a1 : Int} {kn : List S67} {hd : List S62} {X : S62} {r : Int ⊕ (List S67 × List S62)} (h : tstep k a1 kn hd X = some r) :
 (∃ c,TakeNo k a1 kn hd X c ∧ r = .inl c) ∨ ∃ k1 h1,TakeOK k a1 kn hd X k1 h1 ∧ r = .inr (k1,h1):=by
 unfold tstep at h;obtain ⟨b,hin,h⟩:=zJ.mp h;cases b with
 | true =>
  obtain ⟨h5,ht,⟨hg,rfl⟩ | ⟨hg,h4,e,ha,⟨rfl,rfl⟩ | ⟨c,rfl,rfl⟩⟩⟩:=tput_cases h
  ·exact .inr ⟨_,_,.inA h5 hin ht (zD hg),rfl⟩
  ·exact .inr ⟨_,_,.inB h5 h4 hin ht (of_decide_eq_false hg) ha,rfl⟩
  ·exact .inl ⟨_,.inC h5 h4 hin ht (of_decide_eq_false hg) ha,rfl⟩
 | false =>
  obtain ⟨t,hfd,h⟩:=zJ.mp h;obtain ⟨h5,ht,⟨hg,rfl⟩ | ⟨hg,h4,e,ha,⟨rfl,rfl⟩ | ⟨c,rfl,rfl⟩⟩⟩:=tput_cases h
  ·cases hg
  ·exact .inr ⟨_,_,.outB ⟨t.1,⟨t.2.1,t.2.2.1,t.2.2.2.1⟩,t.2.2.2.2.1,t.2.2.2.2.2.1,t.2.2.2.2.2.2⟩ h5 h4 hin hfd ht ha,rfl⟩
  ·exact .inl ⟨_,.outC ⟨t.1,⟨t.2.1,t.2.2.1,t.2.2.2.1⟩,t.2.2.2.2.1,t.2.2.2.2.2.1,t.2.2.2.2.2.2⟩ h5 h4 hin hfd ht ha,rfl⟩
theorem fold_cases {k : Nat} {a1 : Int} {m8 : List S62} {d i : Nat} {kn : List S67} {hd : List S62} {b4 : Int} {b10 : Bool} {l11 m11 : List S67} {res : RRes} (h : (tfold k a1 m8 (d + 1) kn hd i).bind (ttail k b4 b10 l11 m11) = some res) :
 (∃ c,TakeNo k a1 kn hd (m8.getD i z62) c ∧ res = .zero c) ∨ ∃ k1 h1,TakeOK k a1 kn hd (m8.getD i z62) k1 h1 ∧ (tfold k a1 m8 d k1 h1 (i + 1)).bind (ttail k b4 b10 l11 m11) = some res:=by
 obtain ⟨r,hr,h⟩:=zJ.mp h;unfold tfold at hr;obtain ⟨s,hs,hr⟩:=zJ.mp hr;rcases tstep_cases hs with ⟨c,hn,rfl⟩ | ⟨k1,h1,ho,rfl⟩
 ·obtain rfl:=zH hr;exact .inl ⟨c,hn,(zH h).symm⟩
 ·exact .inr ⟨k1,h1,ho,zJ.mpr ⟨r,hr,h⟩⟩
theorem tend_more {k : Nat} {b4 : Int} {l11 m11 kn : List S67} {hd : List S62} {res : RRes} (h : tend k b4 false l11 m11 kn hd = some res) : kn.length ≤ 400000 ∧ res = .more kn hd:=by
 unfold tend at h;rw [if_neg (by decide)] at h;by_cases hk : kn.length ≤ 400000
 ·rw [if_pos hk] at h;exact ⟨hk,(zH h).symm⟩
 ·rw [if_neg hk] at h;cases h
theorem tend_done {k : Nat} {b4 : Int} {l11 m11 kn : List S67} {hd : List S62} {res : RRes} (h : tend k b4 true l11 m11 kn hd = some res) : ∃ u ec,know_Union.f k kn (if b4 = 0 then m11 else l11) = some (u,ec) ∧ res = (match ec with | none=>RRes.done u hd | some c=>RRes.zero c):=by
 unfold tend at h;rw [if_pos rfl] at h;obtain ⟨⟨u,ec⟩,hu,h⟩:=zJ.mp h;refine ⟨u,ec,hu,?_⟩;cases ec with
 | none=>exact (zH h).symm
 | some c=>exact (zH h).symm
theorem gate_pass {k : Nat} {a0 a1 a2 a3 : Int} {l4 : List S67} {l5 : List S62} {a6 : Bool} {a7 a8 a9 a10 : Int} {l11 : List S67} {a12 : Int} {b0 b1 b2 b3 b4 b5 : Int} {m6 : List S67} {b7 : Int} {m8 : List S62} {b9 : Int} {b10 : Bool} {m11 : List S67} (h : tgtGate k a0 a1 a2 a3 l4 l5 a6 a7 a8 a9 a10 l11 a12 b0 b1 b2 b3 b4 b5 m6 b7 m8 b9 b10 m11 = some none) : replica_Right.f k a0 a1 a2 a3 l4 l5 a6 a7 a8 a9 a10 l11 a12 = some true ∧ note_Right.f k b0 b1 b2 b3 b4 b5 m6 b7 m8 b9 b10 m11 = some true ∧ target_waited.f a0 a1 a2 a3 l4 l5 a6 a7 a8 a9 a10 l11 a12 b0 b1 b2 b3 b4 b5 m6 b7 m8 b9 b10 m11 = some true ∧ target_unmade.f a0 a1 a2 a3 l4 l5 a6 a7 a8 a9 a10 l11 a12 b0 b1 b2 b3 b4 b5 m6 b7 m8 b9 b10 m11 = some false ∧ target_twins.f a0 a1 a2 a3 l4 l5 a6 a7 a8 a9 a10 l11 a12 b0 b1 b2 b3 b4 b5 m6 b7 m8 b9 b10 m11 = some false ∧ (decide (0 < b4) && (b7 != a10)) = false:=by
 unfold tgtGate at h;obtain ⟨q,h1,h⟩:=zJ.mp h;cases q with
 | false=>cases h
 | true =>
  rw [if_neg (by decide)] at h;obtain ⟨q,h2,h⟩:=zJ.mp h;cases q with
  | false=>cases h
  | true =>
   rw [if_neg (by decide)] at h;obtain ⟨q,h3,h⟩:=zJ.mp h;cases q with
   | false=>cases h
   | true =>
    rw [if_neg (by decide)] at h;obtain ⟨q,h4,h⟩:=zJ.mp h;cases q with
    | true=>cases h
    | false =>
     rw [if_neg (by decide)] at h;obtain ⟨q,h5,h⟩:=zJ.mp h;cases q with
     | true=>cases h
     | false =>
      rw [if_neg (by decide)] at h;cases he : (decide (0 < b4) && (b7 != a10)) with
      | false=>exact ⟨h1,h2,h3,h4,h5,rfl⟩
      | true=>rw [he] at h;cases h
set_option maxRecDepth 100000 in
set_option maxHeartbeats 8000000 in
theorem tAcc_no (k : Nat) (a0 a1 a2 a3 : Int) (l4 : List S67) (l5 : List S62) (a6 : Bool) (a7 a8 a9 a10 : Int) (l11 : List S67) (a12 : Int) (A4 A5 A11 : Option Addr) (c4 c5 c11 : Nat) (b0 b1 b2 b3 b4 b5 : Int) (m6 : List S67) (b7 : Int) (m8 : List S62) (b9 : Int) (b10 : Bool) (m11 : List S67) (M6 M8 M11 : Option Addr) (d6 d8 d11 : Nat) (w : World) (S : Nat → Prop) (o4 : On k67 w S A4 c4 l4) (o5 : On k62 w S A5 c5 l5) (o11 : On k67 w S A11 c11 l11) (p6 : On k67 w S M6 d6 m6) (p8 : On k62 w S M8 d8 m8) (p11 : On k67 w S M11 d11 m11) (res : RRes) (h : tgtGate k a0 a1 a2 a3 l4 l5 a6 a7 a8 a9 a10 l11 a12 b0 b1 b2 b3 b4 b5 m6 b7 m8 b9 b10 m11 = some (some res)) : Calls Tryz.prog 9 #[.agg #[.int .u8 a0,.int .u8 a1,.int .u32 a2,.int .u32 a3,.slice A4 l4.length c4,.slice A5 l5.length c5,.bool a6,.int .u32 a7,.int .u8 a8,.int .u8 a9,.int .u32 a10,.slice A11 l11.length c11,.int .u32 a12],.agg #[.int .i64 b0,.int .u8 b1,.int .u8 b2,.int .u32 b3,.int .u8 b4,.int .u8 b5,.slice M6 m6.length d6,.int .u32 b7,.slice M8 m8.length d8,.int .u8 b9,.bool b10,.slice M11 m11.length d11]] w fun e w'=>RPost errW S w a0 a1 a2 a3 l4 l5 a6 a7 a8 a9 a10 l11 a12 b4 b7 b9 m11 res e w':=by
 unfold tgtGate at h;have H0:=zA h;clear h;have huR:=Tryz.underlying28;have huN:=Tryz.underlying30;have huS:=Tryz.underlying26;have huE:=Tryz.underlying62;have hu35:=Tryz.underlying35;have hu4:=Tryz.underlying4;have huc:=Tryz.underlying70;have eN:=errW_none;have eS:=errW_some;have hmf : ∀ (fn : Fn) (first cap : Array Value) (w : World),(Instr.makeFunc fn first cap).run Tryz.prog w = .ok (.func fn first cap) w:=fun _ _ _ _=>rfl
 have O4':=zA o4;have O5':=zA o5;have O11':=zA o11;have P6':=zA p6;have P8':=zA p8;have P11':=zA p11;clear o4 o5 o11 p6 p8 p11;go_enter_defers Tryz.func9,Tryz.ntmps9;go_wp2_with fail;generalize hW : World.alloc (World.alloc (World.alloc (World.alloc (World.alloc (World.alloc w _) _) _) _) _) _ = w0;have Br0:=zA (al6_0 hW);have Bb0:=zA (al6_1 hW);have Bo0:=zA (al6_2 hW);have Bn0:=zA (al6_3 hW);have Bm0:=zA (al6_4 hW);have Bv0:=zA (al6_5 hW);have HB0:=zA (al6B hW);clear hW;have GG:=zA (show w.heap.size + 6 ≤ w0.heap.size by have:=blk_lt Bv0.out;omega);have HG0:=zA (zM w0.heap.size);have h:=H0.out;clear H0;obtain ⟨q,hq,h⟩:=zJ.mp h;have HQ:=zA hq;have H:=zA h;clear hq h;have r_:=cells13 Br0.out;go_wp2_with fail;refine (replica_Right.calls k a0 a1 a2 a3 _ _ l4 _ _ l5 a6 a7 a8 a9 a10 _ _ l11 a12 q _ (zL O4'.out.row HB0.out) O4'.out.len (zL O5'.out.row HB0.out) O5'.out.len (zL O11'.out.row HB0.out) O11'.out.len HQ.out).mono ?_;rintro ev w1 ⟨rfl,hx⟩;have Br1:=zA (zC Br0.out hx);have Bb1:=zA (zC Bb0.out hx);have Bo1:=zA (zC Bo0.out hx);have Bn1:=zA (zC Bn0.out hx);have Bm1:=zA (zC Bm0.out hx);have Bv1:=zA (zC Bv0.out hx);have HB1:=zA (zG HB0.out hx);have HG1:=zA (zV HG0.out hx.size);clear r_;clear hx HB0 HG0 Br0 Bb0 Bo0 Bn0 Bm0 Bv0;clear HQ;have h:=H.out;clear H;cases q
 ·rw [if_pos rfl] at h;obtain rfl:=zH (zH h);clear h;go_wp2_with fail;refine region_lex (fun (s : Option (Unit)) d w'=>Below w.heap.size w w' ∧ w0.heap.size ≤ w'.heap.size ∧ w'.heap[w.heap.size]? = w1.heap[w.heap.size]? ∧ w'.heap[w.heap.size + 1]? = w1.heap[w.heap.size + 1]? ∧ w'.heap[w.heap.size + 1 + 1]? = w1.heap[w.heap.size + 1 + 1]? ∧ w'.heap[w.heap.size + 1 + 1 + 1]? = w1.heap[w.heap.size + 1 + 1 + 1]? ∧ w'.heap[w.heap.size + 1 + 1 + 1 + 1]? = w1.heap[w.heap.size + 1 + 1 + 1 + 1]? ∧ w'.heap[w.heap.size + 1 + 1 + 1 + 1 + 1]? = (if d 6 = true then some (.cells #[.iface 70 (.int .i64 9)] 35 (0,0)) else w1.heap[w.heap.size + 1 + 1 + 1 + 1 + 1]?)) 7 #[false,false,false,false,false,false,false] (by kernel_rfl) rfl rfl ?_ ?_
  ·exact ⟨pw_below_drewN HB1.out 1,HG1.out,rfl,rfl,rfl,rfl,rfl,rfl⟩
  refine lex_val (k:=0) (N:=some 15) (a':=?a0_1) (.agg #[.int .u8 0,.int .u8 0,.int .u32 0,.int .u32 0,.slice none 0 0,.slice none 0 0,.bool false,.int .u32 0,.int .u8 0,.int .u8 0,.int .u32 0,.slice none 0 0,.int .u32 0]) #[true,false,false,false,false,false,false] rfl rfl (by kernel_rfl) (by rfl) ?h0_1 ?ha0_1 ?r0_1
  case h0_1 =>
   rintro s hs_ d w' hd ⟨hB,hG,hr,hb,ho,hn,hm,hv⟩;have qo_:=cells13 (ho.trans Bo1.out);refine ⟨w',?_,?_⟩
   ·go_simp
    try with_reducible rfl
   ·exact ⟨hB,hG,hr,hb,ho,hn,hm,hv⟩
  case ha0_1 =>
   simp only [Act.put,zK,zP,zQ,i64_w,i32_w];rfl
  case r0_1 =>
   refine lex_val (k:=1) (N:=some 16) (a':=?a1_1) (.agg #[.int .i64 0,.int .u8 0,.int .u8 0,.int .u32 0,.int .u8 0,.int .u8 0,.slice none 0 0,.int .u32 0,.slice none 0 0,.int .u8 0,.bool false,.slice none 0 0]) #[true,true,false,false,false,false,false] rfl rfl (by kernel_rfl) (by rfl) ?h1_1 ?ha1_1 ?r1_1
   case h1_1 =>
    rintro s hs_ d w' hd ⟨hB,hG,hr,hb,ho,hn,hm,hv⟩;have qn_:=cells12 (hn.trans Bn1.out);refine ⟨w',?_,?_⟩
    ·go_simp
     try with_reducible rfl
    ·exact ⟨hB,hG,hr,hb,ho,hn,hm,hv⟩
   case ha1_1 =>
    simp only [Act.put,zK,zP,zQ,i64_w,i32_w];rfl
   case r1_1 =>
    refine lex_val (k:=2) (N:=some 17) (a':=?a2_1) (.iface 70 (.int .i64 9)) #[true,true,true,false,false,false,false] rfl rfl (by kernel_rfl) (by rfl) ?h2_1 ?ha2_1 ?r2_1
    case h2_1 =>
     rintro s hs_ d w' hd ⟨hB,hG,hr,hb,ho,hn,hm,hv⟩;refine ⟨w',?_,?_⟩
     ·go_simp
      try with_reducible rfl
     ·exact ⟨hB,hG,hr,hb,ho,hn,hm,hv⟩
    case ha2_1 =>
     simp only [Act.put,zK,zP,zQ,i64_w,i32_w];rfl
    case r2_1 =>
     refine lex_skip (k:=3) (N:=none) (a':=?a3_1) #[true,true,true,true,false,false,false] rfl rfl (by kernel_rfl) (by rfl) ?h3_1 ?ha3_1 ?r3_1
     case h3_1 =>
      rintro s hs_ d w' hd ⟨hB,hG,hr,hb,ho,hn,hm,hv⟩;have hb_:=ho.trans Bo1.out;have f_:=frz13 hb_;obtain ⟨z0,z1,z2,z3,z4,z5,z6,z7,z8,z9,z10,z11,z12⟩:=cells13 hb_;refine ⟨put_ w' (w.heap.size + 1 + 1) 0 [.int .u8 0,.int .u8 0,.int .u32 0,.int .u32 0,.slice none 0 0,.slice none 0 0,.bool false,.int .u32 0,.int .u8 0,.int .u8 0,.int .u32 0,.slice none 0 0,.int .u32 0],?_,?_⟩
      ·go_simp
       try rfl
      ·exact ⟨put_below _ (by omega) _ _ _ hB,by rw [put_size];exact hG,(put_far _ _ (by omega) _ _ _).trans hr,(put_far _ _ (by omega) _ _ _).trans hb,(own13_0_13 rfl hb_).trans Bo1.out.symm,(put_far _ _ (by omega) _ _ _).trans hn,(put_far _ _ (by omega) _ _ _).trans hm,(put_far _ _ (by omega) _ _ _).trans hv⟩
     case ha3_1=>rfl
     case r3_1 =>
      refine lex_skip (k:=4) (N:=none) (a':=?a4_1) #[true,true,true,true,true,false,false] rfl rfl (by kernel_rfl) (by rfl) ?h4_1 ?ha4_1 ?r4_1
      case h4_1 =>
       rintro s hs_ d w' hd ⟨hB,hG,hr,hb,ho,hn,hm,hv⟩;have hb_:=hn.trans Bn1.out;have f_:=frz13 hb_;obtain ⟨z0,z1,z2,z3,z4,z5,z6,z7,z8,z9,z10,z11⟩:=cells12 hb_;refine ⟨put_ w' (w.heap.size + 1 + 1 + 1) 0 [.int .i64 0,.int .u8 0,.int .u8 0,.int .u32 0,.int .u8 0,.int .u8 0,.slice none 0 0,.int .u32 0,.slice none 0 0,.int .u8 0,.bool false,.slice none 0 0],?_,?_⟩
       ·go_simp
        try rfl
       ·exact ⟨put_below _ (by omega) _ _ _ hB,by rw [put_size];exact hG,(put_far _ _ (by omega) _ _ _).trans hr,(put_far _ _ (by omega) _ _ _).trans hb,(put_far _ _ (by omega) _ _ _).trans ho,(own12_0_12 rfl hb_).trans Bn1.out.symm,(put_far _ _ (by omega) _ _ _).trans hm,(put_far _ _ (by omega) _ _ _).trans hv⟩
      case ha4_1=>rfl
      case r4_1 =>
       refine lex_skip (k:=5) (N:=none) (a':=?a5_1) #[true,true,true,true,true,true,false] rfl rfl (by kernel_rfl) (by rfl) ?h5_1 ?ha5_1 ?r5_1
       case h5_1 =>
        rintro s hs_ d w' hd ⟨hB,hG,hr,hb,ho,hn,hm,hv⟩;have hb_:=hm.trans Bm1.out;have f0:=yA hb_ 0;have z0:=(zI hb_ 0).trans (show _ = some (.bool false) from rfl);refine ⟨put_ w' (w.heap.size + 1 + 1 + 1 + 1) 0 [.bool false],?_,?_⟩
        ·go_simp
         try rfl
        ·exact ⟨put_below _ (by omega) _ _ _ hB,by rw [put_size];exact hG,(put_far _ _ (by omega) _ _ _).trans hr,(put_far _ _ (by omega) _ _ _).trans hb,(put_far _ _ (by omega) _ _ _).trans ho,(put_far _ _ (by omega) _ _ _).trans hn,(own1_0_1 rfl hb_).trans Bm1.out.symm,(put_far _ _ (by omega) _ _ _).trans hv⟩
       case ha5_1=>rfl
       case r5_1 =>
        refine lex_skip (k:=6) (N:=none) (a':=?a6_1) #[true,true,true,true,true,true,true] rfl rfl (by kernel_rfl) (by rfl) ?h6_1 ?ha6_1 ?r6_1
        case h6_1 =>
         rintro s hs_ d w' hd ⟨hB,hG,hr,hb,ho,hn,hm,hv⟩;have hb_:=(hv.trans (if_neg (by simp [hd]))).trans Bv1.out;have f0:=yA hb_ 0;have z0:=(zI hb_ 0).trans (show _ = some (.nilIface) from rfl);refine ⟨put_ w' (w.heap.size + 1 + 1 + 1 + 1 + 1) 0 [.iface 70 (.int .i64 9)],?_,?_⟩
         ·go_simp
          try rfl
         ·exact ⟨put_below _ (by omega) _ _ _ hB,by rw [put_size];exact hG,(put_far _ _ (by omega) _ _ _).trans hr,(put_far _ _ (by omega) _ _ _).trans hb,(put_far _ _ (by omega) _ _ _).trans ho,(put_far _ _ (by omega) _ _ _).trans hn,(put_far _ _ (by omega) _ _ _).trans hm,(own1_0_1 rfl hb_).trans (if_pos rfl).symm⟩
        case ha6_1=>rfl
        case r6_1 =>
         refine lex_done (by kernel_rfl) ?_;rintro w2 ⟨_,hB,hG,hr,hb,ho,hn,hm,hv⟩;have Br2:=zA (hr.trans Br1.out);have Bb2:=zA (hb.trans Bb1.out);have Bo2:=zA (ho.trans Bo1.out);have Bn2:=zA (hn.trans Bn1.out);have Bm2:=zA (hm.trans Bm1.out);have Bv2:=zA (hv.trans (if_pos rfl));have HB2:=zA hB;have HG2:=zA hG;clear hB hG hr hb ho hn hm hv HB1 HG1 Br1 Bb1 Bo1 Bn1 Bm1 Bv1;go_wp2_with fail;refine ⟨_,acc_results rfl _ _ _ _ _ _ _ _ _ _ rfl rfl rfl rfl Bo2.out Bn2.out Bm2.out Bv2.out rfl rfl,?_⟩;exact OutR.zero (by first | rfl | rw [eS]) HB2.out
 rw [if_neg (by decide)] at h;obtain ⟨q,hq,h⟩:=zJ.mp h;have HQ:=zA hq;have H:=zA h;clear hq h;have b_:=cells12 Bb1.out;go_wp2_with fail;refine (note_Right.calls k b0 b1 b2 b3 b4 b5 _ _ m6 b7 _ _ m8 b9 b10 _ _ m11 q _ (zL P6'.out.row HB1.out) P6'.out.len (zL P8'.out.row HB1.out) P8'.out.len (zL P11'.out.row HB1.out) P11'.out.len HQ.out).mono ?_;rintro ev w2 ⟨rfl,hx⟩;have Br2:=zA (zC Br1.out hx);have Bb2:=zA (zC Bb1.out hx);have Bo2:=zA (zC Bo1.out hx);have Bn2:=zA (zC Bn1.out hx);have Bm2:=zA (zC Bm1.out hx);have Bv2:=zA (zC Bv1.out hx);have HB2:=zA (zG HB1.out hx);have HG2:=zA (zV HG1.out hx.size);clear b_;clear hx HB1 HG1 Br1 Bb1 Bo1 Bn1 Bm1 Bv1;clear HQ;have h:=H.out;clear H;cases q
 ·rw [if_pos rfl] at h;obtain rfl:=zH (zH h);clear h;go_wp2_with fail;refine region_lex (fun (s : Option (Unit)) d w'=>Below w.heap.size w w' ∧ w0.heap.size ≤ w'.heap.size ∧ w'.heap[w.heap.size]? = w2.heap[w.heap.size]? ∧ w'.heap[w.heap.size + 1]? = w2.heap[w.heap.size + 1]? ∧ w'.heap[w.heap.size + 1 + 1]? = w2.heap[w.heap.size + 1 + 1]? ∧ w'.heap[w.heap.size + 1 + 1 + 1]? = w2.heap[w.heap.size + 1 + 1 + 1]? ∧ w'.heap[w.heap.size + 1 + 1 + 1 + 1]? = w2.heap[w.heap.size + 1 + 1 + 1 + 1]? ∧ w'.heap[w.heap.size + 1 + 1 + 1 + 1 + 1]? = (if d 6 = true then some (.cells #[.iface 70 (.int .i64 3)] 35 (0,0)) else w2.heap[w.heap.size + 1 + 1 + 1 + 1 + 1]?)) 7 #[false,false,false,false,false,false,false] (by kernel_rfl) rfl rfl ?_ ?_
  ·exact ⟨pw_below_drewN HB2.out 1,HG2.out,rfl,rfl,rfl,rfl,rfl,rfl⟩
  refine lex_val (k:=0) (N:=some 22) (a':=?a0_2) (.agg #[.int .u8 0,.int .u8 0,.int .u32 0,.int .u32 0,.slice none 0 0,.slice none 0 0,.bool false,.int .u32 0,.int .u8 0,.int .u8 0,.int .u32 0,.slice none 0 0,.int .u32 0]) #[true,false,false,false,false,false,false] rfl rfl (by kernel_rfl) (by rfl) ?h0_2 ?ha0_2 ?r0_2
  case h0_2 =>
   rintro s hs_ d w' hd ⟨hB,hG,hr,hb,ho,hn,hm,hv⟩;have qo_:=cells13 (ho.trans Bo2.out);refine ⟨w',?_,?_⟩
   ·go_simp
    try with_reducible rfl
   ·exact ⟨hB,hG,hr,hb,ho,hn,hm,hv⟩
  case ha0_2 =>
   simp only [Act.put,zK,zP,zQ,i64_w,i32_w];rfl
  case r0_2 =>
   refine lex_val (k:=1) (N:=some 23) (a':=?a1_2) (.agg #[.int .i64 0,.int .u8 0,.int .u8 0,.int .u32 0,.int .u8 0,.int .u8 0,.slice none 0 0,.int .u32 0,.slice none 0 0,.int .u8 0,.bool false,.slice none 0 0]) #[true,true,false,false,false,false,false] rfl rfl (by kernel_rfl) (by rfl) ?h1_2 ?ha1_2 ?r1_2
   case h1_2 =>
    rintro s hs_ d w' hd ⟨hB,hG,hr,hb,ho,hn,hm,hv⟩;have qn_:=cells12 (hn.trans Bn2.out);refine ⟨w',?_,?_⟩
    ·go_simp
     try with_reducible rfl
    ·exact ⟨hB,hG,hr,hb,ho,hn,hm,hv⟩
   case ha1_2 =>
    simp only [Act.put,zK,zP,zQ,i64_w,i32_w];rfl
   case r1_2 =>
    refine lex_val (k:=2) (N:=some 24) (a':=?a2_2) (.iface 70 (.int .i64 3)) #[true,true,true,false,false,false,false] rfl rfl (by kernel_rfl) (by rfl) ?h2_2 ?ha2_2 ?r2_2
    case h2_2 =>
     rintro s hs_ d w' hd ⟨hB,hG,hr,hb,ho,hn,hm,hv⟩;refine ⟨w',?_,?_⟩
     ·go_simp
      try with_reducible rfl
     ·exact ⟨hB,hG,hr,hb,ho,hn,hm,hv⟩
    case ha2_2 =>
     simp only [Act.put,zK,zP,zQ,i64_w,i32_w];rfl
    case r2_2 =>
     refine lex_skip (k:=3) (N:=none) (a':=?a3_2) #[true,true,true,true,false,false,false] rfl rfl (by kernel_rfl) (by rfl) ?h3_2 ?ha3_2 ?r3_2
     case h3_2 =>
      rintro s hs_ d w' hd ⟨hB,hG,hr,hb,ho,hn,hm,hv⟩;have hb_:=ho.trans Bo2.out;have f_:=frz13 hb_;obtain ⟨z0,z1,z2,z3,z4,z5,z6,z7,z8,z9,z10,z11,z12⟩:=cells13 hb_;refine ⟨put_ w' (w.heap.size + 1 + 1) 0 [.int .u8 0,.int .u8 0,.int .u32 0,.int .u32 0,.slice none 0 0,.slice none 0 0,.bool false,.int .u32 0,.int .u8 0,.int .u8 0,.int .u32 0,.slice none 0 0,.int .u32 0],?_,?_⟩
      ·go_simp
       try rfl
      ·exact ⟨put_below _ (by omega) _ _ _ hB,by rw [put_size];exact hG,(put_far _ _ (by omega) _ _ _).trans hr,(put_far _ _ (by omega) _ _ _).trans hb,(own13_0_13 rfl hb_).trans Bo2.out.symm,(put_far _ _ (by omega) _ _ _).trans hn,(put_far _ _ (by omega) _ _ _).trans hm,(put_far _ _ (by omega) _ _ _).trans hv⟩
     case ha3_2=>rfl
     case r3_2 =>
      refine lex_skip (k:=4) (N:=none) (a':=?a4_2) #[true,true,true,true,true,false,false] rfl rfl (by kernel_rfl) (by rfl) ?h4_2 ?ha4_2 ?r4_2
      case h4_2 =>
       rintro s hs_ d w' hd ⟨hB,hG,hr,hb,ho,hn,hm,hv⟩;have hb_:=hn.trans Bn2.out;have f_:=frz13 hb_;obtain ⟨z0,z1,z2,z3,z4,z5,z6,z7,z8,z9,z10,z11⟩:=cells12 hb_;refine ⟨put_ w' (w.heap.size + 1 + 1 + 1) 0 [.int .i64 0,.int .u8 0,.int .u8 0,.int .u32 0,.int .u8 0,.int .u8 0,.slice none 0 0,.int .u32 0,.slice none 0 0,.int .u8 0,.bool false,.slice none 0 0],?_,?_⟩
       ·go_simp
        try rfl
       ·exact ⟨put_below _ (by omega) _ _ _ hB,by rw [put_size];exact hG,(put_far _ _ (by omega) _ _ _).trans hr,(put_far _ _ (by omega) _ _ _).trans hb,(put_far _ _ (by omega) _ _ _).trans ho,(own12_0_12 rfl hb_).trans Bn2.out.symm,(put_far _ _ (by omega) _ _ _).trans hm,(put_far _ _ (by omega) _ _ _).trans hv⟩
      case ha4_2=>rfl
      case r4_2 =>
       refine lex_skip (k:=5) (N:=none) (a':=?a5_2) #[true,true,true,true,true,true,false] rfl rfl (by kernel_rfl) (by rfl) ?h5_2 ?ha5_2 ?r5_2
       case h5_2 =>
        rintro s hs_ d w' hd ⟨hB,hG,hr,hb,ho,hn,hm,hv⟩;have hb_:=hm.trans Bm2.out;have f0:=yA hb_ 0;have z0:=(zI hb_ 0).trans (show _ = some (.bool false) from rfl);refine ⟨put_ w' (w.heap.size + 1 + 1 + 1 + 1) 0 [.bool false],?_,?_⟩
        ·go_simp
         try rfl
        ·exact ⟨put_below _ (by omega) _ _ _ hB,by rw [put_size];exact hG,(put_far _ _ (by omega) _ _ _).trans hr,(put_far _ _ (by omega) _ _ _).trans hb,(put_far _ _ (by omega) _ _ _).trans ho,(put_far _ _ (by omega) _ _ _).trans hn,(own1_0_1 rfl hb_).trans Bm2.out.symm,(put_far _ _ (by omega) _ _ _).trans hv⟩
       case ha5_2=>rfl
       case r5_2 =>
        refine lex_skip (k:=6) (N:=none) (a':=?a6_2) #[true,true,true,true,true,true,true] rfl rfl (by kernel_rfl) (by rfl) ?h6_2 ?ha6_2 ?r6_2
        case h6_2 =>
         rintro s hs_ d w' hd ⟨hB,hG,hr,hb,ho,hn,hm,hv⟩;have hb_:=(hv.trans (if_neg (by simp [hd]))).trans Bv2.out;have f0:=yA hb_ 0;have z0:=(zI hb_ 0).trans (show _ = some (.nilIface) from rfl);refine ⟨put_ w' (w.heap.size + 1 + 1 + 1 + 1 + 1) 0 [.iface 70 (.int .i64 3)],?_,?_⟩
         ·go_simp
          try rfl
         ·exact ⟨put_below _ (by omega) _ _ _ hB,by rw [put_size];exact hG,(put_far _ _ (by omega) _ _ _).trans hr,(put_far _ _ (by omega) _ _ _).trans hb,(put_far _ _ (by omega) _ _ _).trans ho,(put_far _ _ (by omega) _ _ _).trans hn,(put_far _ _ (by omega) _ _ _).trans hm,(own1_0_1 rfl hb_).trans (if_pos rfl).symm⟩
        case ha6_2=>rfl
        case r6_2 =>
         refine lex_done (by kernel_rfl) ?_;rintro w3 ⟨_,hB,hG,hr,hb,ho,hn,hm,hv⟩;have Br3:=zA (hr.trans Br2.out);have Bb3:=zA (hb.trans Bb2.out);have Bo3:=zA (ho.trans Bo2.out);have Bn3:=zA (hn.trans Bn2.out);have Bm3:=zA (hm.trans Bm2.out);have Bv3:=zA (hv.trans (if_pos rfl));have HB3:=zA hB;have HG3:=zA hG;clear hB hG hr hb ho hn hm hv HB2 HG2 Br2 Bb2 Bo2 Bn2 Bm2 Bv2;go_wp2_with fail;refine ⟨_,acc_results rfl _ _ _ _ _ _ _ _ _ _ rfl rfl rfl rfl Bo3.out Bn3.out Bm3.out Bv3.out rfl rfl,?_⟩;exact OutR.zero (by first | rfl | rw [eS]) HB3.out
 rw [if_neg (by decide)] at h;obtain ⟨q,hq,h⟩:=zJ.mp h;have HQ:=zA hq;have H:=zA h;clear hq h;have r_:=cells13 Br2.out;have b_:=cells12 Bb2.out;go_wp2_with fail;refine (target_waited.calls a0 a1 a2 a3 _ _ l4 _ _ l5 a6 a7 a8 a9 a10 _ _ l11 a12 b0 b1 b2 b3 b4 b5 _ _ m6 b7 _ _ m8 b9 b10 _ _ m11 q _ (zL O4'.out.row HB2.out) O4'.out.len (zL O5'.out.row HB2.out) O5'.out.len (zL O11'.out.row HB2.out) O11'.out.len (zL P6'.out.row HB2.out) P6'.out.len (zL P8'.out.row HB2.out) P8'.out.len (zL P11'.out.row HB2.out) P11'.out.len HQ.out).mono ?_;rintro ev w3 ⟨rfl,hx⟩;have Br3:=zA (zC Br2.out hx);have Bb3:=zA (zC Bb2.out hx);have Bo3:=zA (zC Bo2.out hx);have Bn3:=zA (zC Bn2.out hx);have Bm3:=zA (zC Bm2.out hx);have Bv3:=zA (zC Bv2.out hx);have HB3:=zA (zG HB2.out hx);have HG3:=zA (zV HG2.out hx.size);clear r_ b_;clear hx HB2 HG2 Br2 Bb2 Bo2 Bn2 Bm2 Bv2;clear HQ;have h:=H.out;clear H;cases q
 ·rw [if_pos rfl] at h;obtain rfl:=zH (zH h);clear h;go_wp2_with fail;refine region_lex (fun (s : Option (Unit)) d w'=>Below w.heap.size w w' ∧ w0.heap.size ≤ w'.heap.size ∧ w'.heap[w.heap.size]? = w3.heap[w.heap.size]? ∧ w'.heap[w.heap.size + 1]? = w3.heap[w.heap.size + 1]? ∧ w'.heap[w.heap.size + 1 + 1]? = w3.heap[w.heap.size + 1 + 1]? ∧ w'.heap[w.heap.size + 1 + 1 + 1]? = w3.heap[w.heap.size + 1 + 1 + 1]? ∧ w'.heap[w.heap.size + 1 + 1 + 1 + 1]? = w3.heap[w.heap.size + 1 + 1 + 1 + 1]? ∧ w'.heap[w.heap.size + 1 + 1 + 1 + 1 + 1]? = (if d 6 = true then some (.cells #[.iface 70 (.int .i64 4)] 35 (0,0)) else w3.heap[w.heap.size + 1 + 1 + 1 + 1 + 1]?)) 7 #[false,false,false,false,false,false,false] (by kernel_rfl) rfl rfl ?_ ?_
  ·exact ⟨pw_below_drewN HB3.out 1,HG3.out,rfl,rfl,rfl,rfl,rfl,rfl⟩
  refine lex_val (k:=0) (N:=some 30) (a':=?a0_3) (.agg #[.int .u8 0,.int .u8 0,.int .u32 0,.int .u32 0,.slice none 0 0,.slice none 0 0,.bool false,.int .u32 0,.int .u8 0,.int .u8 0,.int .u32 0,.slice none 0 0,.int .u32 0]) #[true,false,false,false,false,false,false] rfl rfl (by kernel_rfl) (by rfl) ?h0_3 ?ha0_3 ?r0_3
  case h0_3 =>
   rintro s hs_ d w' hd ⟨hB,hG,hr,hb,ho,hn,hm,hv⟩;have qo_:=cells13 (ho.trans Bo3.out);refine ⟨w',?_,?_⟩
   ·go_simp
    try with_reducible rfl
   ·exact ⟨hB,hG,hr,hb,ho,hn,hm,hv⟩
  case ha0_3 =>
   simp only [Act.put,zK,zP,zQ,i64_w,i32_w];rfl
  case r0_3 =>
   refine lex_val (k:=1) (N:=some 31) (a':=?a1_3) (.agg #[.int .i64 0,.int .u8 0,.int .u8 0,.int .u32 0,.int .u8 0,.int .u8 0,.slice none 0 0,.int .u32 0,.slice none 0 0,.int .u8 0,.bool false,.slice none 0 0]) #[true,true,false,false,false,false,false] rfl rfl (by kernel_rfl) (by rfl) ?h1_3 ?ha1_3 ?r1_3
   case h1_3 =>
    rintro s hs_ d w' hd ⟨hB,hG,hr,hb,ho,hn,hm,hv⟩;have qn_:=cells12 (hn.trans Bn3.out);refine ⟨w',?_,?_⟩
    ·go_simp
     try with_reducible rfl
    ·exact ⟨hB,hG,hr,hb,ho,hn,hm,hv⟩
   case ha1_3 =>
    simp only [Act.put,zK,zP,zQ,i64_w,i32_w];rfl
   case r1_3 =>
    refine lex_val (k:=2) (N:=some 32) (a':=?a2_3) (.iface 70 (.int .i64 4)) #[true,true,true,false,false,false,false] rfl rfl (by kernel_rfl) (by rfl) ?h2_3 ?ha2_3 ?r2_3
    case h2_3 =>
     rintro s hs_ d w' hd ⟨hB,hG,hr,hb,ho,hn,hm,hv⟩;refine ⟨w',?_,?_⟩
     ·go_simp
      try with_reducible rfl
     ·exact ⟨hB,hG,hr,hb,ho,hn,hm,hv⟩
    case ha2_3 =>
     simp only [Act.put,zK,zP,zQ,i64_w,i32_w];rfl
    case r2_3 =>
     refine lex_skip (k:=3) (N:=none) (a':=?a3_3) #[true,true,true,true,false,false,false] rfl rfl (by kernel_rfl) (by rfl) ?h3_3 ?ha3_3 ?r3_3
     case h3_3 =>
      rintro s hs_ d w' hd ⟨hB,hG,hr,hb,ho,hn,hm,hv⟩;have hb_:=ho.trans Bo3.out;have f_:=frz13 hb_;obtain ⟨z0,z1,z2,z3,z4,z5,z6,z7,z8,z9,z10,z11,z12⟩:=cells13 hb_;refine ⟨put_ w' (w.heap.size + 1 + 1) 0 [.int .u8 0,.int .u8 0,.int .u32 0,.int .u32 0,.slice none 0 0,.slice none 0 0,.bool false,.int .u32 0,.int .u8 0,.int .u8 0,.int .u32 0,.slice none 0 0,.int .u32 0],?_,?_⟩
      ·go_simp
       try rfl
      ·exact ⟨put_below _ (by omega) _ _ _ hB,by rw [put_size];exact hG,(put_far _ _ (by omega) _ _ _).trans hr,(put_far _ _ (by omega) _ _ _).trans hb,(own13_0_13 rfl hb_).trans Bo3.out.symm,(put_far _ _ (by omega) _ _ _).trans hn,(put_far _ _ (by omega) _ _ _).trans hm,(put_far _ _ (by omega) _ _ _).trans hv⟩
     case ha3_3=>rfl
     case r3_3 =>
      refine lex_skip (k:=4) (N:=none) (a':=?a4_3) #[true,true,true,true,true,false,false] rfl rfl (by kernel_rfl) (by rfl) ?h4_3 ?ha4_3 ?r4_3
      case h4_3 =>
       rintro s hs_ d w' hd ⟨hB,hG,hr,hb,ho,hn,hm,hv⟩;have hb_:=hn.trans Bn3.out;have f_:=frz13 hb_;obtain ⟨z0,z1,z2,z3,z4,z5,z6,z7,z8,z9,z10,z11⟩:=cells12 hb_;refine ⟨put_ w' (w.heap.size + 1 + 1 + 1) 0 [.int .i64 0,.int .u8 0,.int .u8 0,.int .u32 0,.int .u8 0,.int .u8 0,.slice none 0 0,.int .u32 0,.slice none 0 0,.int .u8 0,.bool false,.slice none 0 0],?_,?_⟩
       ·go_simp
        try rfl
       ·exact ⟨put_below _ (by omega) _ _ _ hB,by rw [put_size];exact hG,(put_far _ _ (by omega) _ _ _).trans hr,(put_far _ _ (by omega) _ _ _).trans hb,(put_far _ _ (by omega) _ _ _).trans ho,(own12_0_12 rfl hb_).trans Bn3.out.symm,(put_far _ _ (by omega) _ _ _).trans hm,(put_far _ _ (by omega) _ _ _).trans hv⟩
      case ha4_3=>rfl
      case r4_3 =>
       refine lex_skip (k:=5) (N:=none) (a':=?a5_3) #[true,true,true,true,true,true,false] rfl rfl (by kernel_rfl) (by rfl) ?h5_3 ?ha5_3 ?r5_3
       case h5_3 =>
        rintro s hs_ d w' hd ⟨hB,hG,hr,hb,ho,hn,hm,hv⟩;have hb_:=hm.trans Bm3.out;have f0:=yA hb_ 0;have z0:=(zI hb_ 0).trans (show _ = some (.bool false) from rfl);refine ⟨put_ w' (w.heap.size + 1 + 1 + 1 + 1) 0 [.bool false],?_,?_⟩
        ·go_simp
         try rfl
        ·exact ⟨put_below _ (by omega) _ _ _ hB,by rw [put_size];exact hG,(put_far _ _ (by omega) _ _ _).trans hr,(put_far _ _ (by omega) _ _ _).trans hb,(put_far _ _ (by omega) _ _ _).trans ho,(put_far _ _ (by omega) _ _ _).trans hn,(own1_0_1 rfl hb_).trans Bm3.out.symm,(put_far _ _ (by omega) _ _ _).trans hv⟩
       case ha5_3=>rfl
       case r5_3 =>
        refine lex_skip (k:=6) (N:=none) (a':=?a6_3) #[true,true,true,true,true,true,true] rfl rfl (by kernel_rfl) (by rfl) ?h6_3 ?ha6_3 ?r6_3
        case h6_3 =>
         rintro s hs_ d w' hd ⟨hB,hG,hr,hb,ho,hn,hm,hv⟩;have hb_:=(hv.trans (if_neg (by simp [hd]))).trans Bv3.out;have f0:=yA hb_ 0;have z0:=(zI hb_ 0).trans (show _ = some (.nilIface) from rfl);refine ⟨put_ w' (w.heap.size + 1 + 1 + 1 + 1 + 1) 0 [.iface 70 (.int .i64 4)],?_,?_⟩
         ·go_simp
          try rfl
         ·exact ⟨put_below _ (by omega) _ _ _ hB,by rw [put_size];exact hG,(put_far _ _ (by omega) _ _ _).trans hr,(put_far _ _ (by omega) _ _ _).trans hb,(put_far _ _ (by omega) _ _ _).trans ho,(put_far _ _ (by omega) _ _ _).trans hn,(put_far _ _ (by omega) _ _ _).trans hm,(own1_0_1 rfl hb_).trans (if_pos rfl).symm⟩
        case ha6_3=>rfl
        case r6_3 =>
         refine lex_done (by kernel_rfl) ?_;rintro w4 ⟨_,hB,hG,hr,hb,ho,hn,hm,hv⟩;have Br4:=zA (hr.trans Br3.out);have Bb4:=zA (hb.trans Bb3.out);have Bo4:=zA (ho.trans Bo3.out);have Bn4:=zA (hn.trans Bn3.out);have Bm4:=zA (hm.trans Bm3.out);have Bv4:=zA (hv.trans (if_pos rfl));have HB4:=zA hB;have HG4:=zA hG;clear hB hG hr hb ho hn hm hv HB3 HG3 Br3 Bb3 Bo3 Bn3 Bm3 Bv3;go_wp2_with fail;refine ⟨_,acc_results rfl _ _ _ _ _ _ _ _ _ _ rfl rfl rfl rfl Bo4.out Bn4.out Bm4.out Bv4.out rfl rfl,?_⟩;exact OutR.zero (by first | rfl | rw [eS]) HB4.out
 rw [if_neg (by decide)] at h;obtain ⟨q,hq,h⟩:=zJ.mp h;have HQ:=zA hq;have H:=zA h;clear hq h;have r_:=cells13 Br3.out;have b_:=cells12 Bb3.out;go_wp2_with fail;refine (target_unmade.calls a0 a1 a2 a3 _ _ l4 _ _ l5 a6 a7 a8 a9 a10 _ _ l11 a12 b0 b1 b2 b3 b4 b5 _ _ m6 b7 _ _ m8 b9 b10 _ _ m11 q _ (zL O4'.out.row HB3.out) O4'.out.len (zL O5'.out.row HB3.out) O5'.out.len (zL O11'.out.row HB3.out) O11'.out.len (zL P6'.out.row HB3.out) P6'.out.len (zL P8'.out.row HB3.out) P8'.out.len (zL P11'.out.row HB3.out) P11'.out.len HQ.out).mono ?_;rintro ev w4 ⟨rfl,hx⟩;have Br4:=zA (zC Br3.out hx);have Bb4:=zA (zC Bb3.out hx);have Bo4:=zA (zC Bo3.out hx);have Bn4:=zA (zC Bn3.out hx);have Bm4:=zA (zC Bm3.out hx);have Bv4:=zA (zC Bv3.out hx);have HB4:=zA (zG HB3.out hx);have HG4:=zA (zV HG3.out hx.size);clear r_ b_;clear hx HB3 HG3 Br3 Bb3 Bo3 Bn3 Bm3 Bv3;clear HQ;have h:=H.out;clear H;cases q;rotate_left
 ·rw [if_pos rfl] at h;obtain rfl:=zH (zH h);clear h;go_wp2_with fail;refine region_lex (fun (s : Option (Unit)) d w'=>Below w.heap.size w w' ∧ w0.heap.size ≤ w'.heap.size ∧ w'.heap[w.heap.size]? = w4.heap[w.heap.size]? ∧ w'.heap[w.heap.size + 1]? = w4.heap[w.heap.size + 1]? ∧ w'.heap[w.heap.size + 1 + 1]? = w4.heap[w.heap.size + 1 + 1]? ∧ w'.heap[w.heap.size + 1 + 1 + 1]? = w4.heap[w.heap.size + 1 + 1 + 1]? ∧ w'.heap[w.heap.size + 1 + 1 + 1 + 1]? = w4.heap[w.heap.size + 1 + 1 + 1 + 1]? ∧ w'.heap[w.heap.size + 1 + 1 + 1 + 1 + 1]? = (if d 6 = true then some (.cells #[.iface 70 (.int .i64 9)] 35 (0,0)) else w4.heap[w.heap.size + 1 + 1 + 1 + 1 + 1]?)) 7 #[false,false,false,false,false,false,false] (by kernel_rfl) rfl rfl ?_ ?_
  ·exact ⟨pw_below_drewN HB4.out 1,HG4.out,rfl,rfl,rfl,rfl,rfl,rfl⟩
  refine lex_val (k:=0) (N:=some 42) (a':=?a0_4) (.agg #[.int .u8 0,.int .u8 0,.int .u32 0,.int .u32 0,.slice none 0 0,.slice none 0 0,.bool false,.int .u32 0,.int .u8 0,.int .u8 0,.int .u32 0,.slice none 0 0,.int .u32 0]) #[true,false,false,false,false,false,false] rfl rfl (by kernel_rfl) (by rfl) ?h0_4 ?ha0_4 ?r0_4
  case h0_4 =>
   rintro s hs_ d w' hd ⟨hB,hG,hr,hb,ho,hn,hm,hv⟩;have qo_:=cells13 (ho.trans Bo4.out);refine ⟨w',?_,?_⟩
   ·go_simp
    try with_reducible rfl
   ·exact ⟨hB,hG,hr,hb,ho,hn,hm,hv⟩
  case ha0_4 =>
   simp only [Act.put,zK,zP,zQ,i64_w,i32_w];rfl
  case r0_4 =>
   refine lex_val (k:=1) (N:=some 43) (a':=?a1_4) (.agg #[.int .i64 0,.int .u8 0,.int .u8 0,.int .u32 0,.int .u8 0,.int .u8 0,.slice none 0 0,.int .u32 0,.slice none 0 0,.int .u8 0,.bool false,.slice none 0 0]) #[true,true,false,false,false,false,false] rfl rfl (by kernel_rfl) (by rfl) ?h1_4 ?ha1_4 ?r1_4
   case h1_4 =>
    rintro s hs_ d w' hd ⟨hB,hG,hr,hb,ho,hn,hm,hv⟩;have qn_:=cells12 (hn.trans Bn4.out);refine ⟨w',?_,?_⟩
    ·go_simp
     try with_reducible rfl
    ·exact ⟨hB,hG,hr,hb,ho,hn,hm,hv⟩
   case ha1_4 =>
    simp only [Act.put,zK,zP,zQ,i64_w,i32_w];rfl
   case r1_4 =>
    refine lex_val (k:=2) (N:=some 44) (a':=?a2_4) (.iface 70 (.int .i64 9)) #[true,true,true,false,false,false,false] rfl rfl (by kernel_rfl) (by rfl) ?h2_4 ?ha2_4 ?r2_4
    case h2_4 =>
     rintro s hs_ d w' hd ⟨hB,hG,hr,hb,ho,hn,hm,hv⟩;refine ⟨w',?_,?_⟩
     ·go_simp
      try with_reducible rfl
     ·exact ⟨hB,hG,hr,hb,ho,hn,hm,hv⟩
    case ha2_4 =>
     simp only [Act.put,zK,zP,zQ,i64_w,i32_w];rfl
    case r2_4 =>
     refine lex_skip (k:=3) (N:=none) (a':=?a3_4) #[true,true,true,true,false,false,false] rfl rfl (by kernel_rfl) (by rfl) ?h3_4 ?ha3_4 ?r3_4
     case h3_4 =>
      rintro s hs_ d w' hd ⟨hB,hG,hr,hb,ho,hn,hm,hv⟩;have hb_:=ho.trans Bo4.out;have f_:=frz13 hb_;obtain ⟨z0,z1,z2,z3,z4,z5,z6,z7,z8,z9,z10,z11,z12⟩:=cells13 hb_;refine ⟨put_ w' (w.heap.size + 1 + 1) 0 [.int .u8 0,.int .u8 0,.int .u32 0,.int .u32 0,.slice none 0 0,.slice none 0 0,.bool false,.int .u32 0,.int .u8 0,.int .u8 0,.int .u32 0,.slice none 0 0,.int .u32 0],?_,?_⟩
      ·go_simp
       try rfl
      ·exact ⟨put_below _ (by omega) _ _ _ hB,by rw [put_size];exact hG,(put_far _ _ (by omega) _ _ _).trans hr,(put_far _ _ (by omega) _ _ _).trans hb,(own13_0_13 rfl hb_).trans Bo4.out.symm,(put_far _ _ (by omega) _ _ _).trans hn,(put_far _ _ (by omega) _ _ _).trans hm,(put_far _ _ (by omega) _ _ _).trans hv⟩
     case ha3_4=>rfl
     case r3_4 =>
      refine lex_skip (k:=4) (N:=none) (a':=?a4_4) #[true,true,true,true,true,false,false] rfl rfl (by kernel_rfl) (by rfl) ?h4_4 ?ha4_4 ?r4_4
      case h4_4 =>
       rintro s hs_ d w' hd ⟨hB,hG,hr,hb,ho,hn,hm,hv⟩;have hb_:=hn.trans Bn4.out;have f_:=frz13 hb_;obtain ⟨z0,z1,z2,z3,z4,z5,z6,z7,z8,z9,z10,z11⟩:=cells12 hb_;refine ⟨put_ w' (w.heap.size + 1 + 1 + 1) 0 [.int .i64 0,.int .u8 0,.int .u8 0,.int .u32 0,.int .u8 0,.int .u8 0,.slice none 0 0,.int .u32 0,.slice none 0 0,.int .u8 0,.bool false,.slice none 0 0],?_,?_⟩
       ·go_simp
        try rfl
       ·exact ⟨put_below _ (by omega) _ _ _ hB,by rw [put_size];exact hG,(put_far _ _ (by omega) _ _ _).trans hr,(put_far _ _ (by omega) _ _ _).trans hb,(put_far _ _ (by omega) _ _ _).trans ho,(own12_0_12 rfl hb_).trans Bn4.out.symm,(put_far _ _ (by omega) _ _ _).trans hm,(put_far _ _ (by omega) _ _ _).trans hv⟩
      case ha4_4=>rfl
      case r4_4 =>
       refine lex_skip (k:=5) (N:=none) (a':=?a5_4) #[true,true,true,true,true,true,false] rfl rfl (by kernel_rfl) (by rfl) ?h5_4 ?ha5_4 ?r5_4
       case h5_4 =>
        rintro s hs_ d w' hd ⟨hB,hG,hr,hb,ho,hn,hm,hv⟩;have hb_:=hm.trans Bm4.out;have f0:=yA hb_ 0;have z0:=(zI hb_ 0).trans (show _ = some (.bool false) from rfl);refine ⟨put_ w' (w.heap.size + 1 + 1 + 1 + 1) 0 [.bool false],?_,?_⟩
        ·go_simp
         try rfl
        ·exact ⟨put_below _ (by omega) _ _ _ hB,by rw [put_size];exact hG,(put_far _ _ (by omega) _ _ _).trans hr,(put_far _ _ (by omega) _ _ _).trans hb,(put_far _ _ (by omega) _ _ _).trans ho,(put_far _ _ (by omega) _ _ _).trans hn,(own1_0_1 rfl hb_).trans Bm4.out.symm,(put_far _ _ (by omega) _ _ _).trans hv⟩
       case ha5_4=>rfl
       case r5_4 =>
        refine lex_skip (k:=6) (N:=none) (a':=?a6_4) #[true,true,true,true,true,true,true] rfl rfl (by kernel_rfl) (by rfl) ?h6_4 ?ha6_4 ?r6_4
        case h6_4 =>
         rintro s hs_ d w' hd ⟨hB,hG,hr,hb,ho,hn,hm,hv⟩;have hb_:=(hv.trans (if_neg (by simp [hd]))).trans Bv4.out;have f0:=yA hb_ 0;have z0:=(zI hb_ 0).trans (show _ = some (.nilIface) from rfl);refine ⟨put_ w' (w.heap.size + 1 + 1 + 1 + 1 + 1) 0 [.iface 70 (.int .i64 9)],?_,?_⟩
         ·go_simp
          try rfl
         ·exact ⟨put_below _ (by omega) _ _ _ hB,by rw [put_size];exact hG,(put_far _ _ (by omega) _ _ _).trans hr,(put_far _ _ (by omega) _ _ _).trans hb,(put_far _ _ (by omega) _ _ _).trans ho,(put_far _ _ (by omega) _ _ _).trans hn,(put_far _ _ (by omega) _ _ _).trans hm,(own1_0_1 rfl hb_).trans (if_pos rfl).symm⟩
        case ha6_4=>rfl
        case r6_4 =>
         refine lex_done (by kernel_rfl) ?_;rintro w5 ⟨_,hB,hG,hr,hb,ho,hn,hm,hv⟩;have Br5:=zA (hr.trans Br4.out);have Bb5:=zA (hb.trans Bb4.out);have Bo5:=zA (ho.trans Bo4.out);have Bn5:=zA (hn.trans Bn4.out);have Bm5:=zA (hm.trans Bm4.out);have Bv5:=zA (hv.trans (if_pos rfl));have HB5:=zA hB;have HG5:=zA hG;clear hB hG hr hb ho hn hm hv HB4 HG4 Br4 Bb4 Bo4 Bn4 Bm4 Bv4;go_wp2_with fail;refine ⟨_,acc_results rfl _ _ _ _ _ _ _ _ _ _ rfl rfl rfl rfl Bo5.out Bn5.out Bm5.out Bv5.out rfl rfl,?_⟩;exact OutR.zero (by first | rfl | rw [eS]) HB5.out
 rw [if_neg (by decide)] at h;obtain ⟨q,hq,h⟩:=zJ.mp h;have HQ:=zA hq;have H:=zA h;clear hq h;have r_:=cells13 Br4.out;have b_:=cells12 Bb4.out;go_wp2_with fail;refine (target_twins.calls a0 a1 a2 a3 _ _ l4 _ _ l5 a6 a7 a8 a9 a10 _ _ l11 a12 b0 b1 b2 b3 b4 b5 _ _ m6 b7 _ _ m8 b9 b10 _ _ m11 q _ (zL O4'.out.row HB4.out) O4'.out.len (zL O5'.out.row HB4.out) O5'.out.len (zL O11'.out.row HB4.out) O11'.out.len (zL P6'.out.row HB4.out) P6'.out.len (zL P8'.out.row HB4.out) P8'.out.len (zL P11'.out.row HB4.out) P11'.out.len HQ.out).mono ?_;rintro ev w5 ⟨rfl,hx⟩;have Br5:=zA (zC Br4.out hx);have Bb5:=zA (zC Bb4.out hx);have Bo5:=zA (zC Bo4.out hx);have Bn5:=zA (zC Bn4.out hx);have Bm5:=zA (zC Bm4.out hx);have Bv5:=zA (zC Bv4.out hx);have HB5:=zA (zG HB4.out hx);have HG5:=zA (zV HG4.out hx.size);clear r_ b_;clear hx HB4 HG4 Br4 Bb4 Bo4 Bn4 Bm4 Bv4;clear HQ;have h:=H.out;clear H;cases q;rotate_left
 ·rw [if_pos rfl] at h;obtain rfl:=zH (zH h);clear h;go_wp2_with fail;refine region_lex (fun (s : Option (Unit)) d w'=>Below w.heap.size w w' ∧ w0.heap.size ≤ w'.heap.size ∧ w'.heap[w.heap.size]? = w5.heap[w.heap.size]? ∧ w'.heap[w.heap.size + 1]? = w5.heap[w.heap.size + 1]? ∧ w'.heap[w.heap.size + 1 + 1]? = w5.heap[w.heap.size + 1 + 1]? ∧ w'.heap[w.heap.size + 1 + 1 + 1]? = w5.heap[w.heap.size + 1 + 1 + 1]? ∧ w'.heap[w.heap.size + 1 + 1 + 1 + 1]? = w5.heap[w.heap.size + 1 + 1 + 1 + 1]? ∧ w'.heap[w.heap.size + 1 + 1 + 1 + 1 + 1]? = (if d 6 = true then some (.cells #[.iface 70 (.int .i64 9)] 35 (0,0)) else w5.heap[w.heap.size + 1 + 1 + 1 + 1 + 1]?)) 7 #[false,false,false,false,false,false,false] (by kernel_rfl) rfl rfl ?_ ?_
  ·exact ⟨pw_below_drewN HB5.out 1,HG5.out,rfl,rfl,rfl,rfl,rfl,rfl⟩
  refine lex_val (k:=0) (N:=some 42) (a':=?a0_5) (.agg #[.int .u8 0,.int .u8 0,.int .u32 0,.int .u32 0,.slice none 0 0,.slice none 0 0,.bool false,.int .u32 0,.int .u8 0,.int .u8 0,.int .u32 0,.slice none 0 0,.int .u32 0]) #[true,false,false,false,false,false,false] rfl rfl (by kernel_rfl) (by rfl) ?h0_5 ?ha0_5 ?r0_5
  case h0_5 =>
   rintro s hs_ d w' hd ⟨hB,hG,hr,hb,ho,hn,hm,hv⟩;have qo_:=cells13 (ho.trans Bo5.out);refine ⟨w',?_,?_⟩
   ·go_simp
    try with_reducible rfl
   ·exact ⟨hB,hG,hr,hb,ho,hn,hm,hv⟩
  case ha0_5 =>
   simp only [Act.put,zK,zP,zQ,i64_w,i32_w];rfl
  case r0_5 =>
   refine lex_val (k:=1) (N:=some 43) (a':=?a1_5) (.agg #[.int .i64 0,.int .u8 0,.int .u8 0,.int .u32 0,.int .u8 0,.int .u8 0,.slice none 0 0,.int .u32 0,.slice none 0 0,.int .u8 0,.bool false,.slice none 0 0]) #[true,true,false,false,false,false,false] rfl rfl (by kernel_rfl) (by rfl) ?h1_5 ?ha1_5 ?r1_5
   case h1_5 =>
    rintro s hs_ d w' hd ⟨hB,hG,hr,hb,ho,hn,hm,hv⟩;have qn_:=cells12 (hn.trans Bn5.out);refine ⟨w',?_,?_⟩
    ·go_simp
     try with_reducible rfl
    ·exact ⟨hB,hG,hr,hb,ho,hn,hm,hv⟩
   case ha1_5 =>
    simp only [Act.put,zK,zP,zQ,i64_w,i32_w];rfl
   case r1_5 =>
    refine lex_val (k:=2) (N:=some 44) (a':=?a2_5) (.iface 70 (.int .i64 9)) #[true,true,true,false,false,false,false] rfl rfl (by kernel_rfl) (by rfl) ?h2_5 ?ha2_5 ?r2_5
    case h2_5 =>
     rintro s hs_ d w' hd ⟨hB,hG,hr,hb,ho,hn,hm,hv⟩;refine ⟨w',?_,?_⟩
     ·go_simp
      try with_reducible rfl
     ·exact ⟨hB,hG,hr,hb,ho,hn,hm,hv⟩
    case ha2_5 =>
     simp only [Act.put,zK,zP,zQ,i64_w,i32_w];rfl
    case r2_5 =>
     refine lex_skip (k:=3) (N:=none) (a':=?a3_5) #[true,true,true,true,false,false,false] rfl rfl (by kernel_rfl) (by rfl) ?h3_5 ?ha3_5 ?r3_5
     case h3_5 =>
      rintro s hs_ d w' hd ⟨hB,hG,hr,hb,ho,hn,hm,hv⟩;have hb_:=ho.trans Bo5.out;have f_:=frz13 hb_;obtain ⟨z0,z1,z2,z3,z4,z5,z6,z7,z8,z9,z10,z11,z12⟩:=cells13 hb_;refine ⟨put_ w' (w.heap.size + 1 + 1) 0 [.int .u8 0,.int .u8 0,.int .u32 0,.int .u32 0,.slice none 0 0,.slice none 0 0,.bool false,.int .u32 0,.int .u8 0,.int .u8 0,.int .u32 0,.slice none 0 0,.int .u32 0],?_,?_⟩
      ·go_simp
       try rfl
      ·exact ⟨put_below _ (by omega) _ _ _ hB,by rw [put_size];exact hG,(put_far _ _ (by omega) _ _ _).trans hr,(put_far _ _ (by omega) _ _ _).trans hb,(own13_0_13 rfl hb_).trans Bo5.out.symm,(put_far _ _ (by omega) _ _ _).trans hn,(put_far _ _ (by omega) _ _ _).trans hm,(put_far _ _ (by omega) _ _ _).trans hv⟩
     case ha3_5=>rfl
     case r3_5 =>
      refine lex_skip (k:=4) (N:=none) (a':=?a4_5) #[true,true,true,true,true,false,false] rfl rfl (by kernel_rfl) (by rfl) ?h4_5 ?ha4_5 ?r4_5
      case h4_5 =>
       rintro s hs_ d w' hd ⟨hB,hG,hr,hb,ho,hn,hm,hv⟩;have hb_:=hn.trans Bn5.out;have f_:=frz13 hb_;obtain ⟨z0,z1,z2,z3,z4,z5,z6,z7,z8,z9,z10,z11⟩:=cells12 hb_;refine ⟨put_ w' (w.heap.size + 1 + 1 + 1) 0 [.int .i64 0,.int .u8 0,.int .u8 0,.int .u32 0,.int .u8 0,.int .u8 0,.slice none 0 0,.int .u32 0,.slice none 0 0,.int .u8 0,.bool false,.slice none 0 0],?_,?_⟩
       ·go_simp
        try rfl
       ·exact ⟨put_below _ (by omega) _ _ _ hB,by rw [put_size];exact hG,(put_far _ _ (by omega) _ _ _).trans hr,(put_far _ _ (by omega) _ _ _).trans hb,(put_far _ _ (by omega) _ _ _).trans ho,(own12_0_12 rfl hb_).trans Bn5.out.symm,(put_far _ _ (by omega) _ _ _).trans hm,(put_far _ _ (by omega) _ _ _).trans hv⟩
      case ha4_5=>rfl
      case r4_5 =>
       refine lex_skip (k:=5) (N:=none) (a':=?a5_5) #[true,true,true,true,true,true,false] rfl rfl (by kernel_rfl) (by rfl) ?h5_5 ?ha5_5 ?r5_5
       case h5_5 =>
        rintro s hs_ d w' hd ⟨hB,hG,hr,hb,ho,hn,hm,hv⟩;have hb_:=hm.trans Bm5.out;have f0:=yA hb_ 0;have z0:=(zI hb_ 0).trans (show _ = some (.bool false) from rfl);refine ⟨put_ w' (w.heap.size + 1 + 1 + 1 + 1) 0 [.bool false],?_,?_⟩
        ·go_simp
         try rfl
        ·exact ⟨put_below _ (by omega) _ _ _ hB,by rw [put_size];exact hG,(put_far _ _ (by omega) _ _ _).trans hr,(put_far _ _ (by omega) _ _ _).trans hb,(put_far _ _ (by omega) _ _ _).trans ho,(put_far _ _ (by omega) _ _ _).trans hn,(own1_0_1 rfl hb_).trans Bm5.out.symm,(put_far _ _ (by omega) _ _ _).trans hv⟩
       case ha5_5=>rfl
       case r5_5 =>
        refine lex_skip (k:=6) (N:=none) (a':=?a6_5) #[true,true,true,true,true,true,true] rfl rfl (by kernel_rfl) (by rfl) ?h6_5 ?ha6_5 ?r6_5
        case h6_5 =>
         rintro s hs_ d w' hd ⟨hB,hG,hr,hb,ho,hn,hm,hv⟩;have hb_:=(hv.trans (if_neg (by simp [hd]))).trans Bv5.out;have f0:=yA hb_ 0;have z0:=(zI hb_ 0).trans (show _ = some (.nilIface) from rfl);refine ⟨put_ w' (w.heap.size + 1 + 1 + 1 + 1 + 1) 0 [.iface 70 (.int .i64 9)],?_,?_⟩
         ·go_simp
          try rfl
         ·exact ⟨put_below _ (by omega) _ _ _ hB,by rw [put_size];exact hG,(put_far _ _ (by omega) _ _ _).trans hr,(put_far _ _ (by omega) _ _ _).trans hb,(put_far _ _ (by omega) _ _ _).trans ho,(put_far _ _ (by omega) _ _ _).trans hn,(put_far _ _ (by omega) _ _ _).trans hm,(own1_0_1 rfl hb_).trans (if_pos rfl).symm⟩
        case ha6_5=>rfl
        case r6_5 =>
         refine lex_done (by kernel_rfl) ?_;rintro w6 ⟨_,hB,hG,hr,hb,ho,hn,hm,hv⟩;have Br6:=zA (hr.trans Br5.out);have Bb6:=zA (hb.trans Bb5.out);have Bo6:=zA (ho.trans Bo5.out);have Bn6:=zA (hn.trans Bn5.out);have Bm6:=zA (hm.trans Bm5.out);have Bv6:=zA (hv.trans (if_pos rfl));have HB6:=zA hB;have HG6:=zA hG;clear hB hG hr hb ho hn hm hv HB5 HG5 Br5 Bb5 Bo5 Bn5 Bm5 Bv5;go_wp2_with fail;refine ⟨_,acc_results rfl _ _ _ _ _ _ _ _ _ _ rfl rfl rfl rfl Bo6.out Bn6.out Bm6.out Bv6.out rfl rfl,?_⟩;exact OutR.zero (by first | rfl | rw [eS]) HB6.out
 rw [if_neg (by decide)] at h;cases he0 : (decide (0 < b4) && (b7 != a10)) with
 | false=>rw [he0] at h;cases h
 | true =>
 rw [he0,if_pos rfl] at h;obtain rfl:=zH (zH h);clear h;rw [zZ] at he0;obtain ⟨hc2,he2⟩:=he0;have hc1 : decide (b4 > 0) = true:=hc2;have he4 : ¬ b7 = a10:=yF.mp he2;have he1 : decide (b7 = a10) = false:=zF he4;have he3 : (b7 == a10) = false:=zR.mpr he4;clear he4;have r_:=cells13 Br5.out;have b_:=cells12 Bb5.out;go_wp2_with fail;refine region_lex (fun (s : Option (Unit)) d w'=>Below w.heap.size w w' ∧ w0.heap.size ≤ w'.heap.size ∧ w'.heap[w.heap.size]? = w5.heap[w.heap.size]? ∧ w'.heap[w.heap.size + 1]? = w5.heap[w.heap.size + 1]? ∧ w'.heap[w.heap.size + 1 + 1]? = (if d 4 = true then some (.cells #[.int .u8 a0,.int .u8 a1,.int .u32 a2,.int .u32 a3,.slice A4 l4.length c4,.slice A5 l5.length c5,.bool false,.int .u32 0,.int .u8 0,.int .u8 0,.int .u32 0,.slice none 0 0,.int .u32 a12] 28 (0,0)) else w5.heap[w.heap.size + 1 + 1]?) ∧ w'.heap[w.heap.size + 1 + 1 + 1]? = w5.heap[w.heap.size + 1 + 1 + 1]? ∧ w'.heap[w.heap.size + 1 + 1 + 1 + 1]? = w5.heap[w.heap.size + 1 + 1 + 1 + 1]? ∧ w'.heap[w.heap.size + 1 + 1 + 1 + 1 + 1]? = (if d 7 = true then some (.cells #[.iface 70 (.int .i64 10)] 35 (0,0)) else w5.heap[w.heap.size + 1 + 1 + 1 + 1 + 1]?)) 8 #[false,false,false,false,false,false,false,false] (by kernel_rfl) rfl rfl ?_ ?_
 ·exact ⟨pw_below_drewN HB5.out 1,HG5.out,rfl,rfl,rfl,rfl,rfl,rfl⟩
 clear r_ b_;refine lex_val (k:=0) (N:=some 57) (a':=?a0_6) (.agg #[.int .u8 a0,.int .u8 a1,.int .u32 a2,.int .u32 a3,.slice A4 l4.length c4,.slice A5 l5.length c5,.bool a6,.int .u32 a7,.int .u8 a8,.int .u8 a9,.int .u32 a10,.slice A11 l11.length c11,.int .u32 a12]) #[true,false,false,false,false,false,false,false] rfl rfl (by kernel_rfl) (by rfl) ?h0_6 ?ha0_6 ?r0_6
 case h0_6 =>
  rintro s hs_ d w' hd ⟨hB,hG,hr,hb,ho,hn,hm,hv⟩;have qr_:=cells13 (hr.trans Br5.out);refine ⟨w',?_,?_⟩
  ·go_simp
   try with_reducible rfl
  ·exact ⟨hB,hG,hr,hb,ho,hn,hm,hv⟩
 case ha0_6 =>
  simp only [Act.put,zK,zP,zQ,i64_w,i32_w];rfl
 case r0_6 =>
  refine lex_call (k:=1) (N:=some 58) (a':=?a1_6) 33 #[.agg #[.int .u8 a0,.int .u8 a1,.int .u32 a2,.int .u32 a3,.slice A4 l4.length c4,.slice A5 l5.length c5,.bool a6,.int .u32 a7,.int .u8 a8,.int .u8 a9,.int .u32 a10,.slice A11 l11.length c11,.int .u32 a12]] (.agg #[.int .u8 a0,.int .u8 a1,.int .u32 a2,.int .u32 a3,.slice A4 l4.length c4,.slice A5 l5.length c5,.bool false,.int .u32 0,.int .u8 0,.int .u8 0,.int .u32 0,.slice none 0 0,.int .u32 a12]) #[true,true,false,false,false,false,false,false] rfl rfl (by kernel_rfl) (by rfl) ?h11_6 ?h1_6 ?ha1_6 ?r1_6
  case h11_6=>intro w';go_simp
  case h1_6 =>
   rintro s hs_ d w' hd ⟨hB,hG,hr,hb,ho,hn,hm,hv⟩;refine (off_is a0 a1 a2 a3 l4 l5 a6 a7 a8 a9 a10 l11 a12 A4 A5 A11 c4 c5 c11 w').mono ?_;rintro e w2 ⟨rfl,hx⟩;exact ⟨rfl,hB.trans (hx.mono hB.size),zV hG hx.size,keep_ hr Br5.out hx,keep_ hb Bb5.out hx,keepi_ ho Bo5.out hx,keep_ hn Bn5.out hx,keep_ hm Bm5.out hx,keepi_ hv Bv5.out hx⟩
  case ha1_6 =>
   simp only [Act.put,zK,zP,zQ,i64_w,i32_w];rfl
  case r1_6 =>
   refine lex_val (k:=2) (N:=some 59) (a':=?a2_6) (.agg #[.int .i64 0,.int .u8 0,.int .u8 0,.int .u32 0,.int .u8 0,.int .u8 0,.slice none 0 0,.int .u32 0,.slice none 0 0,.int .u8 0,.bool false,.slice none 0 0]) #[true,true,true,false,false,false,false,false] rfl rfl (by kernel_rfl) (by rfl) ?h2_6 ?ha2_6 ?r2_6
   case h2_6 =>
    rintro s hs_ d w' hd ⟨hB,hG,hr,hb,ho,hn,hm,hv⟩;have qn_:=cells12 (hn.trans Bn5.out);refine ⟨w',?_,?_⟩
    ·go_simp
     try with_reducible rfl
    ·exact ⟨hB,hG,hr,hb,ho,hn,hm,hv⟩
   case ha2_6 =>
    simp only [Act.put,zK,zP,zQ,i64_w,i32_w];rfl
   case r2_6 =>
    refine lex_val (k:=3) (N:=some 60) (a':=?a3_6) (.iface 70 (.int .i64 10)) #[true,true,true,true,false,false,false,false] rfl rfl (by kernel_rfl) (by rfl) ?h3_6 ?ha3_6 ?r3_6
    case h3_6 =>
     rintro s hs_ d w' hd ⟨hB,hG,hr,hb,ho,hn,hm,hv⟩;refine ⟨w',?_,?_⟩
     ·go_simp
      try with_reducible rfl
     ·exact ⟨hB,hG,hr,hb,ho,hn,hm,hv⟩
    case ha3_6 =>
     simp only [Act.put,zK,zP,zQ,i64_w,i32_w];rfl
    case r3_6 =>
     refine lex_skip (k:=4) (N:=none) (a':=?a4_6) #[true,true,true,true,true,false,false,false] rfl rfl (by kernel_rfl) (by rfl) ?h4_6 ?ha4_6 ?r4_6
     case h4_6 =>
      rintro s hs_ d w' hd ⟨hB,hG,hr,hb,ho,hn,hm,hv⟩;have hb_:=(ho.trans (if_neg (by simp [hd]))).trans Bo5.out;have f_:=frz13 hb_;obtain ⟨z0,z1,z2,z3,z4,z5,z6,z7,z8,z9,z10,z11,z12⟩:=cells13 hb_;refine ⟨put_ w' (w.heap.size + 1 + 1) 0 [.int .u8 a0,.int .u8 a1,.int .u32 a2,.int .u32 a3,.slice A4 l4.length c4,.slice A5 l5.length c5,.bool false,.int .u32 0,.int .u8 0,.int .u8 0,.int .u32 0,.slice none 0 0,.int .u32 a12],?_,?_⟩
      ·go_simp
       try rfl
      ·exact ⟨put_below _ (by omega) _ _ _ hB,by rw [put_size];exact hG,(put_far _ _ (by omega) _ _ _).trans hr,(put_far _ _ (by omega) _ _ _).trans hb,(own13_0_13 rfl hb_).trans (if_pos rfl).symm,(put_far _ _ (by omega) _ _ _).trans hn,(put_far _ _ (by omega) _ _ _).trans hm,(put_far _ _ (by omega) _ _ _).trans hv⟩
     case ha4_6=>rfl
     case r4_6 =>
      refine lex_skip (k:=5) (N:=none) (a':=?a5_6) #[true,true,true,true,true,true,false,false] rfl rfl (by kernel_rfl) (by rfl) ?h5_6 ?ha5_6 ?r5_6
      case h5_6 =>
       rintro s hs_ d w' hd ⟨hB,hG,hr,hb,ho,hn,hm,hv⟩;have hb_:=hn.trans Bn5.out;have f_:=frz13 hb_;obtain ⟨z0,z1,z2,z3,z4,z5,z6,z7,z8,z9,z10,z11⟩:=cells12 hb_;refine ⟨put_ w' (w.heap.size + 1 + 1 + 1) 0 [.int .i64 0,.int .u8 0,.int .u8 0,.int .u32 0,.int .u8 0,.int .u8 0,.slice none 0 0,.int .u32 0,.slice none 0 0,.int .u8 0,.bool false,.slice none 0 0],?_,?_⟩
       ·go_simp
        try rfl
       ·exact ⟨put_below _ (by omega) _ _ _ hB,by rw [put_size];exact hG,(put_far _ _ (by omega) _ _ _).trans hr,(put_far _ _ (by omega) _ _ _).trans hb,(put_far _ _ (by omega) _ _ _).trans ho,(own12_0_12 rfl hb_).trans Bn5.out.symm,(put_far _ _ (by omega) _ _ _).trans hm,(put_far _ _ (by omega) _ _ _).trans hv⟩
      case ha5_6=>rfl
      case r5_6 =>
       refine lex_skip (k:=6) (N:=none) (a':=?a6_6) #[true,true,true,true,true,true,true,false] rfl rfl (by kernel_rfl) (by rfl) ?h6_6 ?ha6_6 ?r6_6
       case h6_6 =>
        rintro s hs_ d w' hd ⟨hB,hG,hr,hb,ho,hn,hm,hv⟩;have hb_:=hm.trans Bm5.out;have f0:=yA hb_ 0;have z0:=(zI hb_ 0).trans (show _ = some (.bool false) from rfl);refine ⟨put_ w' (w.heap.size + 1 + 1 + 1 + 1) 0 [.bool false],?_,?_⟩
        ·go_simp
         try rfl
        ·exact ⟨put_below _ (by omega) _ _ _ hB,by rw [put_size];exact hG,(put_far _ _ (by omega) _ _ _).trans hr,(put_far _ _ (by omega) _ _ _).trans hb,(put_far _ _ (by omega) _ _ _).trans ho,(put_far _ _ (by omega) _ _ _).trans hn,(own1_0_1 rfl hb_).trans Bm5.out.symm,(put_far _ _ (by omega) _ _ _).trans hv⟩
       case ha6_6=>rfl
       case r6_6 =>
        refine lex_skip (k:=7) (N:=none) (a':=?a7_6) #[true,true,true,true,true,true,true,true] rfl rfl (by kernel_rfl) (by rfl) ?h7_6 ?ha7_6 ?r7_6
        case h7_6 =>
         rintro s hs_ d w' hd ⟨hB,hG,hr,hb,ho,hn,hm,hv⟩;have hb_:=(hv.trans (if_neg (by simp [hd]))).trans Bv5.out;have f0:=yA hb_ 0;have z0:=(zI hb_ 0).trans (show _ = some (.nilIface) from rfl);refine ⟨put_ w' (w.heap.size + 1 + 1 + 1 + 1 + 1) 0 [.iface 70 (.int .i64 10)],?_,?_⟩
         ·go_simp
          try rfl
         ·exact ⟨put_below _ (by omega) _ _ _ hB,by rw [put_size];exact hG,(put_far _ _ (by omega) _ _ _).trans hr,(put_far _ _ (by omega) _ _ _).trans hb,(put_far _ _ (by omega) _ _ _).trans ho,(put_far _ _ (by omega) _ _ _).trans hn,(put_far _ _ (by omega) _ _ _).trans hm,(own1_0_1 rfl hb_).trans (if_pos rfl).symm⟩
        case ha7_6=>rfl
        case r7_6 =>
         refine lex_done (by kernel_rfl) ?_;rintro w6 ⟨_,hB,hG,hr,hb,ho,hn,hm,hv⟩;have Br6:=zA (hr.trans Br5.out);have Bb6:=zA (hb.trans Bb5.out);have Bo6:=zA (ho.trans (if_pos rfl));have Bn6:=zA (hn.trans Bn5.out);have Bm6:=zA (hm.trans Bm5.out);have Bv6:=zA (hv.trans (if_pos rfl));have HB6:=zA hB;have HG6:=zA hG;clear hB hG hr hb ho hn hm hv HB5 HG5 Br5 Bb5 Bo5 Bn5 Bm5 Bv5;go_wp2_with fail;refine ⟨_,acc_results rfl _ _ _ _ _ _ _ _ _ _ rfl rfl rfl rfl Bo6.out Bn6.out Bm6.out Bv6.out rfl rfl,?_⟩;exact OutR.off (by first | rfl | rw [eS]) (O4'.out.below HB6.out) (O5'.out.below HB6.out) HB6.out
set_option maxRecDepth 100000 in
set_option maxHeartbeats 8000000 in
theorem tAcc_go (k : Nat) (a0 a1 a2 a3 : Int) (l4 : List S67) (l5 : List S62) (a6 : Bool) (a7 a8 a9 a10 : Int) (l11 : List S67) (a12 : Int) (A4 A5 A11 : Option Addr) (c4 c5 c11 : Nat) (b0 b1 b2 b3 b4 b5 : Int) (m6 : List S67) (b7 : Int) (m8 : List S62) (b9 : Int) (b10 : Bool) (m11 : List S67) (M6 M8 M11 : Option Addr) (d6 d8 d11 : Nat) (w : World) (S : Nat → Prop) (o4 : On k67 w S A4 c4 l4) (o5 : On k62 w S A5 c5 l5) (o11 : On k67 w S A11 c11 l11) (p6 : On k67 w S M6 d6 m6) (p8 : On k62 w S M8 d8 m8) (p11 : On k67 w S M11 d11 m11) (hR : replica_Right.f k a0 a1 a2 a3 l4 l5 a6 a7 a8 a9 a10 l11 a12 = some true) (hN : note_Right.f k b0 b1 b2 b3 b4 b5 m6 b7 m8 b9 b10 m11 = some true) (hW : target_waited.f a0 a1 a2 a3 l4 l5 a6 a7 a8 a9 a10 l11 a12 b0 b1 b2 b3 b4 b5 m6 b7 m8 b9 b10 m11 = some true) (hU : target_unmade.f a0 a1 a2 a3 l4 l5 a6 a7 a8 a9 a10 l11 a12 b0 b1 b2 b3 b4 b5 m6 b7 m8 b9 b10 m11 = some false) (hT : target_twins.f a0 a1 a2 a3 l4 l5 a6 a7 a8 a9 a10 l11 a12 b0 b1 b2 b3 b4 b5 m6 b7 m8 b9 b10 m11 = some false) (hE : (decide (0 < b4) && (b7 != a10)) = false) (hS : ∀ j,w.heap.size ≤ j → S j) (hlo : m11.length ≤ 400000) (res : RRes) (h : (tfold k a1 m8 m8.length l4 l5 0).bind (ttail k b4 b10 l11 m11) = some res) : Calls Tryz.prog 9 #[.agg #[.int .u8 a0,.int .u8 a1,.int .u32 a2,.int .u32 a3,.slice A4 l4.length c4,.slice A5 l5.length c5,.bool a6,.int .u32 a7,.int .u8 a8,.int .u8 a9,.int .u32 a10,.slice A11 l11.length c11,.int .u32 a12],.agg #[.int .i64 b0,.int .u8 b1,.int .u8 b2,.int .u32 b3,.int .u8 b4,.int .u8 b5,.slice M6 m6.length d6,.int .u32 b7,.slice M8 m8.length d8,.int .u8 b9,.bool b10,.slice M11 m11.length d11]] w fun e w'=>RPost errW S w a0 a1 a2 a3 l4 l5 a6 a7 a8 a9 a10 l11 a12 b4 b7 b9 m11 res e w':=by
 have HR':=zA hR;have HN':=zA hN;have HW':=zA hW;have HU':=zA hU;have HT':=zA hT;have HE':=zA hE;have HS':=zA hS;have HLO':=zA hlo;have F0:=zA h;clear hR hN hW hU hT hE hS hlo h;have huR:=Tryz.underlying28;have huN:=Tryz.underlying30;have huS:=Tryz.underlying26;have huE:=Tryz.underlying62;have hu35:=Tryz.underlying35;have hu4:=Tryz.underlying4;have huc:=Tryz.underlying70;have eN:=errW_none;have eS:=errW_some;have hmf : ∀ (fn : Fn) (first cap : Array Value) (w : World),(Instr.makeFunc fn first cap).run Tryz.prog w = .ok (.func fn first cap) w:=fun _ _ _ _=>rfl
 have O4':=zA o4;have O5':=zA o5;have O11':=zA o11;have P6':=zA p6;have P8':=zA p8;have P11':=zA p11;clear o4 o5 o11 p6 p8 p11;go_enter_defers Tryz.func9,Tryz.ntmps9;go_wp2_with fail;generalize hW : World.alloc (World.alloc (World.alloc (World.alloc (World.alloc (World.alloc w _) _) _) _) _) _ = w0;have Br0:=zA (al6_0 hW);have Bb0:=zA (al6_1 hW);have Bo0:=zA (al6_2 hW);have Bn0:=zA (al6_3 hW);have Bm0:=zA (al6_4 hW);have Bv0:=zA (al6_5 hW);have HB0:=zA (al6B hW);clear hW;have GG:=zA (show w.heap.size + 6 ≤ w0.heap.size by have:=blk_lt Bv0.out;omega);have HG0:=zA (zM w0.heap.size);have r_:=cells13 Br0.out;go_wp2_with fail;refine (replica_Right.calls k a0 a1 a2 a3 _ _ l4 _ _ l5 a6 a7 a8 a9 a10 _ _ l11 a12 true _ (zL O4'.out.row HB0.out) O4'.out.len (zL O5'.out.row HB0.out) O5'.out.len (zL O11'.out.row HB0.out) O11'.out.len HR'.out).mono ?_;rintro ev w1 ⟨rfl,hx⟩;have Br1:=zA (zC Br0.out hx);have Bb1:=zA (zC Bb0.out hx);have Bo1:=zA (zC Bo0.out hx);have Bn1:=zA (zC Bn0.out hx);have Bm1:=zA (zC Bm0.out hx);have Bv1:=zA (zC Bv0.out hx);have HB1:=zA (zG HB0.out hx);have HG1:=zA (zV HG0.out hx.size);clear r_;clear hx HB0 HG0 Br0 Bb0 Bo0 Bn0 Bm0 Bv0;have b_:=cells12 Bb1.out;go_wp2_with fail;refine (note_Right.calls k b0 b1 b2 b3 b4 b5 _ _ m6 b7 _ _ m8 b9 b10 _ _ m11 true _ (zL P6'.out.row HB1.out) P6'.out.len (zL P8'.out.row HB1.out) P8'.out.len (zL P11'.out.row HB1.out) P11'.out.len HN'.out).mono ?_;rintro ev w2 ⟨rfl,hx⟩;have Br2:=zA (zC Br1.out hx);have Bb2:=zA (zC Bb1.out hx);have Bo2:=zA (zC Bo1.out hx);have Bn2:=zA (zC Bn1.out hx);have Bm2:=zA (zC Bm1.out hx);have Bv2:=zA (zC Bv1.out hx);have HB2:=zA (zG HB1.out hx);have HG2:=zA (zV HG1.out hx.size);clear b_;clear hx HB1 HG1 Br1 Bb1 Bo1 Bn1 Bm1 Bv1;have r_:=cells13 Br2.out;have b_:=cells12 Bb2.out;go_wp2_with fail;refine (target_waited.calls a0 a1 a2 a3 _ _ l4 _ _ l5 a6 a7 a8 a9 a10 _ _ l11 a12 b0 b1 b2 b3 b4 b5 _ _ m6 b7 _ _ m8 b9 b10 _ _ m11 true _ (zL O4'.out.row HB2.out) O4'.out.len (zL O5'.out.row HB2.out) O5'.out.len (zL O11'.out.row HB2.out) O11'.out.len (zL P6'.out.row HB2.out) P6'.out.len (zL P8'.out.row HB2.out) P8'.out.len (zL P11'.out.row HB2.out) P11'.out.len HW'.out).mono ?_;rintro ev w3 ⟨rfl,hx⟩;have Br3:=zA (zC Br2.out hx);have Bb3:=zA (zC Bb2.out hx);have Bo3:=zA (zC Bo2.out hx);have Bn3:=zA (zC Bn2.out hx);have Bm3:=zA (zC Bm2.out hx);have Bv3:=zA (zC Bv2.out hx);have HB3:=zA (zG HB2.out hx);have HG3:=zA (zV HG2.out hx.size);clear r_ b_;clear hx HB2 HG2 Br2 Bb2 Bo2 Bn2 Bm2 Bv2;have r_:=cells13 Br3.out;have b_:=cells12 Bb3.out;go_wp2_with fail;refine (target_unmade.calls a0 a1 a2 a3 _ _ l4 _ _ l5 a6 a7 a8 a9 a10 _ _ l11 a12 b0 b1 b2 b3 b4 b5 _ _ m6 b7 _ _ m8 b9 b10 _ _ m11 false _ (zL O4'.out.row HB3.out) O4'.out.len (zL O5'.out.row HB3.out) O5'.out.len (zL O11'.out.row HB3.out) O11'.out.len (zL P6'.out.row HB3.out) P6'.out.len (zL P8'.out.row HB3.out) P8'.out.len (zL P11'.out.row HB3.out) P11'.out.len HU'.out).mono ?_;rintro ev w4 ⟨rfl,hx⟩;have Br4:=zA (zC Br3.out hx);have Bb4:=zA (zC Bb3.out hx);have Bo4:=zA (zC Bo3.out hx);have Bn4:=zA (zC Bn3.out hx);have Bm4:=zA (zC Bm3.out hx);have Bv4:=zA (zC Bv3.out hx);have HB4:=zA (zG HB3.out hx);have HG4:=zA (zV HG3.out hx.size);clear r_ b_;clear hx HB3 HG3 Br3 Bb3 Bo3 Bn3 Bm3 Bv3;have r_:=cells13 Br4.out;have b_:=cells12 Bb4.out;go_wp2_with fail;refine (target_twins.calls a0 a1 a2 a3 _ _ l4 _ _ l5 a6 a7 a8 a9 a10 _ _ l11 a12 b0 b1 b2 b3 b4 b5 _ _ m6 b7 _ _ m8 b9 b10 _ _ m11 false _ (zL O4'.out.row HB4.out) O4'.out.len (zL O5'.out.row HB4.out) O5'.out.len (zL O11'.out.row HB4.out) O11'.out.len (zL P6'.out.row HB4.out) P6'.out.len (zL P8'.out.row HB4.out) P8'.out.len (zL P11'.out.row HB4.out) P11'.out.len HT'.out).mono ?_;rintro ev w5 ⟨rfl,hx⟩;have Br5:=zA (zC Br4.out hx);have Bb5:=zA (zC Bb4.out hx);have Bo5:=zA (zC Bo4.out hx);have Bn5:=zA (zC Bn4.out hx);have Bm5:=zA (zC Bm4.out hx);have Bv5:=zA (zC Bv4.out hx);have HB5:=zA (zG HB4.out hx);have HG5:=zA (zV HG4.out hx.size);clear r_ b_;clear hx HB4 HG4 Br4 Bb4 Bo4 Bn4 Bm4 Bv4;have r_:=cells13 Br5.out;have b_:=cells12 Bb5.out;go_upto_region 9 with fail;clear r_ b_;go_cut [45] from 46 (fun s45 wc=>s45 = .bool false ∧ Aside0 (w5 = wc))
 case first =>
  have r_:=cells13 Br5.out;have b_:=cells12 Bb5.out;have he:=HE'.out;by_cases hc : 0 < b4
  ·have hc1 : decide (b4 > 0) = true:=zE hc;have hc2 : decide (0 < b4) = true:=zE hc;rw [hc2,Bool.true_and] at he;have he4 : b7 = a10:=zU.mp he;have he1 : decide (b7 = a10) = true:=zE he4;have he3 : (b7 == a10) = true:=yB.mpr he4;clear hc he4;go_wp2_with fail;go_meet;exact ⟨rfl,⟨rfl⟩⟩
  ·have hc1 : decide (b4 > 0) = false:=zF hc;have hc2 : decide (0 < b4) = false:=zF hc;clear hc he;go_wp2_with fail;go_meet;exact ⟨rfl,⟨rfl⟩⟩
 case rest =>
 obtain ⟨rfl,hwc⟩:=hcut;have hwc:=hwc.out;subst hwc;have Br6:=zA (yE Br5.out (.cells #[.int .u8 a0,.int .u8 a1,.int .u32 a2,.int .u32 a3,.slice A4 l4.length c4,.slice A5 l5.length c5,.bool a6,.int .u32 a7,.int .u8 a8,.int .u8 a9,.int .u32 a10,.slice A11 l11.length c11,.int .u32 a12] 28));have Bb6:=zA (yE Bb5.out (.cells #[.int .u8 a0,.int .u8 a1,.int .u32 a2,.int .u32 a3,.slice A4 l4.length c4,.slice A5 l5.length c5,.bool a6,.int .u32 a7,.int .u8 a8,.int .u8 a9,.int .u32 a10,.slice A11 l11.length c11,.int .u32 a12] 28));have Bo6:=zA (yE Bo5.out (.cells #[.int .u8 a0,.int .u8 a1,.int .u32 a2,.int .u32 a3,.slice A4 l4.length c4,.slice A5 l5.length c5,.bool a6,.int .u32 a7,.int .u8 a8,.int .u8 a9,.int .u32 a10,.slice A11 l11.length c11,.int .u32 a12] 28));have Bn6:=zA (yE Bn5.out (.cells #[.int .u8 a0,.int .u8 a1,.int .u32 a2,.int .u32 a3,.slice A4 l4.length c4,.slice A5 l5.length c5,.bool a6,.int .u32 a7,.int .u8 a8,.int .u8 a9,.int .u32 a10,.slice A11 l11.length c11,.int .u32 a12] 28));have Bm6:=zA (yE Bm5.out (.cells #[.int .u8 a0,.int .u8 a1,.int .u32 a2,.int .u32 a3,.slice A4 l4.length c4,.slice A5 l5.length c5,.bool a6,.int .u32 a7,.int .u8 a8,.int .u8 a9,.int .u32 a10,.slice A11 l11.length c11,.int .u32 a12] 28));have Bv6:=zA (yE Bv5.out (.cells #[.int .u8 a0,.int .u8 a1,.int .u32 a2,.int .u32 a3,.slice A4 l4.length c4,.slice A5 l5.length c5,.bool a6,.int .u32 a7,.int .u8 a8,.int .u8 a9,.int .u32 a10,.slice A11 l11.length c11,.int .u32 a12] 28));have Bw6:=zA (yL w5 (.cells #[.int .u8 a0,.int .u8 a1,.int .u32 a2,.int .u32 a3,.slice A4 l4.length c4,.slice A5 l5.length c5,.bool a6,.int .u32 a7,.int .u8 a8,.int .u8 a9,.int .u32 a10,.slice A11 l11.length c11,.int .u32 a12] 28));have HB6:=zA (HB5.out.alloc HB5.out.size (.cells #[.int .u8 a0,.int .u8 a1,.int .u32 a2,.int .u32 a3,.slice A4 l4.length c4,.slice A5 l5.length c5,.bool a6,.int .u32 a7,.int .u8 a8,.int .u8 a9,.int .u32 a10,.slice A11 l11.length c11,.int .u32 a12] 28));have HG6:=zA (show w0.heap.size ≤ (w5.alloc (.cells #[.int .u8 a0,.int .u8 a1,.int .u32 a2,.int .u32 a3,.slice A4 l4.length c4,.slice A5 l5.length c5,.bool a6,.int .u32 a7,.int .u8 a8,.int .u8 a9,.int .u32 a10,.slice A11 l11.length c11,.int .u32 a12] 28)).heap.size by have:=HG5.out;simp;omega);have HGN : w.heap.size + 6 ≤ w5.heap.size:=by have:=GG.out;have:=HG5.out;omega
 have r_:=cells13 Br5.out;have b_:=cells12 Bb5.out;have qb_:=cells12 Bb6.out;clear HB5 HG5 Br5 Bb5 Bo5 Bn5 Bm5 Bv5;go_wp2_with fail;clear r_ b_ qb_;generalize w5.alloc (.cells #[.int .u8 a0,.int .u8 a1,.int .u32 a2,.int .u32 a3,.slice A4 l4.length c4,.slice A5 l5.length c5,.bool a6,.int .u32 a7,.int .u8 a8,.int .u8 a9,.int .u32 a10,.slice A11 l11.length c11,.int .u32 a12] 28) = w6 at Br6 Bb6 Bo6 Bn6 Bm6 Bv6 Bw6 HB6 HG6 ⊢;generalize w5.heap.size = gn at Bw6 HGN ⊢;have O4n:=zA ((O4'.out.lt (by decide)).below HB6.out |>.mono (fun j h=>(⟨h.1,.inl h.2⟩ : (fun j=>S j ∧ (j < w.heap.size ∨ gn < j)) j)));have O5n:=zA ((O5'.out.lt (by decide)).below HB6.out |>.mono (fun j h=>(⟨h.1,.inl h.2⟩ : (fun j=>S j ∧ (j < w.heap.size ∨ gn < j)) j)));go_loopg [66] m8.length (fun gg ss wr=>∃ (kk : Nat) (kn : List S67) (hq : List S62) (T4 T5 : Option Addr) (e4 e5 : Nat),kk ≤ m8.length ∧ m8.length - kk ≤ gg ∧ ss = .int .i64 kk ∧ Aside0 (Below w.heap.size w wr) ∧ Aside0 (w0.heap.size ≤ wr.heap.size) ∧ Aside0 (wr.heap[w.heap.size]? = some (.cells #[.int .u8 a0,.int .u8 a1,.int .u32 a2,.int .u32 a3,.slice A4 l4.length c4,.slice A5 l5.length c5,.bool a6,.int .u32 a7,.int .u8 a8,.int .u8 a9,.int .u32 a10,.slice A11 l11.length c11,.int .u32 a12] 28 (0,0))) ∧ Aside0 (wr.heap[w.heap.size + 1]? = some (.cells #[.int .i64 b0,.int .u8 b1,.int .u8 b2,.int .u32 b3,.int .u8 b4,.int .u8 b5,.slice M6 m6.length d6,.int .u32 b7,.slice M8 m8.length d8,.int .u8 b9,.bool b10,.slice M11 m11.length d11] 30 (0,0))) ∧ Aside0 (wr.heap[w.heap.size + 1 + 1]? = some (.cells #[.int .u8 0,.int .u8 0,.int .u32 0,.int .u32 0,.slice none 0 0,.slice none 0 0,.bool false,.int .u32 0,.int .u8 0,.int .u8 0,.int .u32 0,.slice none 0 0,.int .u32 0] 28 (0,0))) ∧ Aside0 (wr.heap[w.heap.size + 1 + 1 + 1]? = some (.cells #[.int .i64 0,.int .u8 0,.int .u8 0,.int .u32 0,.int .u8 0,.int .u8 0,.slice none 0 0,.int .u32 0,.slice none 0 0,.int .u8 0,.bool false,.slice none 0 0] 30 (0,0))) ∧ Aside0 (wr.heap[w.heap.size + 1 + 1 + 1 + 1]? = some (.cells #[.bool false] 4 (0,0))) ∧ Aside0 (wr.heap[w.heap.size + 1 + 1 + 1 + 1 + 1]? = some (.cells #[.nilIface] 35 (0,0))) ∧ Aside0 (wr.heap[gn]? = some (.cells #[.int .u8 a0,.int .u8 a1,.int .u32 a2,.int .u32 a3,.slice T4 kn.length e4,.slice T5 hq.length e5,.bool a6,.int .u32 a7,.int .u8 a8,.int .u8 a9,.int .u32 a10,.slice A11 l11.length c11,.int .u32 a12] 28 (0,0))) ∧ Aside0 (On k67 wr (fun j=>S j ∧ (j < w.heap.size ∨ gn < j)) T4 e4 kn) ∧ Aside0 (On k62 wr (fun j=>S j ∧ (j < w.heap.size ∨ gn < j)) T5 e5 hq) ∧ Aside0 ((tfold k a1 m8 (m8.length - kk) kn hq kk).bind (ttail k b4 b10 l11 m11) = some res))
 case atStart=>exact ⟨0,l4,l5,A4,A5,c4,c5,Nat.zero_le _,by omega,rfl,HB6,HG6,Br6,Bb6,Bo6,Bn6,Bm6,Bv6,Bw6,O4n,O5n,F0⟩
 case round =>
 obtain ⟨kk,kn,hq,T4,T5,e4,e5,hkk,hgg,rfl,HB7,HG7,Br7,Bb7,Bo7,Bn7,Bm7,Bv7,Bw7,Okn7,Ohq7,HF⟩:=hrel;clear HB6 HG6 O4n O5n F0 Br6 Bb6 Bo6 Bn6 Bm6 Bv6 Bw6;obtain ⟨w7,hwn⟩ : ∃ x,x = wr:=⟨_,rfl⟩
 subst hwn;have F:=HF.out;clear HF;have hmax : m8.length ≤ 9223372036854775807:=P8'.out.row.2.1;by_cases hlt : kk < m8.length
 ·rw [show m8.length - kk = (m8.length - (kk + 1)) + 1 by omega] at F;replace F:=fold_cases F;have hltz : (kk : Int) < (m8.length : Int):=by omega
  have h0k : (0 : Int) ≤ (kk : Int):=by omega
  obtain ⟨ax,e⟩:=ent_some P8'.out.row hlt;subst e;obtain ⟨y0,y1,y2,y3,y4,y5,y6⟩:=ent_at (zL P8'.out.row HB7.out) hlt;have hP8:=zA P8'.out.len;generalize m8.getD kk z62 = X at F y0 y1 y2 y3 y4 y5 y6;have HX:=zA F;clear F;have hkc : (kk : Int) ≤ (d8 : Int):=by have:=hP8.out;omega
  have Br8:=zA (yE Br7.out (.cells #[.int .u8 X.f0,.int .u8 X.f1.f0,.int .u32 X.f1.f1,.int .u32 X.f1.f2,.int .i64 X.f2,.int .u8 X.f3,.int .u32 X.f4] 62));have Bb8:=zA (yE Bb7.out (.cells #[.int .u8 X.f0,.int .u8 X.f1.f0,.int .u32 X.f1.f1,.int .u32 X.f1.f2,.int .i64 X.f2,.int .u8 X.f3,.int .u32 X.f4] 62));have Bo8:=zA (yE Bo7.out (.cells #[.int .u8 X.f0,.int .u8 X.f1.f0,.int .u32 X.f1.f1,.int .u32 X.f1.f2,.int .i64 X.f2,.int .u8 X.f3,.int .u32 X.f4] 62));have Bn8:=zA (yE Bn7.out (.cells #[.int .u8 X.f0,.int .u8 X.f1.f0,.int .u32 X.f1.f1,.int .u32 X.f1.f2,.int .i64 X.f2,.int .u8 X.f3,.int .u32 X.f4] 62));have Bm8:=zA (yE Bm7.out (.cells #[.int .u8 X.f0,.int .u8 X.f1.f0,.int .u32 X.f1.f1,.int .u32 X.f1.f2,.int .i64 X.f2,.int .u8 X.f3,.int .u32 X.f4] 62));have Bv8:=zA (yE Bv7.out (.cells #[.int .u8 X.f0,.int .u8 X.f1.f0,.int .u32 X.f1.f1,.int .u32 X.f1.f2,.int .i64 X.f2,.int .u8 X.f3,.int .u32 X.f4] 62));have Bw8:=zA (yE Bw7.out (.cells #[.int .u8 X.f0,.int .u8 X.f1.f0,.int .u32 X.f1.f1,.int .u32 X.f1.f2,.int .i64 X.f2,.int .u8 X.f3,.int .u32 X.f4] 62));have Bz8:=zA (yL w7 (.cells #[.int .u8 X.f0,.int .u8 X.f1.f0,.int .u32 X.f1.f1,.int .u32 X.f1.f2,.int .i64 X.f2,.int .u8 X.f3,.int .u32 X.f4] 62));have HB8:=zA (HB7.out.alloc HB7.out.size (.cells #[.int .u8 X.f0,.int .u8 X.f1.f0,.int .u32 X.f1.f1,.int .u32 X.f1.f2,.int .i64 X.f2,.int .u8 X.f3,.int .u32 X.f4] 62));have HG8:=zA (show w0.heap.size ≤ (w7.alloc (.cells #[.int .u8 X.f0,.int .u8 X.f1.f0,.int .u32 X.f1.f1,.int .u32 X.f1.f2,.int .i64 X.f2,.int .u8 X.f3,.int .u32 X.f4] 62)).heap.size by have:=HG7.out;simp;omega);have Okn8:=zA (Okn7.out.below ((zS _ w7).alloc (zM _) (.cells #[.int .u8 X.f0,.int .u8 X.f1.f0,.int .u32 X.f1.f1,.int .u32 X.f1.f2,.int .i64 X.f2,.int .u8 X.f3,.int .u32 X.f4] 62)));have Ohq8:=zA (Ohq7.out.below ((zS _ w7).alloc (zM _) (.cells #[.int .u8 X.f0,.int .u8 X.f1.f0,.int .u32 X.f1.f1,.int .u32 X.f1.f2,.int .i64 X.f2,.int .u8 X.f3,.int .u32 X.f4] 62)));have hgnl : gn < w7.heap.size:=blk_lt Bw7.out;have HGL:=zA hgnl;have hne : gn ≠ w7.heap.size:=by omega
  clear HB7 HG7 Okn7 Ohq7 Br7 Bb7 Bo7 Bn7 Bm7 Bv7 Bw7;have w_c:=cells13 Bw8.out;have b_:=cells12 Bb8.out;have qz_:=cells7 Bz8.out;go_wp2_with fail;clear w_c b_ qz_;generalize w7.alloc (.cells #[.int .u8 X.f0,.int .u8 X.f1.f0,.int .u32 X.f1.f1,.int .u32 X.f1.f2,.int .i64 X.f2,.int .u8 X.f3,.int .u32 X.f4] 62) = w8 at Br8 Bb8 Bo8 Bn8 Bm8 Bv8 Bw8 Bz8 HB8 HG8 Okn8 Ohq8 ⊢;clear y0 y1 y2 y3 y4 y5 y6 hne hgnl HGL;generalize w7.heap.size = gx at Bz8 ⊢;clear Bz8;rcases HX.out with ⟨c,hno,er⟩ | ⟨kn1,hq1,hok,hf⟩
  ·subst er;have HO:=zA hno;clear HX hno hlt;refine (take_No k a0 a1 a2 a3 kn hq a6 a7 a8 a9 a10 l11 a12 T4 T5 A11 e4 e5 c11 X _ (fun j=>S j ∧ (j < w.heap.size ∨ gn < j)) Okn8.out Ohq8.out c HO.out).mono ?_;rintro ev w9 ⟨rfl,hx⟩;have Br9:=zA (zC Br8.out hx);have Bb9:=zA (zC Bb8.out hx);have Bo9:=zA (zC Bo8.out hx);have Bn9:=zA (zC Bn8.out hx);have Bm9:=zA (zC Bm8.out hx);have Bv9:=zA (zC Bv8.out hx);have Bw9:=zA (zC Bw8.out hx);have HB9:=zA (zG HB8.out hx);have HG9:=zA (zV HG8.out hx.size);clear hx HB8 HG8 Br8 Bb8 Bo8 Bn8 Bm8 Bv8 Bw8;clear Okn8 Ohq8
   try go_wp2
   refine leaves_cons (f:=34) (args:=#[.pointer (some ⟨w.heap.size + 1 + 1,0,none⟩),.pointer (some ⟨w.heap.size + 1 + 1 + 1,0,none⟩),.pointer (some ⟨w.heap.size + 1 + 1 + 1 + 1,0,none⟩),.pointer (some ⟨w.heap.size + 1 + 1 + 1 + 1 + 1,0,none⟩)]) (by simp) (by simp [go_sem]) ?_;refine (catch_left c w.heap.size (w.heap.size + 1 + 1) (w.heap.size + 1 + 1 + 1) (w.heap.size + 1 + 1 + 1 + 1) (w.heap.size + 1 + 1 + 1 + 1 + 1) w _ (by omega) (by omega) (by omega) (by omega) (by omega) (by omega) (by omega) (by omega) (by omega) (by omega) Bo9.out Bn9.out Bm9.out Bv9.out HB9.out).mono ?_;rintro e_ u_ w_ ⟨rfl,rfl,ho,hn,hm,hv,hB⟩;exact leaves_nil (acc_results rfl _ _ _ _ _ _ _ _ _ _ rfl rfl rfl rfl ho hn hm hv rfl rfl) (OutR.zero rfl hB)
  ·have HO:=zA hok;have HF:=zA hf;clear HX hok hf;refine (take_OK k a0 a1 a2 a3 kn hq a6 a7 a8 a9 a10 l11 a12 T4 T5 A11 e4 e5 c11 X _ (fun j=>S j ∧ (j < w.heap.size ∨ gn < j)) Okn8.out Ohq8.out (fun j hj=>⟨HS'.out j (zV HB8.out.size hj),.inr (Nat.lt_of_lt_of_le (blk_lt Bw8.out) hj)⟩) kn1 hq1 HO.out).mono ?_;rintro ev w9 ⟨V4,V5,f4,f5,rfl,q4,q5,hx⟩;have Br9:=zA (zC Br8.out hx);have Bb9:=zA (zC Bb8.out hx);have Bo9:=zA (zC Bo8.out hx);have Bn9:=zA (zC Bn8.out hx);have Bm9:=zA (zC Bm8.out hx);have Bv9:=zA (zC Bv8.out hx);have Bw9:=zA (zC Bw8.out hx);have HB9:=zA (zG HB8.out hx);have Okn9:=zA q4;clear q4;have Ohq9:=zA q5;clear q5;have HG9:=zA (zV HG8.out hx.size);clear hx HB8 HG8 Br8 Bb8 Bo8 Bn8 Bm8 Bv8 Bw8;clear Okn8 Ohq8;have w_c:=cells13 Bw9.out;have r_:=cells13 Br9.out;go_wp2_with (first | ((with_reducible refine gate_store (t:=28) (p:=8) rfl ?_);refine store_event (t:=28) (p:=8) (w1:=put_ w9 gn 0 [.int .u8 a0,.int .u8 a1,.int .u32 a2,.int .u32 a3,.slice V4 kn1.length f4,.slice V5 hq1.length f5,.bool a6,.int .u32 a7,.int .u8 a8,.int .u8 a9,.int .u32 a10,.slice A11 l11.length c11,.int .u32 a12]) rfl rfl rfl ?hr ?_;(case hr=>have f_:=frz13 Bw9.out;go_simp;rfl);intro w10 hw;have Br10:=zA (far_ hw (by omega) Br9.out);have Bb10:=zA (far_ hw (by omega) Bb9.out);have Bo10:=zA (far_ hw (by omega) Bo9.out);have Bn10:=zA (far_ hw (by omega) Bn9.out);have Bm10:=zA (far_ hw (by omega) Bm9.out);have Bv10:=zA (far_ hw (by omega) Bv9.out);have Bw10:=zA (own13_0_13 hw Bw9.out);have HB10:=zA (bel_ hw (by omega) HB9.out);have Okn10:=zA (Okn9.out.puts hw flatK_Run (fun k hk=>(by omega)));have Ohq10:=zA (Ohq9.out.puts hw flatK_Entry (fun k hk=>(by omega)));have HG10:=zA (siz_ hw HG9.out);clear hw HB9 HG9 Br9 Bb9 Bo9 Bn9 Bm9 Bv9 Bw9 Okn9 Ohq9 w_c r_;obtain ⟨r10_0,r10_1,r10_2,r10_3,r10_4,r10_5,r10_6,r10_7,r10_8,r10_9,r10_10,r10_11,r10_12⟩:=cells13 Br10.out;have b10_:=cells12 Bb10.out;have o10_:=cells13 Bo10.out;have n10_:=cells12 Bn10.out;have m10_0:=(zI Bm10.out 0).trans (show _ = some (.bool false) from rfl);have v10_0:=(zI Bv10.out 0).trans (show _ = some (.nilIface) from rfl);have w10_:=cells13 Bw10.out))
   go_roundg (m8.length - (kk + 1))
   case measure=>omega
   case rel=>exact ⟨kk + 1,kn1,hq1,_,_,_,_,by omega,zM _,by go_num,HB10,HG10,Br10,Bb10,Bo10,Bn10,Bm10,Bv10,Bw10,Okn10,Ohq10,HF⟩
 have hltz : ¬ (kk : Int) < (m8.length : Int):=by omega
 rw [show m8.length - kk = 0 by omega] at F;replace F : tend k b4 b10 l11 m11 kn hq = some res:=F;have HF:=zA F;clear F;clear Br7;have b_:=cells12 Bb7.out;go_upto_if 76 with fail;clear b_;clear hltz hlt hkk hgg hmax;go_cut [] from 77 (fun wc=>∃ (EP : Int) (TO : Option Addr) (cO : Nat) (of : List S67),EP = (if b4 = 0 then b7 else a10) ∧ of = (if b4 = 0 then m11 else l11) ∧ Aside0 (Below w.heap.size w wc) ∧ Aside0 (w0.heap.size ≤ wc.heap.size) ∧ Aside0 (wc.heap[w.heap.size + 1]? = some (.cells #[.int .i64 b0,.int .u8 b1,.int .u8 b2,.int .u32 b3,.int .u8 b4,.int .u8 b5,.slice M6 m6.length d6,.int .u32 b7,.slice M8 m8.length d8,.int .u8 b9,.bool b10,.slice M11 m11.length d11] 30 (0,0))) ∧ Aside0 (wc.heap[w.heap.size + 1 + 1]? = some (.cells #[.int .u8 0,.int .u8 0,.int .u32 0,.int .u32 0,.slice none 0 0,.slice none 0 0,.bool false,.int .u32 0,.int .u8 0,.int .u8 0,.int .u32 0,.slice none 0 0,.int .u32 0] 28 (0,0))) ∧ Aside0 (wc.heap[w.heap.size + 1 + 1 + 1]? = some (.cells #[.int .i64 0,.int .u8 0,.int .u8 0,.int .u32 0,.int .u8 0,.int .u8 0,.slice none 0 0,.int .u32 0,.slice none 0 0,.int .u8 0,.bool false,.slice none 0 0] 30 (0,0))) ∧ Aside0 (wc.heap[w.heap.size + 1 + 1 + 1 + 1]? = some (.cells #[.bool false] 4 (0,0))) ∧ Aside0 (wc.heap[w.heap.size + 1 + 1 + 1 + 1 + 1]? = some (.cells #[.nilIface] 35 (0,0))) ∧ Aside0 (wc.heap[gn]? = some (.cells #[.int .u8 a0,.int .u8 a1,.int .u32 a2,.int .u32 a3,.slice T4 kn.length e4,.slice T5 hq.length e5,.bool a6,.int .u32 a7,.int .u8 a8,.int .u8 a9,.int .u32 EP,.slice TO of.length cO,.int .u32 a12] 28 (0,0))) ∧ Aside0 (On k67 wc (fun j=>S j ∧ (j < w.heap.size ∨ gn < j)) T4 e4 kn) ∧ Aside0 (On k62 wc (fun j=>S j ∧ (j < w.heap.size ∨ gn < j)) T5 e5 hq) ∧ Aside0 (On k67 wc (fun j=>S j ∧ (j < w.heap.size ∨ gn < j)) TO cO of))
 case first =>
  by_cases hz : b4 = 0
  ·have hc3 : decide (b4 = 0) = true:=zE hz;have hc4 : (b4 == 0) = true:=yB.mpr hz;have HZ:=zA hz;clear hz;have b_:=cells12 Bb7.out;go_wp2_with fail;clear b_;refine region_lex (fun (s : Option (Option Addr × Nat)) d w'=>Below w.heap.size w w' ∧ w0.heap.size ≤ w'.heap.size ∧ w'.heap[w.heap.size + 1]? = w7.heap[w.heap.size + 1]? ∧ w'.heap[w.heap.size + 1 + 1]? = w7.heap[w.heap.size + 1 + 1]? ∧ w'.heap[w.heap.size + 1 + 1 + 1]? = w7.heap[w.heap.size + 1 + 1 + 1]? ∧ w'.heap[w.heap.size + 1 + 1 + 1 + 1]? = w7.heap[w.heap.size + 1 + 1 + 1 + 1]? ∧ w'.heap[w.heap.size + 1 + 1 + 1 + 1 + 1]? = w7.heap[w.heap.size + 1 + 1 + 1 + 1 + 1]? ∧ On k67 w' (fun j=>S j ∧ (j < w.heap.size ∨ gn < j)) T4 e4 kn ∧ On k62 w' (fun j=>S j ∧ (j < w.heap.size ∨ gn < j)) T5 e5 hq ∧ (match s with | none=>(d 7 = false ∧ d 10 = false) ∧ w'.heap[gn]? = some (.cells #[.int .u8 a0,.int .u8 a1,.int .u32 a2,.int .u32 a3,.slice T4 kn.length e4,.slice T5 hq.length e5,.bool a6,.int .u32 a7,.int .u8 a8,.int .u8 a9,.int .u32 a10,.slice A11 l11.length c11,.int .u32 a12] 28 (0,0)) | some (TO,cO)=>(On k67 w' (fun j=>S j ∧ (j < w.heap.size ∨ gn < j)) TO cO m11) ∧ w'.heap[gn]? = some (.cells #[.int .u8 a0,.int .u8 a1,.int .u32 a2,.int .u32 a3,.slice T4 kn.length e4,.slice T5 hq.length e5,.bool a6,.int .u32 a7,.int .u8 a8,.int .u8 a9,if d 7 = true then .int .u32 b7 else .int .u32 a10,if d 10 = true then .slice TO m11.length cO else .slice A11 l11.length c11,.int .u32 a12] 28 (0,0)))) 11 #[false,false,false,false,false,false,false,false,false,false,false] (by kernel_rfl) rfl rfl ?_ ?_
   ·exact ⟨pw_below_drewN HB7.out 1,HG7.out,rfl,rfl,rfl,rfl,rfl,On.drewN Okn7.out 1,On.drewN Ohq7.out 1,⟨⟨rfl,rfl⟩,blk_drewN Bw7.out 1⟩⟩
   refine lex_val (k:=0) (N:=some 77) (a':=?a0_7) (.pointer (some ⟨w.heap.size + 1,7,none⟩)) #[true,false,false,false,false,false,false,false,false,false,false] rfl rfl (by kernel_rfl) (by rfl) ?h0_7 ?ha0_7 ?r0_7
   case h0_7 =>
    rintro s hs_ d w' hd ⟨hB,hG,hb,ho,hn,hm,hv,okn,ohq,hgh⟩;refine ⟨w',?_,?_⟩
    ·go_simp
     try with_reducible rfl
    ·exact ⟨hB,hG,hb,ho,hn,hm,hv,okn,ohq,hgh⟩
   case ha0_7 =>
    simp only [Act.put,zK,zP,zQ,i64_w,i32_w];rfl
   case r0_7 =>
    refine lex_val (k:=1) (N:=some 78) (a':=?a1_7) (.int .u32 b7) #[true,true,false,false,false,false,false,false,false,false,false] rfl rfl (by kernel_rfl) (by rfl) ?h1_7 ?ha1_7 ?r1_7
    case h1_7 =>
     rintro s hs_ d w' hd ⟨hB,hG,hb,ho,hn,hm,hv,okn,ohq,hgh⟩;have qb_:=cells12 (hb.trans Bb7.out);refine ⟨w',?_,?_⟩
     ·go_simp
      try with_reducible rfl
     ·exact ⟨hB,hG,hb,ho,hn,hm,hv,okn,ohq,hgh⟩
    case ha1_7 =>
     simp only [Act.put,zK,zP,zQ,i64_w,i32_w];rfl
    case r1_7 =>
     refine lex_val (k:=2) (N:=some 79) (a':=?a2_7) (.pointer (some ⟨w.heap.size + 1,11,none⟩)) #[true,true,true,false,false,false,false,false,false,false,false] rfl rfl (by kernel_rfl) (by rfl) ?h2_7 ?ha2_7 ?r2_7
     case h2_7 =>
      rintro s hs_ d w' hd ⟨hB,hG,hb,ho,hn,hm,hv,okn,ohq,hgh⟩;refine ⟨w',?_,?_⟩
      ·go_simp
       try with_reducible rfl
      ·exact ⟨hB,hG,hb,ho,hn,hm,hv,okn,ohq,hgh⟩
     case ha2_7 =>
      simp only [Act.put,zK,zP,zQ,i64_w,i32_w];rfl
     case r2_7 =>
      refine lex_val (k:=3) (N:=some 80) (a':=?a3_7) (.slice M11 m11.length d11) #[true,true,true,true,false,false,false,false,false,false,false] rfl rfl (by kernel_rfl) (by rfl) ?h3_7 ?ha3_7 ?r3_7
      case h3_7 =>
       rintro s hs_ d w' hd ⟨hB,hG,hb,ho,hn,hm,hv,okn,ohq,hgh⟩;have qb_:=cells12 (hb.trans Bb7.out);refine ⟨w',?_,?_⟩
       ·go_simp
        try with_reducible rfl
       ·exact ⟨hB,hG,hb,ho,hn,hm,hv,okn,ohq,hgh⟩
      case ha3_7 =>
       simp only [Act.put,zK,zP,zQ,i64_w,i32_w];rfl
      case r3_7 =>
       refine lex_val (k:=5) (N:=some 82) (a':=?a5_7) (.pointer (some ⟨gn,6,none⟩)) #[true,true,true,true,false,true,false,false,false,false,false] rfl rfl (by kernel_rfl) (by rfl) ?h5_7 ?ha5_7 ?r5_7
       case h5_7 =>
        rintro s hs_ d w' hd ⟨hB,hG,hb,ho,hn,hm,hv,okn,ohq,hgh⟩;refine ⟨w',?_,?_⟩
        ·go_simp
         try with_reducible rfl
        ·exact ⟨hB,hG,hb,ho,hn,hm,hv,okn,ohq,hgh⟩
       case ha5_7 =>
        simp only [Act.put,zK,zP,zQ,i64_w,i32_w];rfl
       case r5_7 =>
        refine lex_val (k:=6) (N:=some 83) (a':=?a6_7) (.pointer (some ⟨gn,10,none⟩)) #[true,true,true,true,false,true,true,false,false,false,false] rfl rfl (by kernel_rfl) (by rfl) ?h6_7 ?ha6_7 ?r6_7
        case h6_7 =>
         rintro s hs_ d w' hd ⟨hB,hG,hb,ho,hn,hm,hv,okn,ohq,hgh⟩;refine ⟨w',?_,?_⟩
         ·go_simp
          try with_reducible rfl
         ·exact ⟨hB,hG,hb,ho,hn,hm,hv,okn,ohq,hgh⟩
        case ha6_7 =>
         simp only [Act.put,zK,zP,zQ,i64_w,i32_w];rfl
        case r6_7 =>
         refine lex_ask (k:=4) (N:=some 81) 36 #[.slice M11 m11.length d11] (fun (TO,cO)=>.slice TO m11.length cO) #[true,true,true,true,true,true,true,false,false,false,false] rfl rfl (by kernel_rfl) (by rfl) ?h14_7 ?h4_7 ?r4_7
         case h14_7=>intro w';go_simp
         case h4_7 =>
          rintro d w' hd ⟨hB,hG,hb,ho,hn,hm,hv,okn,ohq,hgd,hgb⟩;refine (clone_On M11 d11 m11 w' (fun j=>S j ∧ (j < w.heap.size ∨ gn < j)) (zL P11'.out.row hB) P11'.out.len (fun j hj=>⟨HS'.out j (zV hB.size hj),.inr (Nat.lt_of_lt_of_le (blk_lt hgb) hj)⟩) HLO'.out).mono ?_;rintro e w2 ⟨TO,cO,rfl,q1,hx⟩;obtain ⟨hgd7,hgd10⟩:=hgd;refine ⟨(TO,cO),rfl,hB.trans (hx.mono hB.size),zV hG hx.size,keep_ hb Bb7.out hx,keep_ ho Bo7.out hx,keep_ hn Bn7.out hx,keep_ hm Bm7.out hx,keep_ hv Bv7.out hx,okn.below hx,ohq.below hx,⟨q1,?_⟩⟩;rw [show upd d 4 7 = d 7 from rfl,hgd7];rw [show upd d 4 10 = d 10 from rfl,hgd10];exact zC hgb hx
         case r4_7 =>
          rintro ⟨TO,cO⟩;refine lex_norm (a':=?_) ?_ ?_;rotate_left
          ·show Act.put _ (some 81) _ = _;simp only [Act.put,zK,zP,zQ,i64_w,i32_w];rfl
          refine lex_skip (k:=7) (N:=none) (a':=?a7_7) #[true,true,true,true,true,true,true,true,false,false,false] rfl rfl (by kernel_rfl) (by rfl) ?h7_7 ?ha7_7 ?r7_7
          case h7_7 =>
           rintro s hs_ d w' hd ⟨hB,hG,hb,ho,hn,hm,hv,okn,ohq,hgh⟩;rcases hs_ with hs_ | rfl
           ·cases hs_
           obtain ⟨q1,hgb⟩:=hgh;have hb_:=hgb;have f10:=yA hb_ 10;have z10:=(zI hb_ 10).trans (show _ = some _ from rfl);refine ⟨put_ w' (gn) 10 [.int .u32 b7],?_,?_⟩
           ·go_simp
            try rfl
           ·exact ⟨put_below _ (by omega) _ _ _ hB,by rw [put_size];exact hG,(put_far _ _ (by omega) _ _ _).trans hb,(put_far _ _ (by omega) _ _ _).trans ho,(put_far _ _ (by omega) _ _ _).trans hn,(put_far _ _ (by omega) _ _ _).trans hm,(put_far _ _ (by omega) _ _ _).trans hv,On.put flatK_Run _ (fun k hk=>(by omega)) _ _ _ okn,On.put flatK_Entry _ (fun k hk=>(by omega)) _ _ _ ohq,⟨On.put flatK_Run _ (fun k hk=>by omega) _ _ _ q1,put_lit _ _ [.int .u8 a0,.int .u8 a1,.int .u32 a2,.int .u32 a3,.slice T4 kn.length e4,.slice T5 hq.length e5,.bool a6,.int .u32 a7,.int .u8 a8,.int .u8 a9] [if d 7 = true then .int .u32 b7 else .int .u32 a10] [if d 10 = true then .slice TO m11.length cO else .slice A11 l11.length c11,.int .u32 a12] _ rfl hb_⟩⟩
          case ha7_7=>rfl
          case r7_7 =>
           refine lex_val (k:=8) (N:=some 84) (a':=?a8_7) (.pointer (some ⟨gn,6,none⟩)) #[true,true,true,true,true,true,true,true,true,false,false] rfl rfl (by kernel_rfl) (by rfl) ?h8_7 ?ha8_7 ?r8_7
           case h8_7 =>
            rintro s hs_ d w' hd ⟨hB,hG,hb,ho,hn,hm,hv,okn,ohq,hgh⟩;refine ⟨w',?_,?_⟩
            ·go_simp
             try with_reducible rfl
            ·exact ⟨hB,hG,hb,ho,hn,hm,hv,okn,ohq,hgh⟩
           case ha8_7 =>
            simp only [Act.put,zK,zP,zQ,i64_w,i32_w];rfl
           case r8_7 =>
            refine lex_val (k:=9) (N:=some 85) (a':=?a9_7) (.pointer (some ⟨gn,11,none⟩)) #[true,true,true,true,true,true,true,true,true,true,false] rfl rfl (by kernel_rfl) (by rfl) ?h9_7 ?ha9_7 ?r9_7
            case h9_7 =>
             rintro s hs_ d w' hd ⟨hB,hG,hb,ho,hn,hm,hv,okn,ohq,hgh⟩;refine ⟨w',?_,?_⟩
             ·go_simp
              try with_reducible rfl
             ·exact ⟨hB,hG,hb,ho,hn,hm,hv,okn,ohq,hgh⟩
            case ha9_7 =>
             simp only [Act.put,zK,zP,zQ,i64_w,i32_w];rfl
            case r9_7 =>
             refine lex_skip (k:=10) (N:=none) (a':=?a10_7) #[true,true,true,true,true,true,true,true,true,true,true] rfl rfl (by kernel_rfl) (by rfl) ?h10_7 ?ha10_7 ?r10_7
             case h10_7 =>
              rintro s hs_ d w' hd ⟨hB,hG,hb,ho,hn,hm,hv,okn,ohq,hgh⟩;rcases hs_ with hs_ | rfl
              ·cases hs_
              obtain ⟨q1,hgb⟩:=hgh;have hb_:=hgb;have f11:=yA hb_ 11;have z11:=(zI hb_ 11).trans (show _ = some _ from rfl);refine ⟨put_ w' (gn) 11 [.slice TO m11.length cO],?_,?_⟩
              ·go_simp
               try rfl
              ·exact ⟨put_below _ (by omega) _ _ _ hB,by rw [put_size];exact hG,(put_far _ _ (by omega) _ _ _).trans hb,(put_far _ _ (by omega) _ _ _).trans ho,(put_far _ _ (by omega) _ _ _).trans hn,(put_far _ _ (by omega) _ _ _).trans hm,(put_far _ _ (by omega) _ _ _).trans hv,On.put flatK_Run _ (fun k hk=>(by omega)) _ _ _ okn,On.put flatK_Entry _ (fun k hk=>(by omega)) _ _ _ ohq,⟨On.put flatK_Run _ (fun k hk=>by omega) _ _ _ q1,put_lit _ _ [.int .u8 a0,.int .u8 a1,.int .u32 a2,.int .u32 a3,.slice T4 kn.length e4,.slice T5 hq.length e5,.bool a6,.int .u32 a7,.int .u8 a8,.int .u8 a9,if d 7 = true then .int .u32 b7 else .int .u32 a10] [if d 10 = true then .slice TO m11.length cO else .slice A11 l11.length c11] [.int .u32 a12] _ rfl hb_⟩⟩
             case ha10_7=>rfl
             case r10_7 =>
              refine lex_done (by kernel_rfl) ?_;rintro w8 ⟨_,hB,hG,hb,ho,hn,hm,hv,okn,ohq,hgh⟩;obtain ⟨q1,hgb⟩:=hgh;have Bb8:=zA (hb.trans Bb7.out);have Bo8:=zA (ho.trans Bo7.out);have Bn8:=zA (hn.trans Bn7.out);have Bm8:=zA (hm.trans Bm7.out);have Bv8:=zA (hv.trans Bv7.out);have Bw8:=zA (show w8.heap[gn]? = some (.cells #[.int .u8 a0,.int .u8 a1,.int .u32 a2,.int .u32 a3,.slice T4 kn.length e4,.slice T5 hq.length e5,.bool a6,.int .u32 a7,.int .u8 a8,.int .u8 a9,.int .u32 b7,.slice TO m11.length cO,.int .u32 a12] 28 (0,0)) from hgb);have HB8:=zA hB;have HG8:=zA hG;have Okn8:=zA okn;have Ohq8:=zA ohq;clear hB hG hgb hb ho hn hm hv okn ohq HB7 HG7 Bb7 Bo7 Bn7 Bm7 Bv7 Bw7 Okn7 Ohq7;have Oof8:=zA q1;clear q1;go_wp2_with fail;go_meet;have hz:=HZ.out;exact ⟨b7,TO,cO,m11,(if_pos hz).symm,(if_pos hz).symm,HB8,HG8,Bb8,Bo8,Bn8,Bm8,Bv8,Bw8,Okn8,Ohq8,Oof8⟩
  ·have hc3 : decide (b4 = 0) = false:=zF hz;have hc4 : (b4 == 0) = false:=zR.mpr hz;have HZ:=zA hz;clear hz;have Oof7:=zA ((O11'.out.lt (by decide)).below HB7.out |>.mono (fun j h=>(⟨h.1,.inl h.2⟩ : (fun j=>S j ∧ (j < w.heap.size ∨ gn < j)) j)));go_wp2_with fail;go_meet;have hz:=HZ.out;exact ⟨a10,A11,c11,l11,(if_neg hz).symm,(if_neg hz).symm,HB7,HG7,Bb7,Bo7,Bn7,Bm7,Bv7,Bw7,Okn7,Ohq7,Oof7⟩
 case rest =>
 clear HB7 HG7 Bb7 Bo7 Bn7 Bm7 Bv7 Bw7 Okn7 Ohq7;obtain ⟨EP,TO,cO,of,hEP,hof,HB8,HG8,Bb8,Bo8,Bn8,Bm8,Bv8,Bw8,Okn8,Ohq8,Oof8⟩:=hcut;obtain ⟨w8,hwn⟩ : ∃ x,x = wc:=⟨_,rfl⟩
 subst hwn;have HEP:=zA hEP;have HOF:=zA hof;clear hEP hof;cases b10
 ·obtain ⟨hlk,er⟩:=tend_more HF.out;subst er;have HLK:=zA hlk;clear HF hlk;have w_c:=cells13 Bw8.out;have b_:=cells12 Bb8.out;go_wp2_with (first | ((with_reducible refine gate_store (t:=5) (p:=104) rfl ?_);refine store_event (t:=5) (p:=104) (w1:=put_ w8 gn 9 [.int .u8 b9]) rfl rfl rfl ?hr ?_;(case hr=>have fz_:=yA Bw8.out 9;go_simp;rfl);intro w9 hw;have Bb9:=zA (far_ hw (by omega) Bb8.out);have Bo9:=zA (far_ hw (by omega) Bo8.out);have Bn9:=zA (far_ hw (by omega) Bn8.out);have Bm9:=zA (far_ hw (by omega) Bm8.out);have Bv9:=zA (far_ hw (by omega) Bv8.out);have Bw9:=zA (own13_9_1 hw Bw8.out);have HB9:=zA (bel_ hw (by omega) HB8.out);have Okn9:=zA (Okn8.out.puts hw flatK_Run (fun k hk=>(by omega)));have Ohq9:=zA (Ohq8.out.puts hw flatK_Entry (fun k hk=>(by omega)));have Oof9:=zA (Oof8.out.puts hw flatK_Run (fun k hk=>(by omega)));have HG9:=zA (siz_ hw HG8.out);clear hw HB8 HG8 Bb8 Bo8 Bn8 Bm8 Bv8 Bw8 Okn8 Ohq8 Oof8 w_c b_;have b9_:=cells12 Bb9.out;have o9_:=cells13 Bo9.out;have n9_:=cells12 Bn9.out;have m9_0:=(zI Bm9.out 0).trans (show _ = some (.bool false) from rfl);have v9_0:=(zI Bv9.out 0).trans (show _ = some (.nilIface) from rfl);have w9_:=cells13 Bw9.out))
  refine region_lex (fun (s : Option (Option Addr × Nat × Option Addr × Nat × Option Addr × Nat)) d w'=>Below w.heap.size w w' ∧ w0.heap.size ≤ w'.heap.size ∧ w'.heap[w.heap.size + 1]? = w9.heap[w.heap.size + 1]? ∧ w'.heap[w.heap.size + 1 + 1]? = (if d 3 = true then some (.cells #[.int .u8 a0,.int .u8 a1,.int .u32 a2,.int .u32 a3,.slice T4 kn.length e4,.slice T5 hq.length e5,.bool a6,.int .u32 a7,.int .u8 a8,.int .u8 b9,.int .u32 EP,.slice TO of.length cO,.int .u32 a12] 28 (0,0)) else w9.heap[w.heap.size + 1 + 1]?) ∧ w'.heap[w.heap.size + 1 + 1 + 1 + 1]? = (if d 5 = true then some (.cells #[.bool true] 4 (0,0)) else w9.heap[w.heap.size + 1 + 1 + 1 + 1]?) ∧ w'.heap[w.heap.size + 1 + 1 + 1 + 1 + 1]? = w9.heap[w.heap.size + 1 + 1 + 1 + 1 + 1]? ∧ w'.heap[gn]? = w9.heap[gn]? ∧ On k67 w' (fun j=>S j ∧ (j < w.heap.size ∨ gn < j)) T4 e4 kn ∧ On k62 w' (fun j=>S j ∧ (j < w.heap.size ∨ gn < j)) T5 e5 hq ∧ On k67 w' (fun j=>S j ∧ (j < w.heap.size ∨ gn < j)) TO cO of ∧ (match s with | none=>(d 4 = false) ∧ w'.heap[w.heap.size + 1 + 1 + 1]? = w9.heap[w.heap.size + 1 + 1 + 1]? | some (K1,k1,K2,k2,K3,k3)=>(On k67 w' (fun j=>S j ∧ (j < w.heap.size ∨ gn < j)) K1 k1 kn ∧ On k62 w' (fun j=>S j ∧ (j < w.heap.size ∨ gn < j)) K2 k2 [] ∧ On k67 w' (fun j=>S j ∧ (j < w.heap.size ∨ gn < j)) K3 k3 []) ∧ w'.heap[w.heap.size + 1 + 1 + 1]? = (if d 4 = true then some (.cells #[.int .i64 1,.int .u8 a0,.int .u8 a8,.int .u32 a7,.int .u8 b9,.int .u8 a1,.slice K1 kn.length k1,.int .u32 0,.slice K2 0 k2,.int .u8 0,.bool false,.slice K3 0 k3] 30 (0,0)) else w9.heap[w.heap.size + 1 + 1 + 1]?))) 7 #[false,false,false,false,false,false,false] (by kernel_rfl) rfl rfl ?_ ?_
  ·exact ⟨pw_below_drewN HB9.out 1,HG9.out,rfl,rfl,rfl,rfl,rfl,On.drewN Okn9.out 1,On.drewN Ohq9.out 1,On.drewN Oof9.out 1,⟨rfl,rfl⟩⟩
  clear b9_ o9_ n9_ m9_0 v9_0 w9_;refine lex_val (k:=0) (N:=some 105) (a':=?a0_9) (.agg #[.int .u8 a0,.int .u8 a1,.int .u32 a2,.int .u32 a3,.slice T4 kn.length e4,.slice T5 hq.length e5,.bool a6,.int .u32 a7,.int .u8 a8,.int .u8 b9,.int .u32 EP,.slice TO of.length cO,.int .u32 a12]) #[true,false,false,false,false,false,false] rfl rfl (by kernel_rfl) (by rfl) ?h0_9 ?ha0_9 ?r0_9
  case h0_9 =>
   rintro s hs_ d w' hd ⟨hB,hG,hb,ho,hm,hv,hw,okn,ohq,oof,hgh⟩;have qw_:=cells13 (hw.trans Bw9.out);refine ⟨w',?_,?_⟩
   ·go_simp
    try with_reducible rfl
   ·exact ⟨hB,hG,hb,ho,hm,hv,hw,okn,ohq,oof,hgh⟩
  case ha0_9 =>
   simp only [Act.put,zK,zP,zQ,i64_w,i32_w];rfl
  case r0_9 =>
   refine lex_val (k:=1) (N:=some 106) (a':=?a1_9) (.agg #[.int .u8 a0,.int .u8 a1,.int .u32 a2,.int .u32 a3,.slice T4 kn.length e4,.slice T5 hq.length e5,.bool a6,.int .u32 a7,.int .u8 a8,.int .u8 b9,.int .u32 EP,.slice TO of.length cO,.int .u32 a12]) #[true,true,false,false,false,false,false] rfl rfl (by kernel_rfl) (by rfl) ?h1_9 ?ha1_9 ?r1_9
   case h1_9 =>
    rintro s hs_ d w' hd ⟨hB,hG,hb,ho,hm,hv,hw,okn,ohq,oof,hgh⟩;have qw_:=cells13 (hw.trans Bw9.out);refine ⟨w',?_,?_⟩
    ·go_simp
     try with_reducible rfl
    ·exact ⟨hB,hG,hb,ho,hm,hv,hw,okn,ohq,oof,hgh⟩
   case ha1_9 =>
    simp only [Act.put,zK,zP,zQ,i64_w,i32_w];rfl
   case r1_9 =>
    refine lex_ask (k:=2) (N:=some 107) 39 #[.agg #[.int .u8 a0,.int .u8 a1,.int .u32 a2,.int .u32 a3,.slice T4 kn.length e4,.slice T5 hq.length e5,.bool a6,.int .u32 a7,.int .u8 a8,.int .u8 b9,.int .u32 EP,.slice TO of.length cO,.int .u32 a12]] (fun (K1,k1,K2,k2,K3,k3)=>.agg #[.int .i64 1,.int .u8 a0,.int .u8 a8,.int .u32 a7,.int .u8 b9,.int .u8 a1,.slice K1 kn.length k1,.int .u32 0,.slice K2 0 k2,.int .u8 0,.bool false,.slice K3 0 k3]) #[true,true,true,false,false,false,false] rfl rfl (by kernel_rfl) (by rfl) ?h12_9 ?h2_9 ?r2_9
    case h12_9=>intro w';go_simp
    case h2_9 =>
     rintro d w' hd ⟨hB,hG,hb,ho,hm,hv,hw,okn,ohq,oof,hgd,hgb⟩;refine (pull_On a0 a1 a2 a3 kn hq a6 a7 a8 b9 EP of a12 T4 T5 TO e4 e5 cO w' (fun j=>S j ∧ (j < w.heap.size ∨ gn < j)) okn.row okn.len ohq.row ohq.len oof.row oof.len (fun j hj=>⟨HS'.out j (zV hB.size hj),.inr (Nat.lt_of_lt_of_le (blk_lt (hw.trans Bw9.out)) hj)⟩) HLK.out).mono ?_;rintro e w2 ⟨K1,k1,K2,k2,K3,k3,rfl,q1,q2,q3,hx⟩;refine ⟨(K1,k1,K2,k2,K3,k3),rfl,hB.trans (hx.mono hB.size),zV hG hx.size,keep_ hb Bb9.out hx,keepi_ ho Bo9.out hx,keepi_ hm Bm9.out hx,keep_ hv Bv9.out hx,keep_ hw Bw9.out hx,okn.below hx,ohq.below hx,oof.below hx,⟨⟨q1,q2,q3⟩,?_⟩⟩;rw [show upd d 2 4 = d 4 from rfl,hgd];exact (keep_ hgb Bn9.out hx).trans (if_neg (by decide)).symm
    case r2_9 =>
     rintro ⟨K1,k1,K2,k2,K3,k3⟩;refine lex_norm (a':=?_) ?_ ?_;rotate_left
     ·show Act.put _ (some 107) _ = _;simp only [Act.put,zK,zP,zQ,i64_w,i32_w];rfl
     refine lex_skip (k:=3) (N:=none) (a':=?a3_9) #[true,true,true,true,false,false,false] rfl rfl (by kernel_rfl) (by rfl) ?h3_9 ?ha3_9 ?r3_9
     case h3_9 =>
      rintro s hs_ d w' hd ⟨hB,hG,hb,ho,hm,hv,hw,okn,ohq,oof,hgh⟩;rcases hs_ with hs_ | rfl
      ·cases hs_
      obtain ⟨⟨q1,q2,q3⟩,hgb⟩:=hgh;have hb_:=(ho.trans (if_neg (by simp [hd]))).trans Bo9.out;have f_:=frz13 hb_;obtain ⟨z0,z1,z2,z3,z4,z5,z6,z7,z8,z9,z10,z11,z12⟩:=cells13 hb_;refine ⟨put_ w' (w.heap.size + 1 + 1) 0 [.int .u8 a0,.int .u8 a1,.int .u32 a2,.int .u32 a3,.slice T4 kn.length e4,.slice T5 hq.length e5,.bool a6,.int .u32 a7,.int .u8 a8,.int .u8 b9,.int .u32 EP,.slice TO of.length cO,.int .u32 a12],?_,?_⟩
      ·go_simp
       try rfl
      ·exact ⟨put_below _ (by omega) _ _ _ hB,by rw [put_size];exact hG,(put_far _ _ (by omega) _ _ _).trans hb,(own13_0_13 rfl hb_).trans (if_pos rfl).symm,(put_far _ _ (by omega) _ _ _).trans hm,(put_far _ _ (by omega) _ _ _).trans hv,(put_far _ _ (by omega) _ _ _).trans hw,On.put flatK_Run _ (fun k hk=>(by omega)) _ _ _ okn,On.put flatK_Entry _ (fun k hk=>(by omega)) _ _ _ ohq,On.put flatK_Run _ (fun k hk=>(by omega)) _ _ _ oof,⟨⟨On.put flatK_Run _ (fun k hk=>by omega) _ _ _ q1,On.put flatK_Entry _ (fun k hk=>by omega) _ _ _ q2,On.put flatK_Run _ (fun k hk=>by omega) _ _ _ q3⟩,(put_far _ _ (by omega) _ _ _).trans hgb⟩⟩
     case ha3_9=>rfl
     case r3_9 =>
      refine lex_skip (k:=4) (N:=none) (a':=?a4_9) #[true,true,true,true,true,false,false] rfl rfl (by kernel_rfl) (by rfl) ?h4_9 ?ha4_9 ?r4_9
      case h4_9 =>
       rintro s hs_ d w' hd ⟨hB,hG,hb,ho,hm,hv,hw,okn,ohq,oof,hgh⟩;rcases hs_ with hs_ | rfl
       ·cases hs_
       obtain ⟨⟨q1,q2,q3⟩,hgb⟩:=hgh;have hb_:=(hgb.trans (if_neg (by simp [hd]))).trans Bn9.out;have f_:=frz13 hb_;obtain ⟨z0,z1,z2,z3,z4,z5,z6,z7,z8,z9,z10,z11⟩:=cells12 hb_;refine ⟨put_ w' (w.heap.size + 1 + 1 + 1) 0 [.int .i64 1,.int .u8 a0,.int .u8 a8,.int .u32 a7,.int .u8 b9,.int .u8 a1,.slice K1 kn.length k1,.int .u32 0,.slice K2 0 k2,.int .u8 0,.bool false,.slice K3 0 k3],?_,?_⟩
       ·go_simp
        try rfl
       ·exact ⟨put_below _ (by omega) _ _ _ hB,by rw [put_size];exact hG,(put_far _ _ (by omega) _ _ _).trans hb,(put_far _ _ (by omega) _ _ _).trans ho,(put_far _ _ (by omega) _ _ _).trans hm,(put_far _ _ (by omega) _ _ _).trans hv,(put_far _ _ (by omega) _ _ _).trans hw,On.put flatK_Run _ (fun k hk=>(by omega)) _ _ _ okn,On.put flatK_Entry _ (fun k hk=>(by omega)) _ _ _ ohq,On.put flatK_Run _ (fun k hk=>(by omega)) _ _ _ oof,⟨⟨On.put flatK_Run _ (fun k hk=>by omega) _ _ _ q1,On.put flatK_Entry _ (fun k hk=>by omega) _ _ _ q2,On.put flatK_Run _ (fun k hk=>by omega) _ _ _ q3⟩,(own12_0_12 rfl hb_).trans (if_pos rfl).symm⟩⟩
      case ha4_9=>rfl
      case r4_9 =>
       refine lex_skip (k:=5) (N:=none) (a':=?a5_9) #[true,true,true,true,true,true,false] rfl rfl (by kernel_rfl) (by rfl) ?h5_9 ?ha5_9 ?r5_9
       case h5_9 =>
        rintro s hs_ d w' hd ⟨hB,hG,hb,ho,hm,hv,hw,okn,ohq,oof,hgh⟩;rcases hs_ with hs_ | rfl
        ·cases hs_
        obtain ⟨⟨q1,q2,q3⟩,hgb⟩:=hgh;have hb_:=(hm.trans (if_neg (by simp [hd]))).trans Bm9.out;have f0:=yA hb_ 0;have z0:=(zI hb_ 0).trans (show _ = some (.bool false) from rfl);refine ⟨put_ w' (w.heap.size + 1 + 1 + 1 + 1) 0 [.bool true],?_,?_⟩
        ·go_simp
         try rfl
        ·exact ⟨put_below _ (by omega) _ _ _ hB,by rw [put_size];exact hG,(put_far _ _ (by omega) _ _ _).trans hb,(put_far _ _ (by omega) _ _ _).trans ho,(own1_0_1 rfl hb_).trans (if_pos rfl).symm,(put_far _ _ (by omega) _ _ _).trans hv,(put_far _ _ (by omega) _ _ _).trans hw,On.put flatK_Run _ (fun k hk=>(by omega)) _ _ _ okn,On.put flatK_Entry _ (fun k hk=>(by omega)) _ _ _ ohq,On.put flatK_Run _ (fun k hk=>(by omega)) _ _ _ oof,⟨⟨On.put flatK_Run _ (fun k hk=>by omega) _ _ _ q1,On.put flatK_Entry _ (fun k hk=>by omega) _ _ _ q2,On.put flatK_Run _ (fun k hk=>by omega) _ _ _ q3⟩,(put_far _ _ (by omega) _ _ _).trans hgb⟩⟩
       case ha5_9=>rfl
       case r5_9 =>
        refine lex_skip (k:=6) (N:=none) (a':=?a6_9) #[true,true,true,true,true,true,true] rfl rfl (by kernel_rfl) (by rfl) ?h6_9 ?ha6_9 ?r6_9
        case h6_9 =>
         rintro s hs_ d w' hd ⟨hB,hG,hb,ho,hm,hv,hw,okn,ohq,oof,hgh⟩;rcases hs_ with hs_ | rfl
         ·cases hs_
         obtain ⟨⟨q1,q2,q3⟩,hgb⟩:=hgh;have hb_:=hv.trans Bv9.out;have f0:=yA hb_ 0;have z0:=(zI hb_ 0).trans (show _ = some (.nilIface) from rfl);refine ⟨put_ w' (w.heap.size + 1 + 1 + 1 + 1 + 1) 0 [.nilIface],?_,?_⟩
         ·go_simp
          try rfl
         ·exact ⟨put_below _ (by omega) _ _ _ hB,by rw [put_size];exact hG,(put_far _ _ (by omega) _ _ _).trans hb,(put_far _ _ (by omega) _ _ _).trans ho,(put_far _ _ (by omega) _ _ _).trans hm,(own1_0_1 rfl hb_).trans Bv9.out.symm,(put_far _ _ (by omega) _ _ _).trans hw,On.put flatK_Run _ (fun k hk=>(by omega)) _ _ _ okn,On.put flatK_Entry _ (fun k hk=>(by omega)) _ _ _ ohq,On.put flatK_Run _ (fun k hk=>(by omega)) _ _ _ oof,⟨⟨On.put flatK_Run _ (fun k hk=>by omega) _ _ _ q1,On.put flatK_Entry _ (fun k hk=>by omega) _ _ _ q2,On.put flatK_Run _ (fun k hk=>by omega) _ _ _ q3⟩,(put_far _ _ (by omega) _ _ _).trans hgb⟩⟩
        case ha6_9=>rfl
        case r6_9 =>
         refine lex_done (by kernel_rfl) ?_;rintro w10 ⟨_,hB,hG,hb,ho,hm,hv,hw,okn,ohq,oof,hgh⟩;obtain ⟨⟨q1,q2,q3⟩,hgb⟩:=hgh;have Bb10:=zA (hb.trans Bb9.out);have Bo10:=zA (ho.trans (if_pos rfl));have Bn10:=zA (hgb.trans (if_pos rfl));have Bm10:=zA (hm.trans (if_pos rfl));have Bv10:=zA (hv.trans Bv9.out);have Bw10:=zA (hw.trans Bw9.out);have HB10:=zA hB;have HG10:=zA hG;have Okn10:=zA okn;have Ohq10:=zA ohq;have Oof10:=zA oof;clear hB hG hgb hb ho hm hv hw okn ohq oof HB9 HG9 Bb9 Bo9 Bn9 Bm9 Bv9 Bw9 Okn9 Ohq9 Oof9;have Oq110:=zA q1;clear q1;have Oq210:=zA q2;clear q2;have Oq310:=zA q3;clear q3;go_wp2_with fail;refine leaves_cons (f:=34) (args:=#[.pointer (some ⟨w.heap.size + 1 + 1,0,none⟩),.pointer (some ⟨w.heap.size + 1 + 1 + 1,0,none⟩),.pointer (some ⟨w.heap.size + 1 + 1 + 1 + 1,0,none⟩),.pointer (some ⟨w.heap.size + 1 + 1 + 1 + 1 + 1,0,none⟩)]) (by simp) (by simp [go_sem]) ?_;refine (catch_none _ _ _ _ _).mono ?_;rintro e_ u_ w_ ⟨rfl,rfl,rfl⟩;exact leaves_nil (acc_results rfl _ _ _ _ _ _ _ _ _ _ rfl rfl rfl rfl Bo10.out Bn10.out Bm10.out Bv10.out rfl rfl) (by unfold RPost;rw [← HEP.out,← HOF.out];exact ⟨T4,e4,T5,e5,TO,cO,K1,k1,K2,k2,K3,k3,rfl,Okn10.out.mono (fun _ h=>h.1),Ohq10.out.mono (fun _ h=>h.1),Oof10.out.mono (fun _ h=>h.1),Oq110.out.mono (fun _ h=>h.1),Oq210.out.mono (fun _ h=>h.1),Oq310.out.mono (fun _ h=>h.1),HB10.out⟩)
 ·obtain ⟨u,ec,hun,F⟩:=tend_done HF.out;rw [← HOF.out] at hun;have HUN:=zA hun;have HF2:=zA F;clear HF hun F HEP HOF;have w_c:=cells13 Bw8.out;have b_:=cells12 Bb8.out;go_wp2_with fail;refine (union_On k T4 e4 kn TO cO of u ec _ (fun j=>S j ∧ (j < w.heap.size ∨ gn < j)) Okn8.out.row Okn8.out.len Oof8.out.row Oof8.out.len (fun j hj=>⟨HS'.out j (zV HB8.out.size hj),.inr (Nat.lt_of_lt_of_le (blk_lt Bw8.out) hj)⟩) HUN.out).mono ?_;rintro ev w9 ⟨TU,eU,rfl,qu,hx⟩;have Bb9:=zA (zC Bb8.out hx);have Bo9:=zA (zC Bo8.out hx);have Bn9:=zA (zC Bn8.out hx);have Bm9:=zA (zC Bm8.out hx);have Bv9:=zA (zC Bv8.out hx);have Bw9:=zA (zC Bw8.out hx);have HB9:=zA (zG HB8.out hx);have Okn9:=zA (Okn8.out.below hx);have Ohq9:=zA (Ohq8.out.below hx);have Oof9:=zA (Oof8.out.below hx);have Oun9:=zA qu;clear qu;have HG9:=zA (zV HG8.out hx.size);clear w_c b_;clear hx HB8 HG8 Bb8 Bo8 Bn8 Bm8 Bv8 Bw8 Okn8 Ohq8 Oof8;clear HUN;have er:=HF2.out;clear HF2;have w_c:=cells13 Bw9.out;have b_:=cells12 Bb9.out;cases ec with
  | none =>
   subst er;go_wp2_with fail;refine (mustRun_ok _ _).mono ?_;rintro ev ww ⟨rfl,rfl⟩;go_wp2_with (first | ((with_reducible refine gate_store (t:=23) (p:=97) rfl ?_);refine store_event (t:=23) (p:=97) (w1:=put_ w9 gn 4 [.slice TU u.length eU]) rfl rfl rfl ?hr ?_;(case hr=>have fz_:=yA Bw9.out 4;go_simp;rfl);intro w10 hw;have Bb10:=zA (far_ hw (by omega) Bb9.out);have Bo10:=zA (far_ hw (by omega) Bo9.out);have Bn10:=zA (far_ hw (by omega) Bn9.out);have Bm10:=zA (far_ hw (by omega) Bm9.out);have Bv10:=zA (far_ hw (by omega) Bv9.out);have Bw10:=zA (own13_4_1 hw Bw9.out);have HB10:=zA (bel_ hw (by omega) HB9.out);have Okn10:=zA (Okn9.out.puts hw flatK_Run (fun k hk=>(by omega)));have Ohq10:=zA (Ohq9.out.puts hw flatK_Entry (fun k hk=>(by omega)));have Oof10:=zA (Oof9.out.puts hw flatK_Run (fun k hk=>(by omega)));have Oun10:=zA (Oun9.out.puts hw flatK_Run (fun k hk=>(by omega)));have HG10:=zA (siz_ hw HG9.out);clear hw HB9 HG9 Bb9 Bo9 Bn9 Bm9 Bv9 Bw9 Okn9 Ohq9 Oof9 Oun9 w_c b_;have b10_:=cells12 Bb10.out;have o10_:=cells13 Bo10.out;have n10_:=cells12 Bn10.out;have m10_0:=(zI Bm10.out 0).trans (show _ = some (.bool false) from rfl);have v10_0:=(zI Bv10.out 0).trans (show _ = some (.nilIface) from rfl);have w10_:=cells13 Bw10.out))
   refine region_lex (fun (s : Option (Unit)) d w'=>Below w.heap.size w w' ∧ w0.heap.size ≤ w'.heap.size ∧ w'.heap[w.heap.size + 1]? = w10.heap[w.heap.size + 1]? ∧ w'.heap[w.heap.size + 1 + 1]? = (if d 3 = true then some (.cells #[.int .u8 a0,.int .u8 a1,.int .u32 a2,.int .u32 a3,.slice TU u.length eU,.slice T5 hq.length e5,.bool false,.int .u32 0,.int .u8 0,.int .u8 0,.int .u32 0,.slice none 0 0,.int .u32 a12] 28 (0,0)) else w10.heap[w.heap.size + 1 + 1]?) ∧ w'.heap[w.heap.size + 1 + 1 + 1]? = w10.heap[w.heap.size + 1 + 1 + 1]? ∧ w'.heap[w.heap.size + 1 + 1 + 1 + 1]? = w10.heap[w.heap.size + 1 + 1 + 1 + 1]? ∧ w'.heap[w.heap.size + 1 + 1 + 1 + 1 + 1]? = w10.heap[w.heap.size + 1 + 1 + 1 + 1 + 1]? ∧ w'.heap[gn]? = w10.heap[gn]? ∧ On k67 w' (fun j=>S j ∧ (j < w.heap.size ∨ gn < j)) T4 e4 kn ∧ On k62 w' (fun j=>S j ∧ (j < w.heap.size ∨ gn < j)) T5 e5 hq ∧ On k67 w' (fun j=>S j ∧ (j < w.heap.size ∨ gn < j)) TO cO of ∧ On k67 w' (fun j=>S j ∧ (j < w.heap.size ∨ gn < j)) TU eU u) 7 #[false,false,false,false,false,false,false] (by kernel_rfl) rfl rfl ?_ ?_
   ·exact ⟨pw_below_drewN HB10.out 1,HG10.out,rfl,rfl,rfl,rfl,rfl,rfl,On.drewN Okn10.out 1,On.drewN Ohq10.out 1,On.drewN Oof10.out 1,On.drewN Oun10.out 1⟩
   clear b10_ o10_ n10_ m10_0 v10_0 w10_;refine lex_val (k:=0) (N:=some 98) (a':=?a0_8) (.agg #[.int .u8 a0,.int .u8 a1,.int .u32 a2,.int .u32 a3,.slice TU u.length eU,.slice T5 hq.length e5,.bool a6,.int .u32 a7,.int .u8 a8,.int .u8 a9,.int .u32 EP,.slice TO of.length cO,.int .u32 a12]) #[true,false,false,false,false,false,false] rfl rfl (by kernel_rfl) (by rfl) ?h0_8 ?ha0_8 ?r0_8
   case h0_8 =>
    rintro s hs_ d w' hd ⟨hB,hG,hb,ho,hn,hm,hv,hw,okn,ohq,oof,oun⟩;have qw_:=cells13 (hw.trans Bw10.out);refine ⟨w',?_,?_⟩
    ·go_simp
     try with_reducible rfl
    ·exact ⟨hB,hG,hb,ho,hn,hm,hv,hw,okn,ohq,oof,oun⟩
   case ha0_8 =>
    simp only [Act.put,zK,zP,zQ,i64_w,i32_w];rfl
   case r0_8 =>
    refine lex_call (k:=1) (N:=some 99) (a':=?a1_8) 33 #[.agg #[.int .u8 a0,.int .u8 a1,.int .u32 a2,.int .u32 a3,.slice TU u.length eU,.slice T5 hq.length e5,.bool a6,.int .u32 a7,.int .u8 a8,.int .u8 a9,.int .u32 EP,.slice TO of.length cO,.int .u32 a12]] (.agg #[.int .u8 a0,.int .u8 a1,.int .u32 a2,.int .u32 a3,.slice TU u.length eU,.slice T5 hq.length e5,.bool false,.int .u32 0,.int .u8 0,.int .u8 0,.int .u32 0,.slice none 0 0,.int .u32 a12]) #[true,true,false,false,false,false,false] rfl rfl (by kernel_rfl) (by rfl) ?h11_8 ?h1_8 ?ha1_8 ?r1_8
    case h11_8=>intro w';go_simp
    case h1_8 =>
     rintro s hs_ d w' hd ⟨hB,hG,hb,ho,hn,hm,hv,hw,okn,ohq,oof,oun⟩;refine (off_is a0 a1 a2 a3 u hq a6 a7 a8 a9 EP of a12 TU T5 TO eU e5 cO w').mono ?_;rintro e w2 ⟨rfl,hx⟩;exact ⟨rfl,hB.trans (hx.mono hB.size),zV hG hx.size,keep_ hb Bb10.out hx,keepi_ ho Bo10.out hx,keep_ hn Bn10.out hx,keep_ hm Bm10.out hx,keep_ hv Bv10.out hx,keep_ hw Bw10.out hx,okn.below hx,ohq.below hx,oof.below hx,oun.below hx⟩
    case ha1_8 =>
     simp only [Act.put,zK,zP,zQ,i64_w,i32_w];rfl
    case r1_8 =>
     refine lex_val (k:=2) (N:=some 100) (a':=?a2_8) (.agg #[.int .i64 0,.int .u8 0,.int .u8 0,.int .u32 0,.int .u8 0,.int .u8 0,.slice none 0 0,.int .u32 0,.slice none 0 0,.int .u8 0,.bool false,.slice none 0 0]) #[true,true,true,false,false,false,false] rfl rfl (by kernel_rfl) (by rfl) ?h2_8 ?ha2_8 ?r2_8
     case h2_8 =>
      rintro s hs_ d w' hd ⟨hB,hG,hb,ho,hn,hm,hv,hw,okn,ohq,oof,oun⟩;have qn_:=cells12 (hn.trans Bn10.out);refine ⟨w',?_,?_⟩
      ·go_simp
       try with_reducible rfl
      ·exact ⟨hB,hG,hb,ho,hn,hm,hv,hw,okn,ohq,oof,oun⟩
     case ha2_8 =>
      simp only [Act.put,zK,zP,zQ,i64_w,i32_w];rfl
     case r2_8 =>
      refine lex_skip (k:=3) (N:=none) (a':=?a3_8) #[true,true,true,true,false,false,false] rfl rfl (by kernel_rfl) (by rfl) ?h3_8 ?ha3_8 ?r3_8
      case h3_8 =>
       rintro s hs_ d w' hd ⟨hB,hG,hb,ho,hn,hm,hv,hw,okn,ohq,oof,oun⟩;have hb_:=(ho.trans (if_neg (by simp [hd]))).trans Bo10.out;have f_:=frz13 hb_;obtain ⟨z0,z1,z2,z3,z4,z5,z6,z7,z8,z9,z10,z11,z12⟩:=cells13 hb_;refine ⟨put_ w' (w.heap.size + 1 + 1) 0 [.int .u8 a0,.int .u8 a1,.int .u32 a2,.int .u32 a3,.slice TU u.length eU,.slice T5 hq.length e5,.bool false,.int .u32 0,.int .u8 0,.int .u8 0,.int .u32 0,.slice none 0 0,.int .u32 a12],?_,?_⟩
       ·go_simp
        try rfl
       ·exact ⟨put_below _ (by omega) _ _ _ hB,by rw [put_size];exact hG,(put_far _ _ (by omega) _ _ _).trans hb,(own13_0_13 rfl hb_).trans (if_pos rfl).symm,(put_far _ _ (by omega) _ _ _).trans hn,(put_far _ _ (by omega) _ _ _).trans hm,(put_far _ _ (by omega) _ _ _).trans hv,(put_far _ _ (by omega) _ _ _).trans hw,On.put flatK_Run _ (fun k hk=>(by omega)) _ _ _ okn,On.put flatK_Entry _ (fun k hk=>(by omega)) _ _ _ ohq,On.put flatK_Run _ (fun k hk=>(by omega)) _ _ _ oof,On.put flatK_Run _ (fun k hk=>(by omega)) _ _ _ oun⟩
      case ha3_8=>rfl
      case r3_8 =>
       refine lex_skip (k:=4) (N:=none) (a':=?a4_8) #[true,true,true,true,true,false,false] rfl rfl (by kernel_rfl) (by rfl) ?h4_8 ?ha4_8 ?r4_8
       case h4_8 =>
        rintro s hs_ d w' hd ⟨hB,hG,hb,ho,hn,hm,hv,hw,okn,ohq,oof,oun⟩;have hb_:=hn.trans Bn10.out;have f_:=frz13 hb_;obtain ⟨z0,z1,z2,z3,z4,z5,z6,z7,z8,z9,z10,z11⟩:=cells12 hb_;refine ⟨put_ w' (w.heap.size + 1 + 1 + 1) 0 [.int .i64 0,.int .u8 0,.int .u8 0,.int .u32 0,.int .u8 0,.int .u8 0,.slice none 0 0,.int .u32 0,.slice none 0 0,.int .u8 0,.bool false,.slice none 0 0],?_,?_⟩
        ·go_simp
         try rfl
        ·exact ⟨put_below _ (by omega) _ _ _ hB,by rw [put_size];exact hG,(put_far _ _ (by omega) _ _ _).trans hb,(put_far _ _ (by omega) _ _ _).trans ho,(own12_0_12 rfl hb_).trans Bn10.out.symm,(put_far _ _ (by omega) _ _ _).trans hm,(put_far _ _ (by omega) _ _ _).trans hv,(put_far _ _ (by omega) _ _ _).trans hw,On.put flatK_Run _ (fun k hk=>(by omega)) _ _ _ okn,On.put flatK_Entry _ (fun k hk=>(by omega)) _ _ _ ohq,On.put flatK_Run _ (fun k hk=>(by omega)) _ _ _ oof,On.put flatK_Run _ (fun k hk=>(by omega)) _ _ _ oun⟩
       case ha4_8=>rfl
       case r4_8 =>
        refine lex_skip (k:=5) (N:=none) (a':=?a5_8) #[true,true,true,true,true,true,false] rfl rfl (by kernel_rfl) (by rfl) ?h5_8 ?ha5_8 ?r5_8
        case h5_8 =>
         rintro s hs_ d w' hd ⟨hB,hG,hb,ho,hn,hm,hv,hw,okn,ohq,oof,oun⟩;have hb_:=hm.trans Bm10.out;have f0:=yA hb_ 0;have z0:=(zI hb_ 0).trans (show _ = some (.bool false) from rfl);refine ⟨put_ w' (w.heap.size + 1 + 1 + 1 + 1) 0 [.bool false],?_,?_⟩
         ·go_simp
          try rfl
         ·exact ⟨put_below _ (by omega) _ _ _ hB,by rw [put_size];exact hG,(put_far _ _ (by omega) _ _ _).trans hb,(put_far _ _ (by omega) _ _ _).trans ho,(put_far _ _ (by omega) _ _ _).trans hn,(own1_0_1 rfl hb_).trans Bm10.out.symm,(put_far _ _ (by omega) _ _ _).trans hv,(put_far _ _ (by omega) _ _ _).trans hw,On.put flatK_Run _ (fun k hk=>(by omega)) _ _ _ okn,On.put flatK_Entry _ (fun k hk=>(by omega)) _ _ _ ohq,On.put flatK_Run _ (fun k hk=>(by omega)) _ _ _ oof,On.put flatK_Run _ (fun k hk=>(by omega)) _ _ _ oun⟩
        case ha5_8=>rfl
        case r5_8 =>
         refine lex_skip (k:=6) (N:=none) (a':=?a6_8) #[true,true,true,true,true,true,true] rfl rfl (by kernel_rfl) (by rfl) ?h6_8 ?ha6_8 ?r6_8
         case h6_8 =>
          rintro s hs_ d w' hd ⟨hB,hG,hb,ho,hn,hm,hv,hw,okn,ohq,oof,oun⟩;have hb_:=hv.trans Bv10.out;have f0:=yA hb_ 0;have z0:=(zI hb_ 0).trans (show _ = some (.nilIface) from rfl);refine ⟨put_ w' (w.heap.size + 1 + 1 + 1 + 1 + 1) 0 [.nilIface],?_,?_⟩
          ·go_simp
           try rfl
          ·exact ⟨put_below _ (by omega) _ _ _ hB,by rw [put_size];exact hG,(put_far _ _ (by omega) _ _ _).trans hb,(put_far _ _ (by omega) _ _ _).trans ho,(put_far _ _ (by omega) _ _ _).trans hn,(put_far _ _ (by omega) _ _ _).trans hm,(own1_0_1 rfl hb_).trans Bv10.out.symm,(put_far _ _ (by omega) _ _ _).trans hw,On.put flatK_Run _ (fun k hk=>(by omega)) _ _ _ okn,On.put flatK_Entry _ (fun k hk=>(by omega)) _ _ _ ohq,On.put flatK_Run _ (fun k hk=>(by omega)) _ _ _ oof,On.put flatK_Run _ (fun k hk=>(by omega)) _ _ _ oun⟩
         case ha6_8=>rfl
         case r6_8 =>
          refine lex_done (by kernel_rfl) ?_;rintro w11 ⟨_,hB,hG,hb,ho,hn,hm,hv,hw,okn,ohq,oof,oun⟩;have Bb11:=zA (hb.trans Bb10.out);have Bo11:=zA (ho.trans (if_pos rfl));have Bn11:=zA (hn.trans Bn10.out);have Bm11:=zA (hm.trans Bm10.out);have Bv11:=zA (hv.trans Bv10.out);have Bw11:=zA (hw.trans Bw10.out);have HB11:=zA hB;have HG11:=zA hG;have Okn11:=zA okn;have Ohq11:=zA ohq;have Oof11:=zA oof;have Oun11:=zA oun;clear hB hG hb ho hn hm hv hw okn ohq oof oun HB10 HG10 Bb10 Bo10 Bn10 Bm10 Bv10 Bw10 Okn10 Ohq10 Oof10 Oun10;go_wp2_with fail;refine leaves_cons (f:=34) (args:=#[.pointer (some ⟨w.heap.size + 1 + 1,0,none⟩),.pointer (some ⟨w.heap.size + 1 + 1 + 1,0,none⟩),.pointer (some ⟨w.heap.size + 1 + 1 + 1 + 1,0,none⟩),.pointer (some ⟨w.heap.size + 1 + 1 + 1 + 1 + 1,0,none⟩)]) (by simp) (by simp [go_sem]) ?_;refine (catch_none _ _ _ _ _).mono ?_;rintro e_ u_ w_ ⟨rfl,rfl,rfl⟩;exact leaves_nil (acc_results rfl _ _ _ _ _ _ _ _ _ _ rfl rfl rfl rfl Bo11.out Bn11.out Bm11.out Bv11.out rfl rfl) (OutR.off rfl (Oun11.out.mono (fun _ h=>h.1)) (Ohq11.out.mono (fun _ h=>h.1)) HB11.out)
  | some c =>
   subst er;go_wp2_with fail;refine (mustRun_panics _ c _).mono ?_;rintro ev ww ⟨rfl,rfl⟩
   try go_wp2
   refine leaves_cons (f:=34) (args:=#[.pointer (some ⟨w.heap.size + 1 + 1,0,none⟩),.pointer (some ⟨w.heap.size + 1 + 1 + 1,0,none⟩),.pointer (some ⟨w.heap.size + 1 + 1 + 1 + 1,0,none⟩),.pointer (some ⟨w.heap.size + 1 + 1 + 1 + 1 + 1,0,none⟩)]) (by simp) (by simp [go_sem]) ?_;refine (catch_left c w.heap.size (w.heap.size + 1 + 1) (w.heap.size + 1 + 1 + 1) (w.heap.size + 1 + 1 + 1 + 1) (w.heap.size + 1 + 1 + 1 + 1 + 1) w _ (by omega) (by omega) (by omega) (by omega) (by omega) (by omega) (by omega) (by omega) (by omega) (by omega) Bo9.out Bn9.out Bm9.out Bv9.out HB9.out).mono ?_;rintro e_ u_ w_ ⟨rfl,rfl,ho,hn,hm,hv,hB⟩;exact leaves_nil (acc_results rfl _ _ _ _ _ _ _ _ _ _ rfl rfl rfl rfl ho hn hm hv rfl rfl) (OutR.zero rfl hB)
theorem tAcc_calls (k : Nat) (a0 a1 a2 a3 : Int) (l4 : List S67) (l5 : List S62) (a6 : Bool) (a7 a8 a9 a10 : Int) (l11 : List S67) (a12 : Int) (A4 A5 A11 : Option Addr) (c4 c5 c11 : Nat) (b0 b1 b2 b3 b4 b5 : Int) (m6 : List S67) (b7 : Int) (m8 : List S62) (b9 : Int) (b10 : Bool) (m11 : List S67) (M6 M8 M11 : Option Addr) (d6 d8 d11 : Nat) (w : World) (S : Nat → Prop) (o4 : On k67 w S A4 c4 l4) (o5 : On k62 w S A5 c5 l5) (o11 : On k67 w S A11 c11 l11) (p6 : On k67 w S M6 d6 m6) (p8 : On k62 w S M8 d8 m8) (p11 : On k67 w S M11 d11 m11) (hS : ∀ j,w.heap.size ≤ j → S j) (hlo : m11.length ≤ 400000) (res : RRes) (h : tgtAcc k a0 a1 a2 a3 l4 l5 a6 a7 a8 a9 a10 l11 a12 b0 b1 b2 b3 b4 b5 m6 b7 m8 b9 b10 m11 = some res) : Calls Tryz.prog 9 #[.agg #[.int .u8 a0,.int .u8 a1,.int .u32 a2,.int .u32 a3,.slice A4 l4.length c4,.slice A5 l5.length c5,.bool a6,.int .u32 a7,.int .u8 a8,.int .u8 a9,.int .u32 a10,.slice A11 l11.length c11,.int .u32 a12],.agg #[.int .i64 b0,.int .u8 b1,.int .u8 b2,.int .u32 b3,.int .u8 b4,.int .u8 b5,.slice M6 m6.length d6,.int .u32 b7,.slice M8 m8.length d8,.int .u8 b9,.bool b10,.slice M11 m11.length d11]] w fun e w'=>RPost errW S w a0 a1 a2 a3 l4 l5 a6 a7 a8 a9 a10 l11 a12 b4 b7 b9 m11 res e w':=by
 obtain ⟨g,hg,h⟩:=zJ.mp h;cases g with
 | some r =>
  obtain rfl:=zH h;exact tAcc_no k a0 a1 a2 a3 l4 l5 a6 a7 a8 a9 a10 l11 a12 A4 A5 A11 c4 c5 c11 b0 b1 b2 b3 b4 b5 m6 b7 m8 b9 b10 m11 M6 M8 M11 d6 d8 d11 w S o4 o5 o11 p6 p8 p11 r hg
 | none =>
  obtain ⟨h1,h2,h3,h4,h5,h6⟩:=gate_pass hg;exact tAcc_go k a0 a1 a2 a3 l4 l5 a6 a7 a8 a9 a10 l11 a12 A4 A5 A11 c4 c5 c11 b0 b1 b2 b3 b4 b5 m6 b7 m8 b9 b10 m11 M6 M8 M11 d6 d8 d11 w S o4 o5 o11 p6 p8 p11 h1 h2 h3 h4 h5 h6 hS hlo res h
end Go.Proofs.YtiminjibcafkaaaGreatDoor.X
