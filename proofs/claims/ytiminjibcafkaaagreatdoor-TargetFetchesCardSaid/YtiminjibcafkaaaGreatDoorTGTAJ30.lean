/- Texts that this claim's law comes to, joined by wip/slim.py: Xpull, Xbegin. -/
import Derived.Test.YtiminjibcafkaaaGreatDoorTGTAJ11
import Derived.Test.YtiminjibcafkaaaGreatDoorTGTAJ29
import Derived.Test.YtiminjibcafkaaaGreatDoorTGTAJ5
import Derived.Test.YtiminjibcafkaaaGreatDoorTGTAJ8
import Derived.Test.YtiminjibcafkaaaGreatDoorTGTAXhreplicaRight
set_option linter.unusedSimpArgs false
set_option linter.unusedVariables false
section
namespace Go.Proofs.YtiminjibcafkaaaGreatDoor.X
open RowKit YtiminjibcafkaaaGreatDoorW.PrintWords YtiminjibcafkaaaGreatDoorW.PrintLast YtiminjibcafkaaaGreatDoorW.PrintMore
theorem clone_On (A : Option Addr) (c : Nat) (l : List S67) (w : World) (S : Nat → Prop) (h : Kd.C k67 w A l.length l) (hc : l.length ≤ c) (hS : ∀ j,w.heap.size ≤ j → S j) (hl : l.length ≤ 400000) :
 Calls Tryz.prog 36 #[.slice A l.length c] w fun e w'=>∃ T d,e = .returned (.slice T l.length d) ∧ On k67 w' S T d l ∧ Below w.heap.size w w':=by
 refine (slices_Clone_Run.calls A c l l w h hc (by unfold slices_Clone_Run.f;rw [if_pos (by omega)])).mono ?_;rintro e w' ⟨v,rfl,hR,hx⟩;obtain ⟨T,d,rfl⟩:=yJ hR;exact ⟨T,d,rfl,.of_R hR (fun k _ h=>hS k h),hx⟩
set_option maxRecDepth 100000 in
set_option maxHeartbeats 8000000 in
theorem pull_On (a0 a1 a2 a3 : Int) (l4 : List S67) (l5 : List S62) (a6 : Bool) (a7 a8 a9 a10 : Int) (l11 : List S67) (a12 : Int) (A4 A5 A11 : Option Addr) (c4 c5 c11 : Nat) (w : World) (S : Nat → Prop) (r4 : Kd.C k67 w A4 l4.length l4) (i4 : l4.length ≤ c4) (r5 : Kd.C k62 w A5 l5.length l5) (i5 : l5.length ≤ c5) (r11 : Kd.C k67 w A11 l11.length l11) (i11 : l11.length ≤ c11) (hS : ∀ j,w.heap.size ≤ j → S j) (hl : l4.length ≤ 400000) :
 Calls Tryz.prog 39 #[.agg #[.int .u8 a0,.int .u8 a1,.int .u32 a2,.int .u32 a3,.slice A4 l4.length c4,.slice A5 l5.length c5,.bool a6,.int .u32 a7,.int .u8 a8,.int .u8 a9,.int .u32 a10,.slice A11 l11.length c11,.int .u32 a12]] w fun e w'=>∃ T c T1 c1 T2 c2,e = .returned (.agg #[.int .i64 1,.int .u8 a0,.int .u8 a8,.int .u32 a7,.int .u8 a9,.int .u8 a1,.slice T l4.length c,.int .u32 0,.slice T1 0 c1,.int .u8 0,.bool false,.slice T2 0 c2]) ∧ On k67 w' S T c l4 ∧ On k62 w' S T1 c1 [] ∧ On k67 w' S T2 c2 [] ∧ Below w.heap.size w w':=by
 have huR:=Tryz.underlying28;have huN:=Tryz.underlying30;have huS:=Tryz.underlying26;have R4':=zA r4;have I4':=zA i4;have HS':=zA hS;have HL':=zA hl;clear r4 i4 r5 i5 r11 i11 hS hl;go_enter Tryz.func39,Tryz.ntmps39;go_wp2_with fail;generalize hW : World.alloc (World.alloc (World.alloc w _) _) _ = w0;have Br0:=zA (al3_0 hW);have Bo0:=zA (al3_1 hW);have By0:=zA (al3_2 hW);have HB0:=zA (al3B hW);clear hW;have GG:=zA (show w.heap.size + 3 ≤ w0.heap.size by have:=blk_lt By0.out;omega);have HG0:=zA (zM w0.heap.size);refine region_lex (fun (s : Option (Option Addr × Nat)) d w'=>Below w.heap.size w w' ∧ w0.heap.size ≤ w'.heap.size ∧ w'.heap[w.heap.size]? = w0.heap[w.heap.size]? ∧ w'.heap[w.heap.size + 1 + 1]? = w0.heap[w.heap.size + 1 + 1]? ∧ (match s with | none=>(d 14 = false) ∧ w'.heap[w.heap.size + 1]? = w0.heap[w.heap.size + 1]? | some (T,c)=>(On k67 w' (fun j=>S j ∧ w.heap.size + 3 ≤ j) T c l4) ∧ w'.heap[w.heap.size + 1]? = (if d 14 = true then some (.cells #[.int .i64 1,.int .u8 a0,.int .u8 a8,.int .u32 a7,.int .u8 a9,.int .u8 a1,.slice T l4.length c,.int .u32 0,.slice none 0 0,.int .u8 0,.bool false,.slice none 0 0] 30 (0,0)) else w0.heap[w.heap.size + 1]?))) 15 #[false,false,false,false,false,false,false,false,false,false,false,false,false,false,false] (by kernel_rfl) rfl rfl ?_ ?_
 ·exact ⟨pw_below_drewN HB0.out 1,HG0.out,rfl,rfl,⟨rfl,rfl⟩⟩
 refine lex_val (k:=0) (N:=some 6) (a':=?a0_7) (.pointer (some ⟨w.heap.size,0,none⟩)) #[true,false,false,false,false,false,false,false,false,false,false,false,false,false,false] rfl rfl (by kernel_rfl) (by rfl) ?h0_7 ?ha0_7 ?r0_7
 case h0_7 =>
  rintro s hs_ d w' hd ⟨hB,hG,hr,hy,hgh⟩;refine ⟨w',?_,?_⟩
  ·go_simp
   try with_reducible rfl
  ·exact ⟨hB,hG,hr,hy,hgh⟩
 case ha0_7 =>
  simp only [Act.put,zK,zP,zQ,i64_w,i32_w];rfl
 case r0_7 =>
  refine lex_val (k:=1) (N:=some 7) (a':=?a1_7) (.int .u8 a0) #[true,true,false,false,false,false,false,false,false,false,false,false,false,false,false] rfl rfl (by kernel_rfl) (by rfl) ?h1_7 ?ha1_7 ?r1_7
  case h1_7 =>
   rintro s hs_ d w' hd ⟨hB,hG,hr,hy,hgh⟩;have qr_:=cells13 (hr.trans Br0.out);refine ⟨w',?_,?_⟩
   ·go_simp
    try with_reducible rfl
   ·exact ⟨hB,hG,hr,hy,hgh⟩
  case ha1_7 =>
   simp only [Act.put,zK,zP,zQ,i64_w,i32_w];rfl
  case r1_7 =>
   refine lex_val (k:=2) (N:=some 8) (a':=?a2_7) (.pointer (some ⟨w.heap.size + 1 + 1,2,none⟩)) #[true,true,true,false,false,false,false,false,false,false,false,false,false,false,false] rfl rfl (by kernel_rfl) (by rfl) ?h2_7 ?ha2_7 ?r2_7
   case h2_7 =>
    rintro s hs_ d w' hd ⟨hB,hG,hr,hy,hgh⟩;refine ⟨w',?_,?_⟩
    ·go_simp
     try with_reducible rfl
    ·exact ⟨hB,hG,hr,hy,hgh⟩
   case ha2_7 =>
    simp only [Act.put,zK,zP,zQ,i64_w,i32_w];rfl
   case r2_7 =>
    refine lex_val (k:=3) (N:=some 9) (a':=?a3_7) (.int .u8 a8) #[true,true,true,true,false,false,false,false,false,false,false,false,false,false,false] rfl rfl (by kernel_rfl) (by rfl) ?h3_7 ?ha3_7 ?r3_7
    case h3_7 =>
     rintro s hs_ d w' hd ⟨hB,hG,hr,hy,hgh⟩;have qy_:=cells7 (hy.trans By0.out);refine ⟨w',?_,?_⟩
     ·go_simp
      try with_reducible rfl
     ·exact ⟨hB,hG,hr,hy,hgh⟩
    case ha3_7 =>
     simp only [Act.put,zK,zP,zQ,i64_w,i32_w];rfl
    case r3_7 =>
     refine lex_val (k:=4) (N:=some 10) (a':=?a4_7) (.pointer (some ⟨w.heap.size + 1 + 1,1,none⟩)) #[true,true,true,true,true,false,false,false,false,false,false,false,false,false,false] rfl rfl (by kernel_rfl) (by rfl) ?h4_7 ?ha4_7 ?r4_7
     case h4_7 =>
      rintro s hs_ d w' hd ⟨hB,hG,hr,hy,hgh⟩;refine ⟨w',?_,?_⟩
      ·go_simp
       try with_reducible rfl
      ·exact ⟨hB,hG,hr,hy,hgh⟩
     case ha4_7 =>
      simp only [Act.put,zK,zP,zQ,i64_w,i32_w];rfl
     case r4_7 =>
      refine lex_val (k:=5) (N:=some 11) (a':=?a5_7) (.int .u32 a7) #[true,true,true,true,true,true,false,false,false,false,false,false,false,false,false] rfl rfl (by kernel_rfl) (by rfl) ?h5_7 ?ha5_7 ?r5_7
      case h5_7 =>
       rintro s hs_ d w' hd ⟨hB,hG,hr,hy,hgh⟩;have qy_:=cells7 (hy.trans By0.out);refine ⟨w',?_,?_⟩
       ·go_simp
        try with_reducible rfl
       ·exact ⟨hB,hG,hr,hy,hgh⟩
      case ha5_7 =>
       simp only [Act.put,zK,zP,zQ,i64_w,i32_w];rfl
      case r5_7 =>
       refine lex_val (k:=6) (N:=some 12) (a':=?a6_7) (.pointer (some ⟨w.heap.size + 1 + 1,3,none⟩)) #[true,true,true,true,true,true,true,false,false,false,false,false,false,false,false] rfl rfl (by kernel_rfl) (by rfl) ?h6_7 ?ha6_7 ?r6_7
       case h6_7 =>
        rintro s hs_ d w' hd ⟨hB,hG,hr,hy,hgh⟩;refine ⟨w',?_,?_⟩
        ·go_simp
         try with_reducible rfl
        ·exact ⟨hB,hG,hr,hy,hgh⟩
       case ha6_7 =>
        simp only [Act.put,zK,zP,zQ,i64_w,i32_w];rfl
       case r6_7 =>
        refine lex_val (k:=7) (N:=some 13) (a':=?a7_7) (.int .u8 a9) #[true,true,true,true,true,true,true,true,false,false,false,false,false,false,false] rfl rfl (by kernel_rfl) (by rfl) ?h7_7 ?ha7_7 ?r7_7
        case h7_7 =>
         rintro s hs_ d w' hd ⟨hB,hG,hr,hy,hgh⟩;have qy_:=cells7 (hy.trans By0.out);refine ⟨w',?_,?_⟩
         ·go_simp
          try with_reducible rfl
         ·exact ⟨hB,hG,hr,hy,hgh⟩
        case ha7_7 =>
         simp only [Act.put,zK,zP,zQ,i64_w,i32_w];rfl
        case r7_7 =>
         refine lex_val (k:=8) (N:=some 14) (a':=?a8_7) (.pointer (some ⟨w.heap.size,1,none⟩)) #[true,true,true,true,true,true,true,true,true,false,false,false,false,false,false] rfl rfl (by kernel_rfl) (by rfl) ?h8_7 ?ha8_7 ?r8_7
         case h8_7 =>
          rintro s hs_ d w' hd ⟨hB,hG,hr,hy,hgh⟩;refine ⟨w',?_,?_⟩
          ·go_simp
           try with_reducible rfl
          ·exact ⟨hB,hG,hr,hy,hgh⟩
         case ha8_7 =>
          simp only [Act.put,zK,zP,zQ,i64_w,i32_w];rfl
         case r8_7 =>
          refine lex_val (k:=9) (N:=some 15) (a':=?a9_7) (.int .u8 a1) #[true,true,true,true,true,true,true,true,true,true,false,false,false,false,false] rfl rfl (by kernel_rfl) (by rfl) ?h9_7 ?ha9_7 ?r9_7
          case h9_7 =>
           rintro s hs_ d w' hd ⟨hB,hG,hr,hy,hgh⟩;have qr_:=cells13 (hr.trans Br0.out);refine ⟨w',?_,?_⟩
           ·go_simp
            try with_reducible rfl
           ·exact ⟨hB,hG,hr,hy,hgh⟩
          case ha9_7 =>
           simp only [Act.put,zK,zP,zQ,i64_w,i32_w];rfl
          case r9_7 =>
           refine lex_val (k:=10) (N:=some 16) (a':=?a10_7) (.pointer (some ⟨w.heap.size,4,none⟩)) #[true,true,true,true,true,true,true,true,true,true,true,false,false,false,false] rfl rfl (by kernel_rfl) (by rfl) ?h10_7 ?ha10_7 ?r10_7
           case h10_7 =>
            rintro s hs_ d w' hd ⟨hB,hG,hr,hy,hgh⟩;refine ⟨w',?_,?_⟩
            ·go_simp
             try with_reducible rfl
            ·exact ⟨hB,hG,hr,hy,hgh⟩
           case ha10_7 =>
            simp only [Act.put,zK,zP,zQ,i64_w,i32_w];rfl
           case r10_7 =>
            refine lex_val (k:=11) (N:=some 17) (a':=?a11_7) (.slice A4 l4.length c4) #[true,true,true,true,true,true,true,true,true,true,true,true,false,false,false] rfl rfl (by kernel_rfl) (by rfl) ?h11_7 ?ha11_7 ?r11_7
            case h11_7 =>
             rintro s hs_ d w' hd ⟨hB,hG,hr,hy,hgh⟩;have qr_:=cells13 (hr.trans Br0.out);refine ⟨w',?_,?_⟩
             ·go_simp
              try with_reducible rfl
             ·exact ⟨hB,hG,hr,hy,hgh⟩
            case ha11_7 =>
             simp only [Act.put,zK,zP,zQ,i64_w,i32_w];rfl
            case r11_7 =>
             refine lex_ask (k:=12) (N:=some 18) 36 #[.slice A4 l4.length c4] (fun (T,c)=>.slice T l4.length c) #[true,true,true,true,true,true,true,true,true,true,true,true,true,false,false] rfl rfl (by kernel_rfl) (by rfl) ?h112_7 ?h12_7 ?r12_7
             case h112_7=>intro w';go_simp
             case h12_7 =>
              rintro d w' hd ⟨hB,hG,hr,hy,hgd,hgb⟩;refine (clone_On A4 c4 l4 _ (fun j=>S j ∧ w.heap.size + 3 ≤ j) (zL R4'.out hB) I4'.out (fun j hj=>⟨HS'.out j (by have:=hB.size;omega),by have:=GG.out;omega⟩) HL'.out).mono ?_;rintro e w2 ⟨T,c,rfl,q1,hx⟩;refine ⟨(T,c),rfl,hB.trans (hx.mono hB.size),zV hG hx.size,keep_ hr Br0.out hx,keep_ hy By0.out hx,⟨q1,?_⟩⟩;rw [show upd d 12 14 = d 14 from rfl,hgd];exact (keep_ hgb Bo0.out hx).trans (if_neg (by decide)).symm
             case r12_7 =>
              rintro ⟨T,c⟩;refine lex_norm (a':=?_) ?_ ?_;rotate_left
              ·show Act.put _ (some 18) _ = _;simp only [Act.put,zK,zP,zQ,i64_w,i32_w];rfl
              refine lex_val (k:=13) (N:=some 19) (a':=?a13_7) (.agg #[.int .i64 1,.int .u8 a0,.int .u8 a8,.int .u32 a7,.int .u8 a9,.int .u8 a1,.slice T l4.length c,.int .u32 0,.slice none 0 0,.int .u8 0,.bool false,.slice none 0 0]) #[true,true,true,true,true,true,true,true,true,true,true,true,true,true,false] rfl rfl (by kernel_rfl) (by rfl) ?h13_7 ?ha13_7 ?r13_7
              case h13_7 =>
               rintro s hs_ d w' hd ⟨hB,hG,hr,hy,hgh⟩;refine ⟨w',?_,?_⟩
               ·go_simp
                try with_reducible rfl
               ·exact ⟨hB,hG,hr,hy,hgh⟩
              case ha13_7 =>
               simp only [Act.put,zK,zP,zQ,i64_w,i32_w];rfl
              case r13_7 =>
               refine lex_skip (k:=14) (N:=none) (a':=?a14_7) #[true,true,true,true,true,true,true,true,true,true,true,true,true,true,true] rfl rfl (by kernel_rfl) (by rfl) ?h14_7 ?ha14_7 ?r14_7
               case h14_7 =>
                rintro s hs_ d w' hd ⟨hB,hG,hr,hy,hgh⟩;rcases hs_ with hs_ | rfl
                ·cases hs_
                obtain ⟨q1,hgb⟩:=hgh;have hb_:=(hgb.trans (if_neg (by simp [hd]))).trans Bo0.out;have f_:=frz13 hb_;have z_:=cells12 hb_;refine ⟨put_ w' (w.heap.size + 1) 0 [.int .i64 1,.int .u8 a0,.int .u8 a8,.int .u32 a7,.int .u8 a9,.int .u8 a1,.slice T l4.length c,.int .u32 0,.slice none 0 0,.int .u8 0,.bool false,.slice none 0 0],?_,?_⟩
                ·go_simp
                 try rfl
                ·exact ⟨put_below _ (by omega) _ _ _ hB,by rw [put_size];exact hG,(put_far _ _ (by omega) _ _ _).trans hr,(put_far _ _ (by omega) _ _ _).trans hy,⟨On.put flatK_Run _ (fun k hk=>by omega) _ _ _ q1,(own12_0_12 rfl hb_).trans (if_pos rfl).symm⟩⟩
               case ha14_7=>rfl
               case r14_7 =>
                refine lex_done (by kernel_rfl) ?_;rintro w1 ⟨_,hB,hG,hr,hy,hgh⟩;obtain ⟨q1,hgb⟩:=hgh;have Br1:=zA (hr.trans Br0.out);have Bo1:=zA (hgb.trans (if_pos rfl));have By1:=zA (hy.trans By0.out);have HB1:=zA hB;have HG1:=zA hG;clear hB hG hgb hr hy HB0 HG0 Br0 Bo0 By0;have Oq11:=zA q1;clear q1;go_wp2_with fail;refine bodyPost_ret (results_cell_row rfl _ _ (w.heap.size + 1) 30 #[.int .i64 1,.int .u8 a0,.int .u8 a8,.int .u32 a7,.int .u8 a9,.int .u8 a1,.slice T l4.length c,.int .u32 0,.slice none 0 0,.int .u8 0,.bool false,.slice none 0 0] (0,0) _ rfl Bo1.out Tryz.underlying30 rfl (by kernel_rfl)) rfl ?_;exact ⟨_,_,none,0,none,0,rfl,Oq11.out.mono (fun _ h=>h.1),.nil,.nil,HB1.out⟩
set_option maxRecDepth 100000 in
set_option maxHeartbeats 8000000 in
theorem Begin_right (k : Nat) (a0 a1 a2 a3 : Int) (l4 : List S67) (l5 : List S62) (a6 : Bool) (a7 a8 a9 a10 : Int) (l11 : List S67) (a12 : Int) (A4 A5 A11 : Option Addr) (c4 c5 c11 : Nat) (b : Int) (w : World) (r4 : Kd.C k67 w A4 l4.length l4) (i4 : l4.length ≤ c4) (r5 : Kd.C k62 w A5 l5.length l5) (i5 : l5.length ≤ c5) (r11 : Kd.C k67 w A11 l11.length l11) (i11 : l11.length ≤ c11) (hR : replica_Right.f k a0 a1 a2 a3 l4 l5 a6 a7 a8 a9 a10 l11 a12 = some false) : Calls Tryz.prog 14 #[.agg #[.int .u8 a0,.int .u8 a1,.int .u32 a2,.int .u32 a3,.slice A4 l4.length c4,.slice A5 l5.length c5,.bool a6,.int .u32 a7,.int .u8 a8,.int .u8 a9,.int .u32 a10,.slice A11 l11.length c11,.int .u32 a12],.int .u8 b] w fun e w'=>e = .returned (.tuple #[.agg #[.int .u8 0,.int .u8 0,.int .u32 0,.int .u32 0,.slice none 0 0,.slice none 0 0,.bool false,.int .u32 0,.int .u8 0,.int .u8 0,.int .u32 0,.slice none 0 0,.int .u32 0],.agg #[.int .i64 0,.int .u8 0,.int .u8 0,.int .u32 0,.int .u8 0,.int .u8 0,.slice none 0 0,.int .u32 0,.slice none 0 0,.int .u8 0,.bool false,.slice none 0 0],errW (some 9)]) ∧ Below w.heap.size w w':=by
 have huR:=Tryz.underlying28;have huN:=Tryz.underlying30;have huS:=Tryz.underlying26;have hu35:=Tryz.underlying35;have eN:=errW_none;have eS:=errW_some;have R4':=zA r4;have I4':=zA i4;have R5':=zA r5;have I5':=zA i5;have R11':=zA r11;have I11':=zA i11;clear r4 i4 r5 i5 r11 i11;have HR':=zA hR;clear hR;go_enter Tryz.func14,Tryz.ntmps14;go_wp2_with fail;generalize hW : World.alloc (World.alloc (World.alloc w _) _) _ = w0;have Br0:=zA (al3_0 hW);have Bo0:=zA (al3_1 hW);have Bn0:=zA (al3_2 hW);have HB0:=zA (al3B hW);clear hW;have GG:=zA (show w.heap.size + 3 ≤ w0.heap.size by have:=blk_lt Bn0.out;omega);have HG0:=zA (zM w0.heap.size);have r_:=cells13 Br0.out;go_wp2_with fail;refine (replica_Right.calls k a0 a1 a2 a3 _ _ l4 _ _ l5 a6 a7 a8 a9 a10 _ _ l11 a12 false _ (zL R4'.out HB0.out) I4'.out (zL R5'.out HB0.out) I5'.out (zL R11'.out HB0.out) I11'.out HR'.out).mono ?_;rintro ev w1 ⟨rfl,hx⟩;have Br1:=zA (zC Br0.out hx);have Bo1:=zA (zC Bo0.out hx);have Bn1:=zA (zC Bn0.out hx);have HB1:=zA (zG HB0.out hx);have HG1:=zA (zV HG0.out hx.size);clear r_;clear hx HB0 HG0 Br0 Bo0 Bn0;have r_:=cells13 Br1.out;have o_:=cells13 Bo1.out;have n_:=cells12 Bn1.out;go_wp2_with (first | ((with_reducible refine gate_store (t:=28) (p:=4) rfl ?_);refine store_event (t:=28) (p:=4) (v:=?vo7_) (w1:=put_ w1 (w.heap.size + 1) 0 [.int .u8 0,.int .u8 0,.int .u32 0,.int .u32 0,.slice none 0 0,.slice none 0 0,.bool false,.int .u32 0,.int .u8 0,.int .u8 0,.int .u32 0,.slice none 0 0,.int .u32 0]) ?hg ?ho ?hn ?hr ?_;(case ho=>rfl);(case hg=>rfl);(case hn=>rfl);(case hr=>have f_:=frz13 Bo1.out;go_simp;rfl);intro w2 hw;have Br2:=zA (far_ hw (by omega) Br1.out);have Bo2:=zA (own13_0_13 hw Bo1.out);have Bn2:=zA (far_ hw (by omega) Bn1.out);have HB2:=zA (bel_ hw (by omega) HB1.out);have HG2:=zA (siz_ hw HG1.out);clear hw HB1 HG1 Br1 Bo1 Bn1 r_ o_ n_;have r2_:=cells13 Br2.out;have o2_:=cells13 Bo2.out;have n2_:=cells12 Bn2.out) | ((with_reducible refine gate_store (t:=30) (p:=5) rfl ?_);refine store_event (t:=30) (p:=5) (v:=?vo8_) (w1:=put_ w2 (w.heap.size + 1 + 1) 0 [.int .i64 0,.int .u8 0,.int .u8 0,.int .u32 0,.int .u8 0,.int .u8 0,.slice none 0 0,.int .u32 0,.slice none 0 0,.int .u8 0,.bool false,.slice none 0 0]) ?hg ?ho ?hn ?hr ?_;(case ho=>rfl);(case hg=>rfl);(case hn=>rfl);(case hr=>have f_:=frz13 Bn2.out;go_simp;rfl);intro w3 hw;have Br3:=zA (far_ hw (by omega) Br2.out);have Bo3:=zA (far_ hw (by omega) Bo2.out);have Bn3:=zA (own12_0_12 hw Bn2.out);have HB3:=zA (bel_ hw (by omega) HB2.out);have HG3:=zA (siz_ hw HG2.out);clear hw HB2 HG2 Br2 Bo2 Bn2 r2_ o2_ n2_;have r3_:=cells13 Br3.out;have o3_:=cells13 Bo3.out;have n3_:=cells12 Bn3.out))
 refine bodyPost_ret (results_list (rs:=[.cell 4 28,.cell 5 30,.tmp 6]) rfl (by simp) (.cell (w.heap.size + 1) 28 #[.int .u8 0,.int .u8 0,.int .u32 0,.int .u32 0,.slice none 0 0,.slice none 0 0,.bool false,.int .u32 0,.int .u8 0,.int .u8 0,.int .u32 0,.slice none 0 0,.int .u32 0] (0,0) _ rfl Bo3.out Tryz.underlying28 rfl (by kernel_rfl) (.cell (w.heap.size + 1 + 1) 30 #[.int .i64 0,.int .u8 0,.int .u8 0,.int .u32 0,.int .u8 0,.int .u8 0,.slice none 0 0,.int .u32 0,.slice none 0 0,.int .u8 0,.bool false,.slice none 0 0] (0,0) _ rfl Bn3.out Tryz.underlying30 rfl (by kernel_rfl) (.tmp .nil)))) rfl ?_;exact ⟨by first | rfl | rw [eS],HB3.out⟩
set_option maxRecDepth 100000 in
set_option maxHeartbeats 8000000 in
theorem Begin_ok (k : Nat) (a0 a1 a2 a3 : Int) (l4 : List S67) (l5 : List S62) (a6 : Bool) (a7 a8 a9 a10 : Int) (l11 : List S67) (a12 : Int) (A4 A5 A11 : Option Addr) (c4 c5 c11 : Nat) (b : Int) (w : World) (r4 : Kd.C k67 w A4 l4.length l4) (i4 : l4.length ≤ c4) (r5 : Kd.C k62 w A5 l5.length l5) (i5 : l5.length ≤ c5) (r11 : Kd.C k67 w A11 l11.length l11) (i11 : l11.length ≤ c11) (S : Nat → Prop) (hS : ∀ j,w.heap.size ≤ j → S j) (hlen : l4.length ≤ 400000) (hR : replica_Right.f k a0 a1 a2 a3 l4 l5 a6 a7 a8 a9 a10 l11 a12 = some true) (hf : ¬ 8 ≤ b) (hs : ¬ b = a0) (hl : ¬ a12 = 4294967295) : Calls Tryz.prog 14 #[.agg #[.int .u8 a0,.int .u8 a1,.int .u32 a2,.int .u32 a3,.slice A4 l4.length c4,.slice A5 l5.length c5,.bool a6,.int .u32 a7,.int .u8 a8,.int .u8 a9,.int .u32 a10,.slice A11 l11.length c11,.int .u32 a12],.int .u8 b] w fun e w'=>∃ T c T1 c1 T2 c2,e = .returned (.tuple #[.agg #[.int .u8 a0,.int .u8 a1,.int .u32 a2,.int .u32 a3,.slice A4 l4.length c4,.slice A5 l5.length c5,.bool true,.int .u32 (IntKind.u32.wrap (a12 + 1)),.int .u8 b,.int .u8 0,.int .u32 0,.slice none 0 0,.int .u32 (IntKind.u32.wrap (a12 + 1))],.agg #[.int .i64 1,.int .u8 a0,.int .u8 b,.int .u32 (IntKind.u32.wrap (a12 + 1)),.int .u8 0,.int .u8 a1,.slice T l4.length c,.int .u32 0,.slice T1 0 c1,.int .u8 0,.bool false,.slice T2 0 c2],errW none]) ∧ On k67 w' S T c l4 ∧ On k62 w' S T1 c1 [] ∧ On k67 w' S T2 c2 [] ∧ Below w.heap.size w w':=by
 have HS':=zA hS;have HL':=zA hlen;clear hS hlen;have huR:=Tryz.underlying28;have huN:=Tryz.underlying30;have huS:=Tryz.underlying26;have hu35:=Tryz.underlying35;have eN:=errW_none;have eS:=errW_some;have R4':=zA r4;have I4':=zA i4;have R5':=zA r5;have I5':=zA i5;have R11':=zA r11;have I11':=zA i11;clear r4 i4 r5 i5 r11 i11;have HR':=zA hR;clear hR;have hf1 : decide (b ≥ 8) = false:=zF hf;have hf2 : decide (8 ≤ b) = false:=zF hf;clear hf;have hs1 : decide (b = a0) = false:=zF hs;have hs2 : (b == a0) = false:=by simp [hs]
 clear hs;have hl1 : decide (a12 = 4294967295) = false:=zF hl;have hl2 : (a12 == 4294967295) = false:=by simp [hl]
 clear hl;go_enter Tryz.func14,Tryz.ntmps14;go_wp2_with fail;generalize hW : World.alloc (World.alloc (World.alloc w _) _) _ = w0;have Br0:=zA (al3_0 hW);have Bo0:=zA (al3_1 hW);have Bn0:=zA (al3_2 hW);have HB0:=zA (al3B hW);clear hW;have GG:=zA (show w.heap.size + 3 ≤ w0.heap.size by have:=blk_lt Bn0.out;omega);have HG0:=zA (zM w0.heap.size);have r_:=cells13 Br0.out;go_wp2_with fail;refine (replica_Right.calls k a0 a1 a2 a3 _ _ l4 _ _ l5 a6 a7 a8 a9 a10 _ _ l11 a12 true _ (zL R4'.out HB0.out) I4'.out (zL R5'.out HB0.out) I5'.out (zL R11'.out HB0.out) I11'.out HR'.out).mono ?_;rintro ev w1 ⟨rfl,hx⟩;have Br1:=zA (zC Br0.out hx);have Bo1:=zA (zC Bo0.out hx);have Bn1:=zA (zC Bn0.out hx);have HB1:=zA (zG HB0.out hx);have HG1:=zA (zV HG0.out hx.size);clear r_;clear hx HB0 HG0 Br0 Bo0 Bn0;have r_:=cells13 Br1.out;have o_:=cells13 Bo1.out;have n_:=cells12 Bn1.out;go_wp2_with (first | ((with_reducible refine gate_store (t:=26) (p:=41) rfl ?_);refine store_event (t:=26) (p:=41) (v:=?vo15_) (w1:=put_ w1 w.heap.size 6 [.bool true,.int .u32 (IntKind.u32.wrap (a12 + 1)),.int .u8 b,.int .u8 0,.int .u32 0,.slice none 0 0,.int .u32 (IntKind.u32.wrap (a12 + 1))]) ?hg ?ho ?hn ?hr ?_;(case ho=>rfl);(case hg=>rfl);(case hn=>rfl);(case hr=>have f_:=frz13 Br1.out;go_simp;rfl);intro w2 hw;have Br2:=zA (own13_6_7 hw Br1.out);have Bo2:=zA (far_ hw (by omega) Bo1.out);have Bn2:=zA (far_ hw (by omega) Bn1.out);have HB2:=zA (bel_ hw (by omega) HB1.out);have HG2:=zA (siz_ hw HG1.out);clear hw HB1 HG1 Br1 Bo1 Bn1 r_ o_ n_;have r2_:=cells13 Br2.out;have o2_:=cells13 Bo2.out;have n2_:=cells12 Bn2.out))
 refine region_lex (fun (s : Option (Option Addr × Nat × Option Addr × Nat × Option Addr × Nat)) d w'=>Below w.heap.size w w' ∧ w0.heap.size ≤ w'.heap.size ∧ w'.heap[w.heap.size]? = w2.heap[w.heap.size]? ∧ w'.heap[w.heap.size + 1]? = (if d 3 = true then some (.cells #[.int .u8 a0,.int .u8 a1,.int .u32 a2,.int .u32 a3,.slice A4 l4.length c4,.slice A5 l5.length c5,.bool true,.int .u32 (IntKind.u32.wrap (a12 + 1)),.int .u8 b,.int .u8 0,.int .u32 0,.slice none 0 0,.int .u32 (IntKind.u32.wrap (a12 + 1))] 28 (0,0)) else w2.heap[w.heap.size + 1]?) ∧ (match s with | none=>(d 4 = false) ∧ w'.heap[w.heap.size + 1 + 1]? = w2.heap[w.heap.size + 1 + 1]? | some (T,c,T1,c1,T2,c2)=>(On k67 w' (fun j=>S j ∧ w.heap.size + 3 ≤ j) T c l4 ∧ On k62 w' (fun j=>S j ∧ w.heap.size + 3 ≤ j) T1 c1 [] ∧ On k67 w' (fun j=>S j ∧ w.heap.size + 3 ≤ j) T2 c2 []) ∧ w'.heap[w.heap.size + 1 + 1]? = (if d 4 = true then some (.cells #[.int .i64 1,.int .u8 a0,.int .u8 b,.int .u32 (IntKind.u32.wrap (a12 + 1)),.int .u8 0,.int .u8 a1,.slice T l4.length c,.int .u32 0,.slice T1 0 c1,.int .u8 0,.bool false,.slice T2 0 c2] 30 (0,0)) else w2.heap[w.heap.size + 1 + 1]?))) 6 #[false,false,false,false,false,false] (by kernel_rfl) rfl rfl ?_ ?_
 ·exact ⟨pw_below_drewN HB2.out 1,HG2.out,rfl,rfl,⟨rfl,rfl⟩⟩
 clear r2_ o2_ n2_;refine lex_val (k:=0) (N:=some 42) (a':=?a0_16) (.agg #[.int .u8 a0,.int .u8 a1,.int .u32 a2,.int .u32 a3,.slice A4 l4.length c4,.slice A5 l5.length c5,.bool true,.int .u32 (IntKind.u32.wrap (a12 + 1)),.int .u8 b,.int .u8 0,.int .u32 0,.slice none 0 0,.int .u32 (IntKind.u32.wrap (a12 + 1))]) #[true,false,false,false,false,false] rfl rfl (by kernel_rfl) (by rfl) ?h0_16 ?ha0_16 ?r0_16
 case h0_16 =>
  rintro s hs_ d w' hd ⟨hB,hG,hr,ho,hgh⟩;have qr_:=cells13 (hr.trans Br2.out);refine ⟨w',?_,?_⟩
  ·go_simp
   try with_reducible rfl
  ·exact ⟨hB,hG,hr,ho,hgh⟩
 case ha0_16 =>
  simp only [Act.put,zK,zP,zQ,i64_w,i32_w];rfl
 case r0_16 =>
  refine lex_val (k:=1) (N:=some 43) (a':=?a1_16) (.agg #[.int .u8 a0,.int .u8 a1,.int .u32 a2,.int .u32 a3,.slice A4 l4.length c4,.slice A5 l5.length c5,.bool true,.int .u32 (IntKind.u32.wrap (a12 + 1)),.int .u8 b,.int .u8 0,.int .u32 0,.slice none 0 0,.int .u32 (IntKind.u32.wrap (a12 + 1))]) #[true,true,false,false,false,false] rfl rfl (by kernel_rfl) (by rfl) ?h1_16 ?ha1_16 ?r1_16
  case h1_16 =>
   rintro s hs_ d w' hd ⟨hB,hG,hr,ho,hgh⟩;have qr_:=cells13 (hr.trans Br2.out);refine ⟨w',?_,?_⟩
   ·go_simp
    try with_reducible rfl
   ·exact ⟨hB,hG,hr,ho,hgh⟩
  case ha1_16 =>
   simp only [Act.put,zK,zP,zQ,i64_w,i32_w];rfl
  case r1_16 =>
   refine lex_ask (k:=2) (N:=some 44) 39 #[.agg #[.int .u8 a0,.int .u8 a1,.int .u32 a2,.int .u32 a3,.slice A4 l4.length c4,.slice A5 l5.length c5,.bool true,.int .u32 (IntKind.u32.wrap (a12 + 1)),.int .u8 b,.int .u8 0,.int .u32 0,.slice none 0 0,.int .u32 (IntKind.u32.wrap (a12 + 1))]] (fun (T,c,T1,c1,T2,c2)=>.agg #[.int .i64 1,.int .u8 a0,.int .u8 b,.int .u32 (IntKind.u32.wrap (a12 + 1)),.int .u8 0,.int .u8 a1,.slice T l4.length c,.int .u32 0,.slice T1 0 c1,.int .u8 0,.bool false,.slice T2 0 c2]) #[true,true,true,false,false,false] rfl rfl (by kernel_rfl) (by rfl) ?h12_16 ?h2_16 ?r2_16
   case h12_16=>intro w';go_simp
   case h2_16 =>
    rintro d w' hd ⟨hB,hG,hr,ho,hgd,hgb⟩;refine (pull_On a0 a1 a2 a3 l4 l5 true (IntKind.u32.wrap (a12 + 1)) b 0 0 [] (IntKind.u32.wrap (a12 + 1)) A4 A5 none c4 c5 0 _ (fun j=>S j ∧ w.heap.size + 3 ≤ j) (zL R4'.out hB) I4'.out (zL R5'.out hB) I5'.out (On.nil (S:=fun _=>True)).row (zM _) (fun j hj=>⟨HS'.out j (by have:=hB.size;omega),by have:=GG.out;omega⟩) HL'.out).mono ?_;rintro e w2 ⟨T,c,T1,c1,T2,c2,rfl,q1,q2,q3,hx⟩;refine ⟨(T,c,T1,c1,T2,c2),rfl,hB.trans (hx.mono hB.size),zV hG hx.size,keep_ hr Br2.out hx,keepi_ ho Bo2.out hx,⟨⟨q1,q2,q3⟩,?_⟩⟩;rw [show upd d 2 4 = d 4 from rfl,hgd];exact (keep_ hgb Bn2.out hx).trans (if_neg (by decide)).symm
   case r2_16 =>
    rintro ⟨T,c,T1,c1,T2,c2⟩;refine lex_norm (a':=?_) ?_ ?_;rotate_left
    ·show Act.put _ (some 44) _ = _;simp only [Act.put,zK,zP,zQ,i64_w,i32_w];rfl
    refine lex_skip (k:=3) (N:=none) (a':=?a3_16) #[true,true,true,true,false,false] rfl rfl (by kernel_rfl) (by rfl) ?h3_16 ?ha3_16 ?r3_16
    case h3_16 =>
     rintro s hs_ d w' hd ⟨hB,hG,hr,ho,hgh⟩;rcases hs_ with hs_ | rfl
     ·cases hs_
     obtain ⟨⟨q1,q2,q3⟩,hgb⟩:=hgh;have hb_:=(ho.trans (if_neg (by simp [hd]))).trans Bo2.out;have f_:=frz13 hb_;have z_:=cells13 hb_;refine ⟨put_ w' (w.heap.size + 1) 0 [.int .u8 a0,.int .u8 a1,.int .u32 a2,.int .u32 a3,.slice A4 l4.length c4,.slice A5 l5.length c5,.bool true,.int .u32 (IntKind.u32.wrap (a12 + 1)),.int .u8 b,.int .u8 0,.int .u32 0,.slice none 0 0,.int .u32 (IntKind.u32.wrap (a12 + 1))],?_,?_⟩
     ·go_simp
      try rfl
     ·exact ⟨put_below _ (by omega) _ _ _ hB,by rw [put_size];exact hG,(put_far _ _ (by omega) _ _ _).trans hr,(own13_0_13 rfl hb_).trans (if_pos rfl).symm,⟨⟨On.put flatK_Run _ (fun k hk=>by omega) _ _ _ q1,On.put flatK_Entry _ (fun k hk=>by omega) _ _ _ q2,On.put flatK_Run _ (fun k hk=>by omega) _ _ _ q3⟩,(put_far _ _ (by omega) _ _ _).trans hgb⟩⟩
    case ha3_16=>rfl
    case r3_16 =>
     refine lex_skip (k:=4) (N:=none) (a':=?a4_16) #[true,true,true,true,true,false] rfl rfl (by kernel_rfl) (by rfl) ?h4_16 ?ha4_16 ?r4_16
     case h4_16 =>
      rintro s hs_ d w' hd ⟨hB,hG,hr,ho,hgh⟩;rcases hs_ with hs_ | rfl
      ·cases hs_
      obtain ⟨⟨q1,q2,q3⟩,hgb⟩:=hgh;have hb_:=(hgb.trans (if_neg (by simp [hd]))).trans Bn2.out;have f_:=frz13 hb_;have z_:=cells12 hb_;refine ⟨put_ w' (w.heap.size + 1 + 1) 0 [.int .i64 1,.int .u8 a0,.int .u8 b,.int .u32 (IntKind.u32.wrap (a12 + 1)),.int .u8 0,.int .u8 a1,.slice T l4.length c,.int .u32 0,.slice T1 0 c1,.int .u8 0,.bool false,.slice T2 0 c2],?_,?_⟩
      ·go_simp
       try rfl
      ·exact ⟨put_below _ (by omega) _ _ _ hB,by rw [put_size];exact hG,(put_far _ _ (by omega) _ _ _).trans hr,(put_far _ _ (by omega) _ _ _).trans ho,⟨⟨On.put flatK_Run _ (fun k hk=>by omega) _ _ _ q1,On.put flatK_Entry _ (fun k hk=>by omega) _ _ _ q2,On.put flatK_Run _ (fun k hk=>by omega) _ _ _ q3⟩,(own12_0_12 rfl hb_).trans (if_pos rfl).symm⟩⟩
     case ha4_16=>rfl
     case r4_16 =>
      refine lex_val (k:=5) (N:=some 6) (a':=?a5_16) (Value.nilIface) #[true,true,true,true,true,true] rfl rfl (by kernel_rfl) (by rfl) ?h5_16 ?ha5_16 ?r5_16
      case h5_16 =>
       rintro s hs_ d w' hd ⟨hB,hG,hr,ho,hgh⟩;refine ⟨w',?_,?_⟩
       ·go_simp
        try with_reducible rfl
       ·exact ⟨hB,hG,hr,ho,hgh⟩
      case ha5_16 =>
       simp only [Act.put,zK,zP,zQ,i64_w,i32_w];rfl
      case r5_16 =>
       refine lex_done (by kernel_rfl) ?_;rintro w3 ⟨_,hB,hG,hr,ho,hgh⟩;obtain ⟨⟨q1,q2,q3⟩,hgb⟩:=hgh;have Br3:=zA (hr.trans Br2.out);have Bo3:=zA (ho.trans (if_pos rfl));have Bn3:=zA (hgb.trans (if_pos rfl));have HB3:=zA hB;have HG3:=zA hG;clear hB hG hgb hr ho HB2 HG2 Br2 Bo2 Bn2;have Oq13:=zA q1;clear q1;have Oq23:=zA q2;clear q2;have Oq33:=zA q3;clear q3;go_wp2_with fail;refine bodyPost_ret (results_list (rs:=[.cell 4 28,.cell 5 30,.tmp 6]) rfl (by simp) (.cell (w.heap.size + 1) 28 #[.int .u8 a0,.int .u8 a1,.int .u32 a2,.int .u32 a3,.slice A4 l4.length c4,.slice A5 l5.length c5,.bool true,.int .u32 (IntKind.u32.wrap (a12 + 1)),.int .u8 b,.int .u8 0,.int .u32 0,.slice none 0 0,.int .u32 (IntKind.u32.wrap (a12 + 1))] (0,0) _ rfl Bo3.out Tryz.underlying28 rfl (by kernel_rfl) (.cell (w.heap.size + 1 + 1) 30 #[.int .i64 1,.int .u8 a0,.int .u8 b,.int .u32 (IntKind.u32.wrap (a12 + 1)),.int .u8 0,.int .u8 a1,.slice T l4.length c,.int .u32 0,.slice T1 0 c1,.int .u8 0,.bool false,.slice T2 0 c2] (0,0) _ rfl Bn3.out Tryz.underlying30 rfl (by kernel_rfl) (.tmp .nil)))) rfl ?_;exact ⟨_,_,_,_,_,_,by first | rfl | rw [eN],Oq13.out.mono (fun _ h=>h.1),Oq23.out.mono (fun _ h=>h.1),Oq33.out.mono (fun _ h=>h.1),HB3.out⟩
end Go.Proofs.YtiminjibcafkaaaGreatDoor.X
end
