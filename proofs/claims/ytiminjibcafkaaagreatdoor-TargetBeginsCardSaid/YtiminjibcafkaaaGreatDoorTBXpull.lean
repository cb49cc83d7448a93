/- target.pull; target.Again, both ways. -/
import Derived.Test.YtiminjibcafkaaaGreatDoorTBJ13
import Derived.Test.YtiminjibcafkaaaGreatDoorTBX12
import Derived.Test.YtiminjibcafkaaaGreatDoorTBJ7
import Derived.Test.YtiminjibcafkaaaGreatDoorTBJ8
namespace Go.Proofs.YtiminjibcafkaaaGreatDoor.X
open Go.RowKit Go.Proofs.YtiminjibcafkaaaGreatDoorW.PrintWords Go.Proofs.YtiminjibcafkaaaGreatDoorW.PrintLast Go.Proofs.YtiminjibcafkaaaGreatDoorW.PrintMore
set_option linter.unusedVariables false
set_option linter.unusedSimpArgs false
theorem none_C {α : Type} (d : Kd α) (w : World) : Kd.C d w none 0 []:=⟨rfl,by decide,fun h=>absurd h (by decide)⟩
theorem clone_On (A : Option Addr) (c : Nat) (l : List S67) (w : World) (S : Nat → Prop) (h : Kd.C k67 w A l.length l) (hc : l.length ≤ c) (hS : ∀ j,w.heap.size ≤ j → S j) (hl : l.length ≤ 400000) :
 Calls Tryz.prog 36 #[.slice A l.length c] w fun e w'=>∃ T d,e = .returned (.slice T l.length d) ∧ On k67 w' S T d l ∧ Below w.heap.size w w':=by
 refine (slices_Clone_Run.calls A c l l w h hc (by unfold slices_Clone_Run.f;rw [if_pos (by omega)])).mono ?_
 rintro e w' ⟨v,rfl,hR,hx⟩
 obtain ⟨T,d,rfl⟩:=Kd.R_slice hR
 exact ⟨T,d,rfl,.of_R hR (fun k _ h=>hS k h),hx⟩
set_option maxRecDepth 100000 in
set_option maxHeartbeats 8000000 in
theorem pull_On (a0 a1 a2 a3 : Int) (l4 : List S67) (l5 : List S62) (a6 : Bool) (a7 a8 a9 a10 : Int) (l11 : List S67) (a12 : Int) (A4 A5 A11 : Option Addr) (c4 c5 c11 : Nat) (w : World) (S : Nat → Prop) (r4 : Kd.C k67 w A4 l4.length l4) (i4 : l4.length ≤ c4) (r5 : Kd.C k62 w A5 l5.length l5) (i5 : l5.length ≤ c5) (r11 : Kd.C k67 w A11 l11.length l11) (i11 : l11.length ≤ c11) (hS : ∀ j,w.heap.size ≤ j → S j) (hl : l4.length ≤ 400000) :
 Calls Tryz.prog 39 #[.agg #[.int .u8 a0,.int .u8 a1,.int .u32 a2,.int .u32 a3,.slice A4 l4.length c4,.slice A5 l5.length c5,.bool a6,.int .u32 a7,.int .u8 a8,.int .u8 a9,.int .u32 a10,.slice A11 l11.length c11,.int .u32 a12]] w fun e w'=>∃ T c T1 c1 T2 c2,e = .returned (.agg #[.int .i64 1,.int .u8 a0,.int .u8 a8,.int .u32 a7,.int .u8 a9,.int .u8 a1,.slice T l4.length c,.int .u32 0,.slice T1 0 c1,.int .u8 0,.bool false,.slice T2 0 c2]) ∧ On k67 w' S T c l4 ∧ On k62 w' S T1 c1 [] ∧ On k67 w' S T2 c2 [] ∧ Below w.heap.size w w':=by
 have huR:=Tryz.underlying28
 have huN:=Tryz.underlying30
 have huS:=Tryz.underlying26
 have R4':=Aside0.mk r4
 have I4':=Aside0.mk i4
 have HS':=Aside0.mk hS
 have HL':=Aside0.mk hl
 clear r4 i4 r5 i5 r11 i11 hS hl
 go_enter Tryz.func39,Tryz.ntmps39
 go_wp2_with fail
 generalize hW : World.alloc (World.alloc (World.alloc w _) _) _ = w0
 have Br0:=Aside0.mk (al3_0 hW)
 have Bo0:=Aside0.mk (al3_1 hW)
 have By0:=Aside0.mk (al3_2 hW)
 have HB0:=Aside0.mk (al3B hW)
 clear hW
 have GG:=Aside0.mk (show w.heap.size + 3 ≤ w0.heap.size by have:=blk_lt By0.out;omega)
 have HG0:=Aside0.mk (Nat.le_refl w0.heap.size)
 refine region_lex (fun (s : Option (Option Addr × Nat)) d w'=>Below w.heap.size w w' ∧ w0.heap.size ≤ w'.heap.size ∧ w'.heap[w.heap.size]? = w0.heap[w.heap.size]? ∧ w'.heap[w.heap.size + 1 + 1]? = w0.heap[w.heap.size + 1 + 1]? ∧ (match s with | none=>(d 14 = false) ∧ w'.heap[w.heap.size + 1]? = w0.heap[w.heap.size + 1]? | some (T,c)=>(On k67 w' (fun j=>S j ∧ w.heap.size + 3 ≤ j) T c l4) ∧ w'.heap[w.heap.size + 1]? = (if d 14 = true then some (.cells #[.int .i64 1,.int .u8 a0,.int .u8 a8,.int .u32 a7,.int .u8 a9,.int .u8 a1,.slice T l4.length c,.int .u32 0,.slice none 0 0,.int .u8 0,.bool false,.slice none 0 0] 30 (0,0)) else w0.heap[w.heap.size + 1]?))) 15 #[false,false,false,false,false,false,false,false,false,false,false,false,false,false,false] (by kernel_rfl) rfl rfl ?_ ?_
 ·exact ⟨pw_below_drewN HB0.out 1,HG0.out,rfl,rfl,⟨rfl,rfl⟩⟩
 refine lex_val (k:=0) (N:=some 6) (a':=?a0_7) (.pointer (some ⟨w.heap.size,0,none⟩)) #[true,false,false,false,false,false,false,false,false,false,false,false,false,false,false] rfl rfl (by kernel_rfl) (by rfl) ?h0_7 ?ha0_7 ?r0_7
 case h0_7 =>
  rintro s hs_ d w' hd ⟨hB,hG,hr,hy,hgh⟩
  refine ⟨w',?_,?_⟩
  ·go_simp
   try with_reducible rfl
  ·exact ⟨hB,hG,hr,hy,hgh⟩
 case ha0_7 =>
  simp only [Act.put,List.setIfInBounds_toArray,List.set_cons_zero,List.set_cons_succ,i64_w,i32_w]
  rfl
 case r0_7 =>
  refine lex_val (k:=1) (N:=some 7) (a':=?a1_7) (.int .u8 a0) #[true,true,false,false,false,false,false,false,false,false,false,false,false,false,false] rfl rfl (by kernel_rfl) (by rfl) ?h1_7 ?ha1_7 ?r1_7
  case h1_7 =>
   rintro s hs_ d w' hd ⟨hB,hG,hr,hy,hgh⟩
   obtain ⟨qr0,qr1,qr2,qr3,qr4,qr5,qr6,qr7,qr8,qr9,qr10,qr11,qr12⟩:=cells13 (hr.trans Br0.out)
   refine ⟨w',?_,?_⟩
   ·go_simp
    try with_reducible rfl
   ·exact ⟨hB,hG,hr,hy,hgh⟩
  case ha1_7 =>
   simp only [Act.put,List.setIfInBounds_toArray,List.set_cons_zero,List.set_cons_succ,i64_w,i32_w]
   rfl
  case r1_7 =>
   refine lex_val (k:=2) (N:=some 8) (a':=?a2_7) (.pointer (some ⟨w.heap.size + 1 + 1,2,none⟩)) #[true,true,true,false,false,false,false,false,false,false,false,false,false,false,false] rfl rfl (by kernel_rfl) (by rfl) ?h2_7 ?ha2_7 ?r2_7
   case h2_7 =>
    rintro s hs_ d w' hd ⟨hB,hG,hr,hy,hgh⟩
    refine ⟨w',?_,?_⟩
    ·go_simp
     try with_reducible rfl
    ·exact ⟨hB,hG,hr,hy,hgh⟩
   case ha2_7 =>
    simp only [Act.put,List.setIfInBounds_toArray,List.set_cons_zero,List.set_cons_succ,i64_w,i32_w]
    rfl
   case r2_7 =>
    refine lex_val (k:=3) (N:=some 9) (a':=?a3_7) (.int .u8 a8) #[true,true,true,true,false,false,false,false,false,false,false,false,false,false,false] rfl rfl (by kernel_rfl) (by rfl) ?h3_7 ?ha3_7 ?r3_7
    case h3_7 =>
     rintro s hs_ d w' hd ⟨hB,hG,hr,hy,hgh⟩
     obtain ⟨qy0,qy1,qy2,qy3,qy4,qy5,qy6⟩:=cells7 (hy.trans By0.out)
     refine ⟨w',?_,?_⟩
     ·go_simp
      try with_reducible rfl
     ·exact ⟨hB,hG,hr,hy,hgh⟩
    case ha3_7 =>
     simp only [Act.put,List.setIfInBounds_toArray,List.set_cons_zero,List.set_cons_succ,i64_w,i32_w]
     rfl
    case r3_7 =>
     refine lex_val (k:=4) (N:=some 10) (a':=?a4_7) (.pointer (some ⟨w.heap.size + 1 + 1,1,none⟩)) #[true,true,true,true,true,false,false,false,false,false,false,false,false,false,false] rfl rfl (by kernel_rfl) (by rfl) ?h4_7 ?ha4_7 ?r4_7
     case h4_7 =>
      rintro s hs_ d w' hd ⟨hB,hG,hr,hy,hgh⟩
      refine ⟨w',?_,?_⟩
      ·go_simp
       try with_reducible rfl
      ·exact ⟨hB,hG,hr,hy,hgh⟩
     case ha4_7 =>
      simp only [Act.put,List.setIfInBounds_toArray,List.set_cons_zero,List.set_cons_succ,i64_w,i32_w]
      rfl
     case r4_7 =>
      refine lex_val (k:=5) (N:=some 11) (a':=?a5_7) (.int .u32 a7) #[true,true,true,true,true,true,false,false,false,false,false,false,false,false,false] rfl rfl (by kernel_rfl) (by rfl) ?h5_7 ?ha5_7 ?r5_7
      case h5_7 =>
       rintro s hs_ d w' hd ⟨hB,hG,hr,hy,hgh⟩
       obtain ⟨qy0,qy1,qy2,qy3,qy4,qy5,qy6⟩:=cells7 (hy.trans By0.out)
       refine ⟨w',?_,?_⟩
       ·go_simp
        try with_reducible rfl
       ·exact ⟨hB,hG,hr,hy,hgh⟩
      case ha5_7 =>
       simp only [Act.put,List.setIfInBounds_toArray,List.set_cons_zero,List.set_cons_succ,i64_w,i32_w]
       rfl
      case r5_7 =>
       refine lex_val (k:=6) (N:=some 12) (a':=?a6_7) (.pointer (some ⟨w.heap.size + 1 + 1,3,none⟩)) #[true,true,true,true,true,true,true,false,false,false,false,false,false,false,false] rfl rfl (by kernel_rfl) (by rfl) ?h6_7 ?ha6_7 ?r6_7
       case h6_7 =>
        rintro s hs_ d w' hd ⟨hB,hG,hr,hy,hgh⟩
        refine ⟨w',?_,?_⟩
        ·go_simp
         try with_reducible rfl
        ·exact ⟨hB,hG,hr,hy,hgh⟩
       case ha6_7 =>
        simp only [Act.put,List.setIfInBounds_toArray,List.set_cons_zero,List.set_cons_succ,i64_w,i32_w]
        rfl
       case r6_7 =>
        refine lex_val (k:=7) (N:=some 13) (a':=?a7_7) (.int .u8 a9) #[true,true,true,true,true,true,true,true,false,false,false,false,false,false,false] rfl rfl (by kernel_rfl) (by rfl) ?h7_7 ?ha7_7 ?r7_7
        case h7_7 =>
         rintro s hs_ d w' hd ⟨hB,hG,hr,hy,hgh⟩
         obtain ⟨qy0,qy1,qy2,qy3,qy4,qy5,qy6⟩:=cells7 (hy.trans By0.out)
         refine ⟨w',?_,?_⟩
         ·go_simp
          try with_reducible rfl
         ·exact ⟨hB,hG,hr,hy,hgh⟩
        case ha7_7 =>
         simp only [Act.put,List.setIfInBounds_toArray,List.set_cons_zero,List.set_cons_succ,i64_w,i32_w]
         rfl
        case r7_7 =>
         refine lex_val (k:=8) (N:=some 14) (a':=?a8_7) (.pointer (some ⟨w.heap.size,1,none⟩)) #[true,true,true,true,true,true,true,true,true,false,false,false,false,false,false] rfl rfl (by kernel_rfl) (by rfl) ?h8_7 ?ha8_7 ?r8_7
         case h8_7 =>
          rintro s hs_ d w' hd ⟨hB,hG,hr,hy,hgh⟩
          refine ⟨w',?_,?_⟩
          ·go_simp
           try with_reducible rfl
          ·exact ⟨hB,hG,hr,hy,hgh⟩
         case ha8_7 =>
          simp only [Act.put,List.setIfInBounds_toArray,List.set_cons_zero,List.set_cons_succ,i64_w,i32_w]
          rfl
         case r8_7 =>
          refine lex_val (k:=9) (N:=some 15) (a':=?a9_7) (.int .u8 a1) #[true,true,true,true,true,true,true,true,true,true,false,false,false,false,false] rfl rfl (by kernel_rfl) (by rfl) ?h9_7 ?ha9_7 ?r9_7
          case h9_7 =>
           rintro s hs_ d w' hd ⟨hB,hG,hr,hy,hgh⟩
           obtain ⟨qr0,qr1,qr2,qr3,qr4,qr5,qr6,qr7,qr8,qr9,qr10,qr11,qr12⟩:=cells13 (hr.trans Br0.out)
           refine ⟨w',?_,?_⟩
           ·go_simp
            try with_reducible rfl
           ·exact ⟨hB,hG,hr,hy,hgh⟩
          case ha9_7 =>
           simp only [Act.put,List.setIfInBounds_toArray,List.set_cons_zero,List.set_cons_succ,i64_w,i32_w]
           rfl
          case r9_7 =>
           refine lex_val (k:=10) (N:=some 16) (a':=?a10_7) (.pointer (some ⟨w.heap.size,4,none⟩)) #[true,true,true,true,true,true,true,true,true,true,true,false,false,false,false] rfl rfl (by kernel_rfl) (by rfl) ?h10_7 ?ha10_7 ?r10_7
           case h10_7 =>
            rintro s hs_ d w' hd ⟨hB,hG,hr,hy,hgh⟩
            refine ⟨w',?_,?_⟩
            ·go_simp
             try with_reducible rfl
            ·exact ⟨hB,hG,hr,hy,hgh⟩
           case ha10_7 =>
            simp only [Act.put,List.setIfInBounds_toArray,List.set_cons_zero,List.set_cons_succ,i64_w,i32_w]
            rfl
           case r10_7 =>
            refine lex_val (k:=11) (N:=some 17) (a':=?a11_7) (.slice A4 l4.length c4) #[true,true,true,true,true,true,true,true,true,true,true,true,false,false,false] rfl rfl (by kernel_rfl) (by rfl) ?h11_7 ?ha11_7 ?r11_7
            case h11_7 =>
             rintro s hs_ d w' hd ⟨hB,hG,hr,hy,hgh⟩
             obtain ⟨qr0,qr1,qr2,qr3,qr4,qr5,qr6,qr7,qr8,qr9,qr10,qr11,qr12⟩:=cells13 (hr.trans Br0.out)
             refine ⟨w',?_,?_⟩
             ·go_simp
              try with_reducible rfl
             ·exact ⟨hB,hG,hr,hy,hgh⟩
            case ha11_7 =>
             simp only [Act.put,List.setIfInBounds_toArray,List.set_cons_zero,List.set_cons_succ,i64_w,i32_w]
             rfl
            case r11_7 =>
             refine lex_ask (k:=12) (N:=some 18) 36 #[.slice A4 l4.length c4] (fun (T,c)=>.slice T l4.length c) #[true,true,true,true,true,true,true,true,true,true,true,true,true,false,false] rfl rfl (by kernel_rfl) (by rfl) ?h112_7 ?h12_7 ?r12_7
             case h112_7=>intro w';go_simp
             case h12_7 =>
              rintro d w' hd ⟨hB,hG,hr,hy,hgd,hgb⟩
              refine (clone_On A4 c4 l4 _ (fun j=>S j ∧ w.heap.size + 3 ≤ j) (Kd.C_below R4'.out hB) I4'.out (fun j hj=>⟨HS'.out j (by have:=hB.size;omega),by have:=GG.out;omega⟩) HL'.out).mono ?_
              rintro e w2 ⟨T,c,rfl,q1,hx⟩
              refine ⟨(T,c),rfl,hB.trans (hx.mono hB.size),Nat.le_trans hG hx.size,keep_ hr Br0.out hx,keep_ hy By0.out hx,⟨q1,?_⟩⟩
              rw [show upd d 12 14 = d 14 from rfl,hgd]
              exact (keep_ hgb Bo0.out hx).trans (if_neg (by decide)).symm
             case r12_7 =>
              rintro ⟨T,c⟩
              refine lex_norm (a':=?_) ?_ ?_
              rotate_left
              ·show Act.put _ (some 18) _ = _
               simp only [Act.put,List.setIfInBounds_toArray,List.set_cons_zero,List.set_cons_succ,i64_w,i32_w]
               rfl
              refine lex_val (k:=13) (N:=some 19) (a':=?a13_7) (.agg #[.int .i64 1,.int .u8 a0,.int .u8 a8,.int .u32 a7,.int .u8 a9,.int .u8 a1,.slice T l4.length c,.int .u32 0,.slice none 0 0,.int .u8 0,.bool false,.slice none 0 0]) #[true,true,true,true,true,true,true,true,true,true,true,true,true,true,false] rfl rfl (by kernel_rfl) (by rfl) ?h13_7 ?ha13_7 ?r13_7
              case h13_7 =>
               rintro s hs_ d w' hd ⟨hB,hG,hr,hy,hgh⟩
               refine ⟨w',?_,?_⟩
               ·go_simp
                try with_reducible rfl
               ·exact ⟨hB,hG,hr,hy,hgh⟩
              case ha13_7 =>
               simp only [Act.put,List.setIfInBounds_toArray,List.set_cons_zero,List.set_cons_succ,i64_w,i32_w]
               rfl
              case r13_7 =>
               refine lex_skip (k:=14) (N:=none) (a':=?a14_7) #[true,true,true,true,true,true,true,true,true,true,true,true,true,true,true] rfl rfl (by kernel_rfl) (by rfl) ?h14_7 ?ha14_7 ?r14_7
               case h14_7 =>
                rintro s hs_ d w' hd ⟨hB,hG,hr,hy,hgh⟩
                rcases hs_ with hs_ | rfl
                ·cases hs_
                obtain ⟨q1,hgb⟩:=hgh
                have hb_:=(hgb.trans (if_neg (by simp [hd]))).trans Bo0.out
                obtain ⟨_,_,_,_,_,_,_,_,_,_,_,_,_⟩:=frz13 hb_
                obtain ⟨z0,z1,z2,z3,z4,z5,z6,z7,z8,z9,z10,z11⟩:=cells12 hb_
                refine ⟨put_ w' (w.heap.size + 1) 0 [.int .i64 1,.int .u8 a0,.int .u8 a8,.int .u32 a7,.int .u8 a9,.int .u8 a1,.slice T l4.length c,.int .u32 0,.slice none 0 0,.int .u8 0,.bool false,.slice none 0 0],?_,?_⟩
                ·go_simp
                 try rfl
                ·exact ⟨put_below _ (by omega) _ _ _ hB,by rw [put_size];exact hG,(put_far _ _ (by omega) _ _ _).trans hr,(put_far _ _ (by omega) _ _ _).trans hy,⟨On.put flatK_Run _ (fun k hk=>by omega) _ _ _ q1,(own12_0_12 rfl hb_).trans (if_pos rfl).symm⟩⟩
               case ha14_7=>rfl
               case r14_7 =>
                refine lex_done (by kernel_rfl) ?_
                rintro w1 ⟨_,hB,hG,hr,hy,hgh⟩
                obtain ⟨q1,hgb⟩:=hgh
                have Br1:=Aside0.mk (hr.trans Br0.out)
                have Bo1:=Aside0.mk (hgb.trans (if_pos rfl))
                have By1:=Aside0.mk (hy.trans By0.out)
                have HB1:=Aside0.mk hB
                have HG1:=Aside0.mk hG
                clear hB hG hgb hr hy HB0 HG0 Br0 Bo0 By0
                have Oq11:=Aside0.mk q1
                clear q1
                go_wp2_with fail
                refine bodyPost_ret (results_cell_row rfl _ _ (w.heap.size + 1) 30 #[.int .i64 1,.int .u8 a0,.int .u8 a8,.int .u32 a7,.int .u8 a9,.int .u8 a1,.slice T l4.length c,.int .u32 0,.slice none 0 0,.int .u8 0,.bool false,.slice none 0 0] (0,0) _ rfl Bo1.out Tryz.underlying30 rfl (by kernel_rfl)) rfl ?_
                exact ⟨_,_,none,0,none,0,rfl,Oq11.out.mono (fun _ h=>h.1),.nil,.nil,HB1.out⟩
set_option maxRecDepth 100000 in
set_option maxHeartbeats 8000000 in
theorem Again_ok (k : Nat) (a0 a1 a2 a3 : Int) (l4 : List S67) (l5 : List S62) (a6 : Bool) (a7 a8 a9 a10 : Int) (l11 : List S67) (a12 : Int) (A4 A5 A11 : Option Addr) (c4 c5 c11 : Nat) (w : World) (r4 : Kd.C k67 w A4 l4.length l4) (i4 : l4.length ≤ c4) (r5 : Kd.C k62 w A5 l5.length l5) (i5 : l5.length ≤ c5) (r11 : Kd.C k67 w A11 l11.length l11) (i11 : l11.length ≤ c11)  (hon : target_on.f k a0 a1 a2 a3 l4 l5 a6 a7 a8 a9 a10 l11 a12 = some none) (hlen : l4.length ≤ 400000) : Calls Tryz.prog 18 #[.agg #[.int .u8 a0,.int .u8 a1,.int .u32 a2,.int .u32 a3,.slice A4 l4.length c4,.slice A5 l5.length c5,.bool a6,.int .u32 a7,.int .u8 a8,.int .u8 a9,.int .u32 a10,.slice A11 l11.length c11,.int .u32 a12]] w fun e w'=>∃ T c T1 c1 T2 c2,e = .returned (.tuple #[.agg #[.int .i64 1,.int .u8 a0,.int .u8 a8,.int .u32 a7,.int .u8 a9,.int .u8 a1,.slice T l4.length c,.int .u32 0,.slice T1 0 c1,.int .u8 0,.bool false,.slice T2 0 c2],errW none]) ∧ On k67 w' (fun _=>True) T c l4 ∧ On k62 w' (fun _=>True) T1 c1 [] ∧ On k67 w' (fun _=>True) T2 c2 [] ∧ Below w.heap.size w w':=by
 have huR:=Tryz.underlying28
 have huN:=Tryz.underlying30
 have huS:=Tryz.underlying26
 have hu35:=Tryz.underlying35
 have eN:=errW_none
 have eS:=errW_some
 have R4':=Aside0.mk r4
 have I4':=Aside0.mk i4
 have R5':=Aside0.mk r5
 have I5':=Aside0.mk i5
 have R11':=Aside0.mk r11
 have I11':=Aside0.mk i11
 have HON':=Aside0.mk hon
 have HLEN':=Aside0.mk hlen
 clear r4 i4 r5 i5 r11 i11 hon hlen
 go_enter Tryz.func18,Tryz.ntmps18
 go_wp2_with fail
 generalize hW : World.alloc (World.alloc w _) _ = w0
 have Br0:=Aside0.mk (al2_0 hW)
 have Bo0:=Aside0.mk (al2_1 hW)
 have HB0:=Aside0.mk (al2B hW)
 clear hW
 have GG:=Aside0.mk (show w.heap.size + 2 ≤ w0.heap.size by have:=blk_lt Bo0.out;omega)
 have HG0:=Aside0.mk (Nat.le_refl w0.heap.size)
 obtain ⟨r_0,r_1,r_2,r_3,r_4,r_5,r_6,r_7,r_8,r_9,r_10,r_11,r_12⟩:=cells13 Br0.out
 go_wp2_with fail
 refine (target_on.calls k a0 a1 a2 a3 _ _ l4 _ _ l5 a6 a7 a8 a9 a10 _ _ l11 a12 none _ (Kd.C_below R4'.out HB0.out) I4'.out (Kd.C_below R5'.out HB0.out) I5'.out (Kd.C_below R11'.out HB0.out) I11'.out HON'.out).mono ?_
 rintro ev w1 ⟨rfl,hx⟩
 have Br1:=Aside0.mk (blk_below Br0.out hx)
 have Bo1:=Aside0.mk (blk_below Bo0.out hx)
 have HB1:=Aside0.mk (below_step HB0.out hx)
 have HG1:=Aside0.mk (Nat.le_trans HG0.out hx.size)
 clear r_0 r_1 r_2 r_3 r_4 r_5 r_6 r_7 r_8 r_9 r_10 r_11 r_12
 clear hx HB0 HG0 Br0 Bo0
 obtain ⟨r_0,r_1,r_2,r_3,r_4,r_5,r_6,r_7,r_8,r_9,r_10,r_11,r_12⟩:=cells13 Br1.out
 obtain ⟨o_0,o_1,o_2,o_3,o_4,o_5,o_6,o_7,o_8,o_9,o_10,o_11⟩:=cells12 Bo1.out
 go_wp2_with fail
 refine (pull_On a0 a1 a2 a3 l4 l5 a6 a7 a8 a9 a10 l11 a12 A4 A5 A11 c4 c5 c11 _ (fun j=>w.heap.size + 2 ≤ j) (Kd.C_below R4'.out HB1.out) I4'.out (Kd.C_below R5'.out HB1.out) I5'.out (Kd.C_below R11'.out HB1.out) I11'.out (fun j hj=>(by have:=GG.out;have:=HG1.out;show w.heap.size + 2 ≤ j;omega)) HLEN'.out).mono ?_
 rintro ev w2 ⟨T,c,T1,c1,T2,c2,rfl,q1,q2,q3,hx⟩
 have Br2:=Aside0.mk (blk_below Br1.out hx)
 have Bo2:=Aside0.mk (blk_below Bo1.out hx)
 have HB2:=Aside0.mk (below_step HB1.out hx)
 have Oq12:=Aside0.mk q1
 clear q1
 have Oq22:=Aside0.mk q2
 clear q2
 have Oq32:=Aside0.mk q3
 clear q3
 have HG2:=Aside0.mk (Nat.le_trans HG1.out hx.size)
 clear r_0 r_1 r_2 r_3 r_4 r_5 r_6 r_7 r_8 r_9 r_10 r_11 r_12 o_0 o_1 o_2 o_3 o_4 o_5 o_6 o_7 o_8 o_9 o_10 o_11
 clear hx HB1 HG1 Br1 Bo1
 obtain ⟨o_0,o_1,o_2,o_3,o_4,o_5,o_6,o_7,o_8,o_9,o_10,o_11⟩:=cells12 Bo2.out
 go_wp2_with (first | ((with_reducible refine gate_store (t:=30) (p:=2) rfl ?_);refine store_event (t:=30) (p:=2) (v:=?vo8_) (w1:=put_ w2 (w.heap.size + 1) 0 [.int .i64 1,.int .u8 a0,.int .u8 a8,.int .u32 a7,.int .u8 a9,.int .u8 a1,.slice T l4.length c,.int .u32 0,.slice T1 0 c1,.int .u8 0,.bool false,.slice T2 0 c2]) ?hg ?ho ?hn ?hr ?_;(case ho=>rfl);(case hg=>rfl);(case hn=>rfl);(case hr=>obtain ⟨_,_,_,_,_,_,_,_,_,_,_,_,_⟩:=frz13 Bo2.out;go_simp;rfl);intro w3 hw;have Br3:=Aside0.mk (far_ hw (by omega) Br2.out);have Bo3:=Aside0.mk (own12_0_12 hw Bo2.out);have HB3:=Aside0.mk (bel_ hw (by omega) HB2.out);have Oq13:=Aside0.mk (Oq12.out.puts hw flatK_Run (fun k hk=>(by omega)));have Oq23:=Aside0.mk (Oq22.out.puts hw flatK_Entry (fun k hk=>(by omega)));have Oq33:=Aside0.mk (Oq32.out.puts hw flatK_Run (fun k hk=>(by omega)));have HG3:=Aside0.mk (siz_ hw HG2.out);clear hw HB2 HG2 Br2 Bo2 Oq12 Oq22 Oq32 o_0 o_1 o_2 o_3 o_4 o_5 o_6 o_7 o_8 o_9 o_10 o_11;obtain ⟨r3_0,r3_1,r3_2,r3_3,r3_4,r3_5,r3_6,r3_7,r3_8,r3_9,r3_10,r3_11,r3_12⟩:=cells13 Br3.out;obtain ⟨o3_0,o3_1,o3_2,o3_3,o3_4,o3_5,o3_6,o3_7,o3_8,o3_9,o3_10,o3_11⟩:=cells12 Bo3.out))
 refine bodyPost_ret (results_ct rfl _ _ (w.heap.size + 1) 30 #[.int .i64 1,.int .u8 a0,.int .u8 a8,.int .u32 a7,.int .u8 a9,.int .u8 a1,.slice T l4.length c,.int .u32 0,.slice T1 0 c1,.int .u8 0,.bool false,.slice T2 0 c2] (0,0) _ rfl Bo3.out Tryz.underlying30 rfl (by kernel_rfl)) rfl ?_
 exact ⟨_,_,_,_,_,_,by first | rfl | rw [eN],Oq13.out.mono (fun _ _=>trivial),Oq23.out.mono (fun _ _=>trivial),Oq33.out.mono (fun _ _=>trivial),HB3.out⟩
set_option maxRecDepth 100000 in
set_option maxHeartbeats 8000000 in
theorem Again_no (k : Nat) (a0 a1 a2 a3 : Int) (l4 : List S67) (l5 : List S62) (a6 : Bool) (a7 a8 a9 a10 : Int) (l11 : List S67) (a12 : Int) (A4 A5 A11 : Option Addr) (c4 c5 c11 : Nat) (w : World) (r4 : Kd.C k67 w A4 l4.length l4) (i4 : l4.length ≤ c4) (r5 : Kd.C k62 w A5 l5.length l5) (i5 : l5.length ≤ c5) (r11 : Kd.C k67 w A11 l11.length l11) (i11 : l11.length ≤ c11) (q : Int) (hon : target_on.f k a0 a1 a2 a3 l4 l5 a6 a7 a8 a9 a10 l11 a12 = some (some q)) : Calls Tryz.prog 18 #[.agg #[.int .u8 a0,.int .u8 a1,.int .u32 a2,.int .u32 a3,.slice A4 l4.length c4,.slice A5 l5.length c5,.bool a6,.int .u32 a7,.int .u8 a8,.int .u8 a9,.int .u32 a10,.slice A11 l11.length c11,.int .u32 a12]] w fun e w'=>∃ T c T1 c1 T2 c2,e = .returned (.tuple #[.agg #[.int .i64 0,.int .u8 0,.int .u8 0,.int .u32 0,.int .u8 0,.int .u8 0,.slice T 0 c,.int .u32 0,.slice T1 0 c1,.int .u8 0,.bool false,.slice T2 0 c2],errW (some q)]) ∧ On k67 w' (fun _=>True) T c [] ∧ On k62 w' (fun _=>True) T1 c1 [] ∧ On k67 w' (fun _=>True) T2 c2 [] ∧ Below w.heap.size w w':=by
 have huR:=Tryz.underlying28
 have huN:=Tryz.underlying30
 have huS:=Tryz.underlying26
 have hu35:=Tryz.underlying35
 have eN:=errW_none
 have eS:=errW_some
 have R4':=Aside0.mk r4
 have I4':=Aside0.mk i4
 have R5':=Aside0.mk r5
 have I5':=Aside0.mk i5
 have R11':=Aside0.mk r11
 have I11':=Aside0.mk i11
 have HON':=Aside0.mk hon
 clear r4 i4 r5 i5 r11 i11 hon
 go_enter Tryz.func18,Tryz.ntmps18
 go_wp2_with fail
 generalize hW : World.alloc (World.alloc w _) _ = w0
 have Br0:=Aside0.mk (al2_0 hW)
 have Bo0:=Aside0.mk (al2_1 hW)
 have HB0:=Aside0.mk (al2B hW)
 clear hW
 have GG:=Aside0.mk (show w.heap.size + 2 ≤ w0.heap.size by have:=blk_lt Bo0.out;omega)
 have HG0:=Aside0.mk (Nat.le_refl w0.heap.size)
 obtain ⟨r_0,r_1,r_2,r_3,r_4,r_5,r_6,r_7,r_8,r_9,r_10,r_11,r_12⟩:=cells13 Br0.out
 go_wp2_with fail
 refine (target_on.calls k a0 a1 a2 a3 _ _ l4 _ _ l5 a6 a7 a8 a9 a10 _ _ l11 a12 (some q) _ (Kd.C_below R4'.out HB0.out) I4'.out (Kd.C_below R5'.out HB0.out) I5'.out (Kd.C_below R11'.out HB0.out) I11'.out HON'.out).mono ?_
 rintro ev w1 ⟨rfl,hx⟩
 have Br1:=Aside0.mk (blk_below Br0.out hx)
 have Bo1:=Aside0.mk (blk_below Bo0.out hx)
 have HB1:=Aside0.mk (below_step HB0.out hx)
 have HG1:=Aside0.mk (Nat.le_trans HG0.out hx.size)
 clear r_0 r_1 r_2 r_3 r_4 r_5 r_6 r_7 r_8 r_9 r_10 r_11 r_12
 clear hx HB0 HG0 Br0 Bo0
 obtain ⟨r_0,r_1,r_2,r_3,r_4,r_5,r_6,r_7,r_8,r_9,r_10,r_11,r_12⟩:=cells13 Br1.out
 obtain ⟨o_0,o_1,o_2,o_3,o_4,o_5,o_6,o_7,o_8,o_9,o_10,o_11⟩:=cells12 Bo1.out
 go_wp2_with (first | ((with_reducible refine gate_store (t:=30) (p:=2) rfl ?_);refine store_event (t:=30) (p:=2) (v:=?vo9_) (w1:=put_ w1 (w.heap.size + 1) 0 [.int .i64 0,.int .u8 0,.int .u8 0,.int .u32 0,.int .u8 0,.int .u8 0,.slice none 0 0,.int .u32 0,.slice none 0 0,.int .u8 0,.bool false,.slice none 0 0]) ?hg ?ho ?hn ?hr ?_;(case ho=>rfl);(case hg=>rfl);(case hn=>rfl);(case hr=>obtain ⟨_,_,_,_,_,_,_,_,_,_,_,_,_⟩:=frz13 Bo1.out;go_simp;rfl);intro w2 hw;have Br2:=Aside0.mk (far_ hw (by omega) Br1.out);have Bo2:=Aside0.mk (own12_0_12 hw Bo1.out);have HB2:=Aside0.mk (bel_ hw (by omega) HB1.out);have HG2:=Aside0.mk (siz_ hw HG1.out);clear hw HB1 HG1 Br1 Bo1 r_0 r_1 r_2 r_3 r_4 r_5 r_6 r_7 r_8 r_9 r_10 r_11 r_12 o_0 o_1 o_2 o_3 o_4 o_5 o_6 o_7 o_8 o_9 o_10 o_11;obtain ⟨r2_0,r2_1,r2_2,r2_3,r2_4,r2_5,r2_6,r2_7,r2_8,r2_9,r2_10,r2_11,r2_12⟩:=cells13 Br2.out;obtain ⟨o2_0,o2_1,o2_2,o2_3,o2_4,o2_5,o2_6,o2_7,o2_8,o2_9,o2_10,o2_11⟩:=cells12 Bo2.out))
 refine bodyPost_ret (results_ct rfl _ _ (w.heap.size + 1) 30 #[.int .i64 0,.int .u8 0,.int .u8 0,.int .u32 0,.int .u8 0,.int .u8 0,.slice none 0 0,.int .u32 0,.slice none 0 0,.int .u8 0,.bool false,.slice none 0 0] (0,0) _ rfl Bo2.out Tryz.underlying30 rfl (by kernel_rfl)) rfl ?_
 exact ⟨none,0,none,0,none,0,by first | rfl | rw [eS],.nil,.nil,.nil,HB2.out⟩
end Go.Proofs.YtiminjibcafkaaaGreatDoor.X
