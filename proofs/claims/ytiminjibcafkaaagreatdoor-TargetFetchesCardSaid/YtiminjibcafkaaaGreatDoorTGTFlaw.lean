/- The law TargetFetches at every input. -/
import Derived.Test.YtiminjibcafkaaaGreatDoorTGTFwalk
set_option linter.unusedSimpArgs false
set_option linter.unusedVariables false
namespace Go.Proofs.YtiminjibcafkaaaGreatDoor.X
open RowKit YtiminjibcafkaaaGreatDoorW.PrintWords YtiminjibcafkaaaGreatDoorW.PrintLast YtiminjibcafkaaaGreatDoorW.PrintMore
theorem u32_next (n : Int) (h : In32 n) (hm : ¬ n = 4294967295) : IntKind.u32.wrap (n + 1) = n + 1:=by
 have h2 : IntKind.u32.wrap (n + 1) = (n + 1) % 4294967296:=by simp [IntKind.wrap,IntKind.signed,IntKind.bits]
 rw [h2];unfold In32 at h;omega
theorem On.of_C' {α : Type} {d : Kd α} {w : World} {A : Option Addr} {c : Nat} {l : List α} (h : d.C w A l.length l) (hc : l.length ≤ c) : On d w (fun _=>True) A c l:=⟨hc,h,fun _ _ _=>trivial⟩
theorem short5_is (a0 a1 a2 a3 : Int) (l4 : List S67) (l5 : List S62) (a6 : Bool) (a7 a8 a9 a10 : Int) (l11 : List S67) (a12 : Int) : tidingsref05_Short.f a0 a1 a2 a3 l4 l5 a6 a7 a8 a9 a10 l11 a12 = some (decide (l4.length ≤ 300) && (decide (l5.length ≤ 300) && decide (l11.length ≤ 300))):=by
 unfold tidingsref05_Short.f;by_cases h1 : l4.length ≤ 300
 ·rw [if_pos (by omega),zE h1];by_cases h2 : l5.length ≤ 300
  ·rw [if_pos (by omega),zE h2,Bool.true_and,Bool.true_and];exact congrArg some (decide_eq_decide.2 (by omega))
  ·rw [if_neg (by omega),zF h2];rfl
 ·rw [if_neg (by omega),zF h1];rfl
theorem short5_le {l4 : List S67} {l5 : List S62} {l11 : List S67} (h : (decide (l4.length ≤ 300) && (decide (l5.length ≤ 300) && decide (l11.length ≤ 300))) = true) : l4.length ≤ 300 ∧ l5.length ≤ 300 ∧ l11.length ≤ 300:=by
 simpa only [zZ,yH] using h
set_option maxHeartbeats 4000000 in
theorem TargetFetches_law (w : World) (x0 : S28) (x1 : S28) (o0 : Ok_Replica x0) (o1 : Ok_Replica x1) (hg : GT w) {A4 A5 A11 B4 B5 B11 : Option Addr} {c4 c5 c11 d4 d5 d11 : Nat} (r4 : Kd.C k67 w A4 x0.f4.length x0.f4) (i4 : x0.f4.length ≤ c4) (r5 : Kd.C k62 w A5 x0.f5.length x0.f5) (i5 : x0.f5.length ≤ c5) (r11 : Kd.C k67 w A11 x0.f6.f5.length x0.f6.f5) (i11 : x0.f6.f5.length ≤ c11)
 (s4 : Kd.C k67 w B4 x1.f4.length x1.f4) (j4 : x1.f4.length ≤ d4) (s5 : Kd.C k62 w B5 x1.f5.length x1.f5) (j5 : x1.f5.length ≤ d5) (s11 : Kd.C k67 w B11 x1.f6.f5.length x1.f6.f5) (j11 : x1.f6.f5.length ≤ d11) :
 Calls Tryz.prog 5 #[.agg #[.int .u8 x0.f0,.int .u8 x0.f1,.int .u32 x0.f2,.int .u32 x0.f3,.slice A4 x0.f4.length c4,.slice A5 x0.f5.length c5,.bool x0.f6.f0,.int .u32 x0.f6.f1,.int .u8 x0.f6.f2,.int .u8 x0.f6.f3,.int .u32 x0.f6.f4,.slice A11 x0.f6.f5.length c11,.int .u32 x0.f6.f6],.agg #[.int .u8 x1.f0,.int .u8 x1.f1,.int .u32 x1.f2,.int .u32 x1.f3,.slice B4 x1.f4.length d4,.slice B5 x1.f5.length d5,.bool x1.f6.f0,.int .u32 x1.f6.f1,.int .u8 x1.f6.f2,.int .u8 x1.f6.f3,.int .u32 x1.f6.f4,.slice B11 x1.f6.f5.length d11,.int .u32 x1.f6.f6]] w fun e w'=>e = .returned (.bool true) ∧ Below w.heap.size w w':=by
 obtain ⟨p0,p1,p2,p3,p4,p5,q0,q1,q2,q3,q4,q5,q6⟩:=o0;obtain ⟨t0,t1,t2,t3,t4,t5,u0,u1,u2,u3,u4,u5,u6⟩:=o1;obtain ⟨a0,a1,a2,a3,l4,l5,⟨a6,a7,a8,a9,a10,l11,a12⟩⟩:=x0;obtain ⟨s0,s1,s2,s3,k4,k5,⟨s6,s7,s8,s9,s10,k11,s12⟩⟩:=x1;dsimp only at *;have o4:=On.of_C' r4 i4;have o5:=On.of_C' r5 i5;have o11:=On.of_C' r11 i11;have z4:=On.of_C' s4 j4;have z5:=On.of_C' s5 j5;have z11:=On.of_C' s11 j11;refine TF_walk a0 a1 a2 a3 l4 l5 a6 a7 a8 a9 a10 l11 a12 A4 A5 A11 c4 c5 c11 s0 s1 s2 s3 k4 k5 s6 s7 s8 s9 s10 k11 s12 B4 B5 B11 d4 d5 d11 w o4 o5 o11 z4 z5 z11 hg _ _ (repB a0 a1 a2 a3 l4 l5 a6 a7 a8 a9 a10 l11 a12) (repB s0 s1 s2 s3 k4 k5 s6 s7 s8 s9 s10 k11 s12)
  (short5_is a0 a1 a2 a3 l4 l5 a6 a7 a8 a9 a10 l11 a12) (short5_is s0 s1 s2 s3 k4 k5 s6 s7 s8 s9 s10 k11 s12) (fun h1 h2=>?_) (fun h1 h2=>?_) (fun h1 h2 hR hS hne=>?_)
 ·obtain ⟨g4,g5,g11⟩:=short5_le h1;exact rep5_is 100000 a0 a1 a2 a3 l4 l5 a6 a7 a8 a9 a10 l11 a12 (by omega) (by omega) (by omega) p4 p5 q5 p1 q3.1 q1.1 (by omega)
 ·obtain ⟨g4,g5,g11⟩:=short5_le h2;exact rep5_is 100000 s0 s1 s2 s3 k4 k5 s6 s7 s8 s9 s10 k11 s12 (by omega) (by omega) (by omega) t4 t5 u5 t1 u3.1 u1.1 (by omega)
 ·obtain ⟨g4,g5,g11⟩:=short5_le h1;obtain ⟨e4,e5,e11⟩:=short5_le h2;have hRr : replica_Right.f 100000 a0 a1 a2 a3 l4 l5 a6 a7 a8 a9 a10 l11 a12 = some true:=by
   rw [rep_is 100000 a0 a1 a2 a3 l4 l5 a6 a7 a8 a9 a10 l11 a12 (by omega) (by omega) (by omega) p4 p5 q5 p1 (by omega) (by omega) (by omega),hR]
  have hR':=hR;have hS':=hS;unfold repB at hR' hS';simp only [zZ,yH] at hR' hS';by_cases hl : a12 = 4294967295
  ·left;intro W hb;exact Begin_last 100000 a0 a1 a2 a3 l4 l5 a6 a7 a8 a9 a10 l11 a12 A4 A5 A11 c4 c5 c11 s0 W (o4.below hb).row o4.len (o5.below hb).row o5.len (o11.below hb).row o11.len hRr (by have:=hS'.1;omega) (fun e=>hne e.symm) hl
  ·right;have hw:=u32_next a12 q6 hl;have hn0:=q6.1;refine ⟨a12 + 1,dueL k5 0 l4,fun W hb=>?_,?_,?_,?_,fun m cur ep of kn hd F=>?_⟩
   ·have h:=Begin_ok 100000 a0 a1 a2 a3 l4 l5 a6 a7 a8 a9 a10 l11 a12 A4 A5 A11 c4 c5 c11 s0 W (o4.below hb).row o4.len (o5.below hb).row o5.len (o11.below hb).row o11.len (fun _=>True) (fun _ _=>trivial) (by omega) hRr (by have:=hS'.1;omega) (fun e=>hne e.symm) hl;rw [hw] at h;exact h
   ·exact due_f s0 s1 s2 s3 k4 k5 s6 s7 s8 s9 s10 k11 s12 e4 e5 e11 t4 t5 u5 t1 hS a0 a1 (a12 + 1) hR'.1 hS'.1 hne (by omega) 0 l4 (by decide) hR'.2.1 p4
   ·exact zV (List.length_filter_le _ _) e5
   ·exact ⟨⟨Int.le_refl _,by decide⟩,fun h=>absurd h (by decide),rfl,Nat.zero_le _,⟨hR'.2.1,p4,hR'.2.2.1,p5,g5⟩,fun y hy=>(by cases hy),by simp,by simp⟩
   ·exact round_f s0 s1 s2 s3 k4 k5 s6 s7 s8 s9 s10 k11 s12 e4 e5 e11 t4 t5 u5 t1 hS a0 a1 a2 a3 (a12 + 1) hR'.1 hS'.1 hne (by omega) (by omega) p1 (dueL k5 0 l4) (zV (List.length_filter_le _ _) e5) m cur ep of kn hd F
end Go.Proofs.YtiminjibcafkaaaGreatDoor.X
