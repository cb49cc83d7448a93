/- The law TargetBegins at every input. -/
import Derived.Test.YtiminjibcafkaaaGreatDoorTBJ4
import Derived.Test.YtiminjibcafkaaaGreatDoorTBJ39
import Derived.Test.YtiminjibcafkaaaGreatDoorTBJ48
import Derived.Test.YtiminjibcafkaaaGreatDoorTBXtberr
import Derived.Test.YtiminjibcafkaaaGreatDoorTBXtbok
namespace Go.Proofs.YtiminjibcafkaaaGreatDoor.X
open Go.RowKit Go.Proofs.YtiminjibcafkaaaGreatDoorW.PrintWords Go.Proofs.YtiminjibcafkaaaGreatDoorW.PrintLast Go.Proofs.YtiminjibcafkaaaGreatDoorW.PrintMore
set_option linter.unusedVariables false
set_option linter.unusedSimpArgs false
theorem u32_next (n : Int) (h : In32 n) (hm : ¬ n = 4294967295) : IntKind.u32.wrap (n + 1) = n + 1:=by
 have h2 : IntKind.u32.wrap (n + 1) = (n + 1) % 4294967296:=by simp [IntKind.wrap,IntKind.signed,IntKind.bits]
 unfold In32 at h
 rw [h2]
 omega
section
variable (a0 a1 a2 a3 : Int) (l4 : List S67) (l5 : List S62) (a6 : Bool) (a7 a8 a9 a10 : Int) (l11 : List S67) (a12 : Int)
theorem repB_parts (h : repB a0 a1 a2 a3 l4 l5 a6 a7 a8 a9 a10 l11 a12 = true) : a0 < 8 ∧ rightK l4 = true ∧ rightL l5 = true ∧ sessB a6 a7 a8 a9 a10 l11 a12 a0 = true ∧ l4.any (fun x=>beyondB a0 a3 x.f0 x.f2) = false ∧ heldB a0 a3 a1 l4 l5 l5.length 0 = true:=by
 unfold repB at h
 rw [List.any_append] at h
 simp only [Bool.and_eq_true,decide_eq_true_eq,Bool.not_eq_true',Bool.or_eq_false_iff] at h
 obtain ⟨h1,h2,h3,h4,⟨h5,_⟩,h6⟩:=h
 exact ⟨h1,h2,h3,h4,h5,h6⟩
theorem repB_new (h : repB a0 a1 a2 a3 l4 l5 a6 a7 a8 a9 a10 l11 a12 = true) (on : Bool) (n f c e l : Int) (hs : sessB on n f c e [] l a0 = true) : repB a0 a1 a2 a3 l4 l5 on n f c e [] l = true:=by
 obtain ⟨h1,h2,h3,_,h5,h6⟩:=repB_parts a0 a1 a2 a3 l4 l5 a6 a7 a8 a9 a10 l11 a12 h
 unfold repB
 rw [List.append_nil,h2,h3,hs,h5,h6,decide_eq_true h1]
 rfl
theorem rightK_nil : rightK [] = true:=by rfl
theorem pullN (h1 : a0 < 8) (h2 : rightK l4 = true) (f n c : Int) (hf : f < 8) (hne : ¬ a0 = f) (hn : ¬ n = 0) (hc : c < 64) : noteB 1 a0 f n c a1 l4 0 [] 0 false [] = true:=by
 unfold noteB pullB
 simp [h1,h2,hf,hne,hn,hc]
end
set_option maxHeartbeats 4000000 in
theorem TargetBegins_law (w : World) (x0 : S28) (x1 : Int) (o0 : Ok_Replica x0) (o1 : In8 x1) (hg : GT w) {A4 A5 A11 : Option Addr} {c4 c5 c11 : Nat} (r4 : Kd.C k67 w A4 x0.f4.length x0.f4) (i4 : x0.f4.length ≤ c4) (r5 : Kd.C k62 w A5 x0.f5.length x0.f5) (i5 : x0.f5.length ≤ c5) (r11 : Kd.C k67 w A11 x0.f6.f5.length x0.f6.f5) (i11 : x0.f6.f5.length ≤ c11) :
 Calls Tryz.prog 4 #[.agg #[.int .u8 x0.f0,.int .u8 x0.f1,.int .u32 x0.f2,.int .u32 x0.f3,.slice A4 x0.f4.length c4,.slice A5 x0.f5.length c5,.bool x0.f6.f0,.int .u32 x0.f6.f1,.int .u8 x0.f6.f2,.int .u8 x0.f6.f3,.int .u32 x0.f6.f4,.slice A11 x0.f6.f5.length c11,.int .u32 x0.f6.f6],.int .u8 x1] w fun e w'=>e = .returned (.bool true) ∧ Below w.heap.size w w':=by
 obtain ⟨p0,p1,p2,p3,p4,p5,q0,q1,q2,q3,q4,q5,q6⟩:=o0
 obtain ⟨a0,a1,a2,a3,l4,l5,⟨a6,a7,a8,a9,a10,l11,a12⟩⟩:=x0
 dsimp only at *
 cases e5 : (decide (l4.length ≤ 300) && decide (l5.length ≤ 300) && decide (l11.length ≤ 300)) with
 | false =>
  refine TB_long a0 a1 a2 a3 l4 l5 a6 a7 a8 a9 a10 l11 a12 A4 A5 A11 c4 c5 c11 x1 w r4 i4 r5 i5 r11 i11 hg ?_
  unfold tidingsref05_Short.f
  by_cases h1 : l4.length ≤ 300<;>by_cases h2 : l5.length ≤ 300<;>by_cases h3 : l11.length ≤ 300<;>simp [h1,h2,h3] at e5 ⊢<;>omega
 | true =>
 simp only [Bool.and_eq_true,decide_eq_true_eq] at e5
 obtain ⟨⟨h4,h5⟩,h11⟩:=e5
 have hsh : tidingsref05_Short.f a0 a1 a2 a3 l4 l5 a6 a7 a8 a9 a10 l11 a12 = some true:=by
  unfold tidingsref05_Short.f
  rw [if_pos (by omega),if_pos (by omega),decide_eq_true (by omega)]
 have hR:=rep_is 100000 a0 a1 a2 a3 l4 l5 a6 a7 a8 a9 a10 l11 a12 (by omega) (by omega) (by omega) p4 p5 q5 p1 (by omega) (by omega) (by omega)
 have hQ:=rep5_is 100000 a0 a1 a2 a3 l4 l5 a6 a7 a8 a9 a10 l11 a12 (by omega) (by omega) (by omega) p4 p5 q5 p1 q3.1 q1.1 (by omega)
 have hs1 : ∀ l : List S67,l.length ≤ 900 → tidingsref01_Same.f 100000 l l = some true:=fun l hl=>Same01_is l (by omega) 100000 (by omega)
 have hs2 : ∀ l : List S62,l.length ≤ 900 → tidingsref02_Same.f 100000 l l = some true:=fun l hl=>Same02_is l (by omega) 100000 (by omega)
 cases hr : repB a0 a1 a2 a3 l4 l5 a6 a7 a8 a9 a10 l11 a12 with
 | false =>
  rw [hr] at hR hQ
  exact TB_right a0 a1 a2 a3 l4 l5 a6 a7 a8 a9 a10 l11 a12 A4 A5 A11 c4 c5 c11 x1 w r4 i4 r5 i5 r11 i11 hR hQ hsh (by omega) hg ⟨by omega,by omega⟩ hs1 hs2
 | true =>
  rw [hr] at hR hQ
  obtain ⟨k0,k4,k5,ks,_,_⟩:=repB_parts a0 a1 a2 a3 l4 l5 a6 a7 a8 a9 a10 l11 a12 hr
  have nR : ∀ z ∈ ([] : List S67),Ok_Run z:=fun z hz=>by cases hz
  have nE : ∀ z ∈ ([] : List S62),Ok_Entry z:=fun z hz=>by cases hz
  have hNn : a6 = true → note_Right.f 100000 1 a0 a8 a7 a9 a1 l4 0 [] 0 false [] = some true:=by
   intro h6
   subst h6
   unfold sessB at ks
   simp only [if_true,Bool.and_eq_true,decide_eq_true_eq,Bool.not_eq_true',decide_eq_false_iff_not] at ks
   obtain ⟨_,_,s1,s2,s3,s4,s5⟩:=ks
   rw [note_is 100000 1 a0 a8 a7 a9 a1 l4 0 [] 0 false [] (by omega) (by simp) (by simp) p4 nE nR (by omega) (by simp) (by simp),pullN a0 a1 l4 k0 k4 a8 a7 a9 s3 (fun h=>s4 h.symm) (by omega) s5]
  have hRx : replica_Right.f 100000 a0 a1 a2 a3 l4 l5 false 0 0 0 0 [] a12 = some true:=by
   rw [rep_is 100000 a0 a1 a2 a3 l4 l5 false 0 0 0 0 [] a12 (by omega) (by omega) (by simp) p4 p5 nR p1 (by omega) (by omega) (by simp),repB_new a0 a1 a2 a3 l4 l5 a6 a7 a8 a9 a10 l11 a12 hr false 0 0 0 0 a12 rfl]
  by_cases hf : 8 ≤ x1
  ·exact TB_err a0 a1 a2 a3 l4 l5 a6 a7 a8 a9 a10 l11 a12 A4 A5 A11 c4 c5 c11 x1 w r4 i4 r5 i5 r11 i11 hR hQ hsh (by omega) hg ⟨by omega,by omega⟩ hs1 hs2 9 rfl (fun W hb=>Begin_from 100000 a0 a1 a2 a3 l4 l5 a6 a7 a8 a9 a10 l11 a12 A4 A5 A11 c4 c5 c11 x1 W (Kd.C_below r4 hb) i4 (Kd.C_below r5 hb) i5 (Kd.C_below r11 hb) i11 hR hf) (fun W hb=>RBegin_from 100000 a0 a1 a2 a3 l4 l5 a6 a7 a8 a9 a10 l11 a12 A4 A5 A11 c4 c5 c11 x1 W (Kd.C_below r4 hb) i4 (Kd.C_below r5 hb) i5 (Kd.C_below r11 hb) i11 hQ (by omega)) hNn hRx
  by_cases hs : x1 = a0
  ·exact TB_err a0 a1 a2 a3 l4 l5 a6 a7 a8 a9 a10 l11 a12 A4 A5 A11 c4 c5 c11 x1 w r4 i4 r5 i5 r11 i11 hR hQ hsh (by omega) hg ⟨by omega,by omega⟩ hs1 hs2 9 rfl (fun W hb=>Begin_self 100000 a0 a1 a2 a3 l4 l5 a6 a7 a8 a9 a10 l11 a12 A4 A5 A11 c4 c5 c11 x1 W (Kd.C_below r4 hb) i4 (Kd.C_below r5 hb) i5 (Kd.C_below r11 hb) i11 hR hf hs) (fun W hb=>RBegin_self 100000 a0 a1 a2 a3 l4 l5 a6 a7 a8 a9 a10 l11 a12 A4 A5 A11 c4 c5 c11 x1 W (Kd.C_below r4 hb) i4 (Kd.C_below r5 hb) i5 (Kd.C_below r11 hb) i11 hQ (by omega) hs) hNn hRx
  by_cases hl : a12 = 4294967295
  ·exact TB_err a0 a1 a2 a3 l4 l5 a6 a7 a8 a9 a10 l11 a12 A4 A5 A11 c4 c5 c11 x1 w r4 i4 r5 i5 r11 i11 hR hQ hsh (by omega) hg ⟨by omega,by omega⟩ hs1 hs2 5 rfl (fun W hb=>Begin_last 100000 a0 a1 a2 a3 l4 l5 a6 a7 a8 a9 a10 l11 a12 A4 A5 A11 c4 c5 c11 x1 W (Kd.C_below r4 hb) i4 (Kd.C_below r5 hb) i5 (Kd.C_below r11 hb) i11 hR hf hs hl) (fun W hb=>RBegin_last 100000 a0 a1 a2 a3 l4 l5 a6 a7 a8 a9 a10 l11 a12 A4 A5 A11 c4 c5 c11 x1 W (Kd.C_below r4 hb) i4 (Kd.C_below r5 hb) i5 (Kd.C_below r11 hb) i11 hQ (by omega) hs hl) hNn hRx
  have hw:=u32_next a12 q6 hl
  have h12:=q6.1
  have hnn : ¬ IntKind.u32.wrap (a12 + 1) = 0:=by rw [hw];omega
  obtain ⟨nn,e⟩ : ∃ x,x = IntKind.u32.wrap (a12 + 1):=⟨_,rfl⟩
  rw [← e] at hnn hw
  have hN1 : note_Right.f 100000 1 a0 x1 nn 0 a1 l4 0 [] 0 false [] = some true:=by
   rw [note_is 100000 1 a0 x1 nn 0 a1 l4 0 [] 0 false [] (by omega) (by simp) (by simp) p4 nE nR (by omega) (by simp) (by simp),pullN a0 a1 l4 k0 k4 x1 nn 0 (by omega) (fun h=>hs h.symm) hnn (by omega)]
  have hR1 : replica_Right.f 100000 a0 a1 a2 a3 l4 l5 true nn x1 0 0 [] nn = some true:=by
   rw [rep_is 100000 a0 a1 a2 a3 l4 l5 true nn x1 0 0 [] nn (by omega) (by omega) (by simp) p4 p5 nR p1 (by omega) (by omega) (by simp),repB_new a0 a1 a2 a3 l4 l5 a6 a7 a8 a9 a10 l11 a12 hr true nn x1 0 0 nn (by
    unfold sessB
    simp only [if_true,rightK_nil,List.length_nil,decide_true,Bool.true_and,Bool.and_eq_true,decide_eq_true_eq,Bool.not_eq_true',decide_eq_false_iff_not]
    exact ⟨by omega,by omega,by omega,hs,by omega⟩)]
  exact TB_ok a0 a1 a2 a3 l4 l5 a6 a7 a8 a9 a10 l11 a12 A4 A5 A11 c4 c5 c11 x1 nn e w r4 i4 r5 i5 r11 i11 hR hQ hsh (by omega) hg ⟨by omega,by omega⟩ hs1 hs2 hf hs hl hN1 hR1 hNn hRx
end Go.Proofs.YtiminjibcafkaaaGreatDoor.X
