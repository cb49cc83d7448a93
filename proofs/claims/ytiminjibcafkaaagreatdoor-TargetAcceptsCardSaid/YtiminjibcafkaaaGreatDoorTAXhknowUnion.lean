/- A part of the proof. -/

import Derived.Test.YtiminjibcafkaaaGreatDoorTAJ4
import Derived.Test.YtiminjibcafkaaaGreatDoorTAX5
import Derived.Test.YtiminjibcafkaaaGreatDoorTAJ8
import Derived.Test.YtiminjibcafkaaaGreatDoorTAX15
set_option linter.unusedSimpArgs false
set_option linter.unusedVariables false
namespace Go.Proofs.YtiminjibcafkaaaGreatDoor.X
open RowKit YtiminjibcafkaaaGreatDoorW.PrintWords YtiminjibcafkaaaGreatDoorW.PrintLast YtiminjibcafkaaaGreatDoorW.PrintMore
attribute [local go_sem] max2_int min2_int max_two min_two max_three min_three max_four min_four
def know_Union.f (k : Nat) (l0 l1 : List (S67)) : Option (List (S67) × Option Int) :=
 (know_Right.f k l0).bind fun b0=>(know_Right.f k l1).bind fun b1=>if b0 = true then (if b1 = true then (if l0.length ≤ 400000 then (if l1.length ≤ 400000 then know_merged.f k (l0 ++ l1) else none) else none) else some ([],some 9)) else some ([],some 9)
set_option maxHeartbeats 8000000 in
set_option maxRecDepth 100000 in
theorem know_Union.calls (k : Nat) (A0 : Option Addr) (c0 : Nat) (l0 : List (S67)) (A1 : Option Addr) (c1 : Nat) (l1 : List (S67)) (r1 : List (S67)) (r2 : Option Int) (w : World) (hr0 : Kd.C k67 w A0 l0.length l0) (hc0 : l0.length ≤ c0) (hr1 : Kd.C k67 w A1 l1.length l1) (hc1 : l1.length ≤ c1) (h : know_Union.f k l0 l1 = some (r1,r2)) :
 Calls Tryz.prog 38 #[.slice A0 l0.length c0,.slice A1 l1.length c1] w fun e w'=>∃ v0_ : Value,e = .returned (.tuple #[v0_,errW r2]) ∧ Kd.R k67 67 w' w.heap.size (fun _=>True) v0_ r1 ∧ Below w.heap.size w w':=by
 unfold know_Union.f at h;obtain ⟨b0,hb0,h⟩:=zJ.mp h;obtain ⟨b1,hb1,h⟩:=zJ.mp h;have H0:=zA hb0;have H1:=zA hb1;have HR0:=zA hr0;have HR1:=zA hr1;have HC0:=zA hc0;have HC1:=zA hc1;clear hb0 hb1 hr0 hr1 hc0 hc1;cases b0 with
 | false =>
  simp only [yC,if_false,Option.some.injEq,Prod.mk.injEq] at h;obtain ⟨rfl,rfl⟩:=h;rw [errW_some];go_enter Tryz.func38,Tryz.ntmps38;go_wp2_with (go_at_call 50;refine (know_Right.calls k _ _ l0 false _ HR0.out HC0.out H0.out).mono ?_;rintro e w1 ⟨rfl,hb1⟩)
  go_ret2;exact ⟨_,rfl,Kd.R_nil _ _ _ _ _,hb1⟩
 | true =>
  cases b1 with
  | false =>
   simp only [if_true,yC,if_false,Option.some.injEq,Prod.mk.injEq] at h;obtain ⟨rfl,rfl⟩:=h;rw [errW_some];go_enter Tryz.func38,Tryz.ntmps38;go_wp2_with fail;refine (know_Right.calls k _ _ l0 true _ HR0.out HC0.out H0.out).mono ?_;rintro e w1 ⟨rfl,hb1⟩;have HB:=zA hb1;clear hb1;go_wp2_with fail;refine (know_Right.calls k _ _ l1 false _ (zL HR1.out HB.out) HC1.out H1.out).mono ?_;rintro e w2 ⟨rfl,hb2⟩;have HB2:=zA (zG HB.out hb2);clear hb2;go_wp2_with fail;go_ret2;exact ⟨_,rfl,Kd.R_nil _ _ _ _ _,HB2.out⟩
  | true =>
   simp only [if_true] at h;by_cases h4 : l0.length ≤ 400000
   case neg=>rw [if_neg h4] at h;cases h
   rw [if_pos h4] at h;by_cases h5 : l1.length ≤ 400000
   case neg=>rw [if_neg h5] at h;cases h
   rw [if_pos h5] at h;have HM:=zA h;have H4:=zA h4;have H5:=zA h5;clear h h4 h5;go_enter Tryz.func38,Tryz.ntmps38;go_wp2_with fail;refine (know_Right.calls k _ _ l0 true _ HR0.out HC0.out H0.out).mono ?_;rintro e w1 ⟨rfl,hb1⟩;have HB:=zA hb1;clear hb1;go_wp2_with fail;refine (know_Right.calls k _ _ l1 true _ (zL HR1.out HB.out) HC1.out H1.out).mono ?_;rintro e w2 ⟨rfl,hb2⟩;have HB2:=zA (zG HB.out hb2);clear hb2 HB;go_wp2_with fail;have t1:=yL w2 (.cells #[.slice A0 l0.length c0,.slice A1 l1.length c1] 23);have t2:=Kd.C_alloc (zL HR0.out HB2.out) (.cells #[.slice A0 l0.length c0,.slice A1 l1.length c1] 23);have t3:=Kd.C_alloc (zL HR1.out HB2.out) (.cells #[.slice A0 l0.length c0,.slice A1 l1.length c1] 23);have t4:=HB2.out.alloc HB2.out.size (.cells #[.slice A0 l0.length c0,.slice A1 l1.length c1] 23);have hcc:=slices_Concat_Run.calls w2.heap.size A0 A1 c0 c1 l0 l1 (w2.alloc (.cells #[.slice A0 l0.length c0,.slice A1 l1.length c1] 23)) t1 t2 t3 H4.out H5.out;generalize w2.alloc (.cells #[.slice A0 l0.length c0,.slice A1 l1.length c1] 23) = W2 at hcc t4 ⊢;generalize l0 ++ l1 = l2 at hcc HM;refine hcc.mono ?_;clear hcc t1 t2 t3;rintro e w3 ⟨v3,rfl,hR3,hb3⟩;obtain ⟨A3,c3,rfl,hc3,hC3⟩:=Kd.R_reads hR3;have HB3:=zA (zG t4 hb3);have HC3:=zA hC3;have HD3:=zA hc3;clear hb3 hR3 hC3 hc3 HB2 t4;go_wp2_with fail;refine (know_merged.calls k A3 c3 l2 r1 r2 _ HC3.out HD3.out HM.out).mono ?_;rintro e w4 ⟨v4,rfl,hR4,hb4⟩;have HB4:=zA (zG HB3.out hb4);have HR4:=zA (yK hR4 HB3.out.size);clear hb4 hR4 HB3;go_wp2_with fail;go_ret2;exact ⟨_,rfl,HR4.out,HB4.out⟩
end Go.Proofs.YtiminjibcafkaaaGreatDoor.X
