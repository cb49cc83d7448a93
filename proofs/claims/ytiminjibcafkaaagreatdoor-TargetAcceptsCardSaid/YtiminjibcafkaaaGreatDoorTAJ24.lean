/- Texts that this claim's law comes to, joined by wip/slim.py: XhknowHas, X6, X8, X31. -/
import Derived.Test.YtiminjibcafkaaaGreatDoorTAJ4
import Derived.Test.YtiminjibcafkaaaGreatDoorTAX5
import Derived.Test.YtiminjibcafkaaaGreatDoorTAJ6
import Derived.Test.YtiminjibcafkaaaGreatDoorTAJ5
set_option linter.unusedSimpArgs false
set_option linter.unusedVariables false
section
namespace Go.Proofs.YtiminjibcafkaaaGreatDoor.X
open RowKit YtiminjibcafkaaaGreatDoorW.PrintWords YtiminjibcafkaaaGreatDoorW.PrintLast YtiminjibcafkaaaGreatDoorW.PrintMore
attribute [local go_sem] max2_int min2_int max_two min_two max_three min_three max_four min_four
def inRun (a1 a2 : Int) (x : S67) : Bool:=decide (x.f0 = a1) && (decide (x.f1 ≤ a2) && decide (a2 ≤ x.f2))
def know_Has.f (k : Nat) (l0 : List (S67)) (a1 a2 : Int) : Option Bool:=(know_Right.f k l0).bind fun b=>some (b && l0.any (inRun a1 a2))
theorem know_Has.pred (a1 a2 : Int) (B1 B2 : Nat) (w : World) (hB1 : B1 < w.heap.size) (hB2 : B2 < w.heap.size) (h1 : w.cell? ⟨B1,0,none⟩ = some (.int .u8 a1)) (h2 : w.cell? ⟨B2,0,none⟩ = some (.int .u32 a2)) :
 ∀ (W : World) (x : S67),Below w.heap.size w W → Calls Tryz.prog 89 (#[.agg #[.int .u8 x.f0,.int .u32 x.f1,.int .u32 x.f2]] ++ #[.pointer (some ⟨B1,0,none⟩),.pointer (some ⟨B2,0,none⟩)]) W fun e w'=>e = .returned (.bool (inRun a1 a2 x)) ∧ Below W.heap.size W w':=fun W x hb=>by
 have c1 : W.cell? ⟨B1,0,none⟩ = some (.int .u8 a1):=(hb.cell (p:=⟨B1,0,none⟩) hB1).trans h1;have c2 : W.cell? ⟨B2,0,none⟩ = some (.int .u32 a2):=(hb.cell (p:=⟨B2,0,none⟩) hB2).trans h2;have n1 : B1 < W.heap.size:=Nat.lt_of_lt_of_le hB1 hb.size;have n2 : B2 < W.heap.size:=Nat.lt_of_lt_of_le hB2 hb.size;have e1 : B1 ≠ W.heap.size:=by omega
 have e2 : B2 ≠ W.heap.size:=by omega
 clear hb h1 h2 hB1 hB2;obtain ⟨f0,f1,f2⟩:=x;show Calls Tryz.prog 89 #[.agg #[.int .u8 f0,.int .u32 f1,.int .u32 f2],.pointer (some ⟨B1,0,none⟩),.pointer (some ⟨B2,0,none⟩)] W _;have hu:=Tryz.underlying67;unfold inRun;dsimp only;by_cases p1 : f0 = a1
 ·subst p1;by_cases p2 : f1 ≤ a2
  ·by_cases p3 : a2 ≤ f2
   ·go_enter Tryz.func89,Tryz.ntmps89;go_wp2;go_ret;exact ⟨by simp [p2,p3],(zS _ _).alloc (zM _) _⟩
   ·go_enter Tryz.func89,Tryz.ntmps89;go_wp2;go_ret;exact ⟨by simp [p2,p3],(zS _ _).alloc (zM _) _⟩
  ·go_enter Tryz.func89,Tryz.ntmps89;go_wp2;go_ret;exact ⟨by (simp;try (intros;omega)),(zS _ _).alloc (zM _) _⟩
 ·go_enter Tryz.func89,Tryz.ntmps89;go_wp2;go_ret;exact ⟨by simp [p1],(zS _ _).alloc (zM _) _⟩
set_option maxHeartbeats 8000000 in
set_option maxRecDepth 100000 in
theorem know_Has.calls (k : Nat) (A0 : Option Addr) (c0 : Nat) (l0 : List (S67)) (a1 : Int) (a2 : Int) (r : Bool) (w : World) (hr0 : Kd.C k67 w A0 l0.length l0) (hc0 : l0.length ≤ c0) (h : know_Has.f k l0 a1 a2 = some r) :
 Calls Tryz.prog 57 #[.slice A0 l0.length c0,.int .u8 a1,.int .u32 a2] w fun e w'=>e = .returned (.bool r) ∧ Below w.heap.size w w':=by
 have eg : ∀ args w,(callFunc 89 args).run Tryz.prog w = .ok (.enter 89 args) w:=enters_of Tryz.func89 (by kernel_rfl) rfl;have hmf : ∀ (fn : Fn) (first cap : Array Value) (w : World),(Instr.makeFunc fn first cap).run Tryz.prog w = .ok (.func fn first cap) w:=fun _ _ _ _=>rfl
 unfold know_Has.f at h;replace h:=zJ.mp h;obtain ⟨b,hb,h⟩:=h;obtain rfl:=zH h;clear h;have HA:=zA hb;have HR:=zA hr0;have HC:=zA hc0;clear hb hr0 hc0;have EG:=zA eg;clear eg;cases b with
 | false =>
  go_enter Tryz.func57,Tryz.ntmps57;go_wp2_with (go_at_call 50;refine (know_Right.calls k _ _ l0 false _ (Kd.C_alloc (Kd.C_alloc HR.out _) _) HC.out HA.out).mono ?_;rintro e w1 ⟨rfl,hb1⟩)
  go_ret;exact ⟨rfl,(((zS _ w).alloc (zM _) _).alloc (by simp) _).trans (hb1.mono (by simp;omega))⟩
 | true =>
  go_enter Tryz.func57,Tryz.ntmps57;go_wp2_with (go_at_call 50;refine (know_Right.calls k _ _ l0 true _ (Kd.C_alloc (Kd.C_alloc HR.out _) _) HC.out HA.out).mono ?_;rintro e w1 ⟨rfl,hb1⟩)
  refine (slices_ContainsFunc_Run.calls (inRun a1 a2) 89 #[.pointer (some ⟨w.heap.size,0,none⟩),.pointer (some ⟨w.heap.size + 1,0,none⟩)] EG.out A0 c0 l0 _ (zL (Kd.C_alloc (Kd.C_alloc HR.out _) _) hb1) (know_Has.pred a1 a2 w.heap.size (w.heap.size + 1) w1 ?_ ?_ ?_ ?_)).mono ?_
  ·have:=hb1.size;simp at this;omega
  ·have:=hb1.size;simp at this;omega
  ·exact (hb1.cell (p:=⟨w.heap.size,0,none⟩) (by simp;omega)).trans (by simp)
  ·exact (hb1.cell (p:=⟨w.heap.size + 1,0,none⟩) (by simp)).trans (by simp)
  rintro e w2 ⟨rfl,hb2⟩;go_wp2;go_ret;exact ⟨by simp,((((zS _ w).alloc (zM _) _).alloc (by simp) _).trans (hb1.mono (by simp;omega))).trans (hb2.mono (by have:=hb1.size;simp at this;omega))⟩
def item_entry.f (a0_0 : Int) (a0_1 : Int) (a0_2 : Int) (a0_3 : Int) (a0_4 : Int) (a0_5 : Int) (a0_6 : Int) : Option (Bool):=if a0_4 = 1 then (if ((a0_5) % 4294967296) = (Int.tmod a0_6 8) then ((item_RightVer.f a0_1 a0_2 a0_3).bind fun t111=>(if t111 = true then (some (decide (a0_0 < 64))) else (some false))) else (some false)) else (if a0_4 = 3 then (if a0_5 = 0 then (if a0_5 ≥ 8 then (some false) else (if a0_6 = 0 then ((item_RightVer.f a0_1 a0_2 a0_3).bind fun t113=>(if t113 = true then (some (decide (a0_0 < 64))) else (some false))) else (some false))) else (some false)) else (if a0_4 = 2 then (if a0_5 ≥ 8 then (some false) else (if a0_6 = 0 then ((item_RightVer.f a0_1 a0_2 a0_3).bind fun t112=>(if t112 = true then (some (decide (a0_0 < 64))) else (some false))) else (some false))) else (some false)))
set_option maxHeartbeats 8000000 in
set_option maxRecDepth 100000 in
theorem item_entry.calls (a0_0 : Int) (a0_1 : Int) (a0_2 : Int) (a0_3 : Int) (a0_4 : Int) (a0_5 : Int) (a0_6 : Int) (r : Bool) (w : World) (h : item_entry.f a0_0 a0_1 a0_2 a0_3 a0_4 a0_5 a0_6 = some r) :
 Calls Tryz.prog 86 #[.agg #[.int .u8 a0_0,.int .u8 a0_1,.int .u32 a0_2,.int .u32 a0_3,.int .i64 a0_4,.int .u8 a0_5,.int .u32 a0_6]] w fun e w'=>e = .returned (.bool r) ∧ Below w.heap.size w w':=by
 have hu62:=Tryz.underlying62;have hu60:=Tryz.underlying60;have H:=zA h;clear h;go_enter Tryz.func86,Tryz.ntmps86;go_wp2_with (first | (go_at_call 113;rcases hv0 : item_RightVer.f a0_1 a0_2 a0_3 with _ | v_;(focus (exfalso;have h_:=H.out;first | (simp [*,item_entry.f] at h_;done) | ((simp only [item_entry.f,hv0,Option.bind_none] at h_;repeat' (split at h_))<;>first | (exfalso;omega) | (simp at h_;done) | (simp_all;done))));(refine (item_RightVer.calls a0_1 a0_2 a0_3 v_ _  hv0).mono ?_);rintro e w1_ ⟨rfl,hx_⟩;have hx:=hx_;have B0_:=zC (yL _ _) hx;have u0_:=cells7 B0_;cases v_))
 all_goals (try go_ret)
 all_goals (have h:=H.out;clear H;simp only [item_entry.f] at h)
 all_goals (refine ⟨?_,by first | ((repeat (first | exact zS _ _ | refine Below.alloc ?_ (by first | exact zM _ | (simp;done) | (simp;omega)) _));done) | (refine zG ?_ hx;(repeat (first | exact zS _ _ | refine Below.alloc ?_ (by first | exact zM _ | (simp;done) | (simp;omega)) _));done)⟩)
 all_goals (try simp only [yB,yF,zR,zU,Bool.not_eq_true',Bool.not_eq_false'] at *)
 all_goals ((try simp only [hv0,zW] at h);first | (simp [*] at h;simp [*];done) | (simp [*] at h;simp [← h];done) | (simp [*] at h;subst h;first | rfl | (simp;done)) | (simp [*] at h ⊢;done) | (simp [*] at h;rw [← h];first | rfl | (simp [*];done)) | (simp [*] at h;simp [h];done) | ((repeat' (split at h))<;>first | (exfalso;omega) | (exfalso;simp_all;done) | (simp [*] at h;subst h;simp [*];done) | (simp [*] at h;simp [*,← h];done) | (simp [*] at h;simp [h];done) | (simp [*] at h;subst h;simp;omega) | (simp at h;subst h;simp [*];done) | (simp at h;subst h;rfl) | (simp at h;obtain ⟨h1_,h2_⟩:=h;subst h1_;subst h2_;first | rfl | (simp [*];done)) | (simp at h;rw [← h];first | rfl | (simp [*];done))))
def replica_session.f (k : Nat) (a0_0 : Bool) (a0_1 : Int) (a0_2 : Int) (a0_3 : Int) (a0_4 : Int) (l0_5 : List (S67)) (a0_6 : Int) (a1 : Int) : Option (Bool):=if a0_0 = true then (if a0_3 = 0 then (if a0_4 = 0 then (if (l0_5.length : Int) > 0 then (some false) else ((know_Right.f k l0_5).bind fun t119=>(if t119 = true then (if a0_1 ≥ 1 then (if a0_1 ≤ a0_6 then (if a0_2 < 8 then (if a0_2 = a1 then (some false) else (some (decide (a0_3 < 64)))) else (some false)) else (some false)) else (some false)) else (some false)))) else (some false)) else ((know_Right.f k l0_5).bind fun t120=>(if t120 = true then (if a0_1 ≥ 1 then (if a0_1 ≤ a0_6 then (if a0_2 < 8 then (if a0_2 = a1 then (some false) else (some (decide (a0_3 < 64)))) else (some false)) else (some false)) else (some false)) else (some false)))) else (if a0_1 = 0 then (if a0_2 = 0 then (if a0_3 = 0 then (if a0_4 = 0 then (some ((l0_5.length : Int) == 0)) else (some false)) else (some false)) else (some false)) else (some false))
set_option maxHeartbeats 8000000 in
set_option maxRecDepth 100000 in
theorem replica_session.calls (k : Nat) (a0_0 : Bool) (a0_1 : Int) (a0_2 : Int) (a0_3 : Int) (a0_4 : Int) (A0_5 : Option Addr) (c0_5 : Nat) (l0_5 : List (S67)) (a0_6 : Int) (a1 : Int) (r : Bool) (w : World) (hr0_5 : Kd.C k67 w A0_5 l0_5.length l0_5) (hc0_5 : l0_5.length ≤ c0_5) (h : replica_session.f k a0_0 a0_1 a0_2 a0_3 a0_4 l0_5 a0_6 a1 = some r) :
 Calls Tryz.prog 52 #[.agg #[.bool a0_0,.int .u32 a0_1,.int .u8 a0_2,.int .u8 a0_3,.int .u32 a0_4,.slice A0_5 l0_5.length c0_5,.int .u32 a0_6],.int .u8 a1] w fun e w'=>e = .returned (.bool r) ∧ Below w.heap.size w w':=by
 have hu26:=Tryz.underlying26;have HR0_5':=zA hr0_5;have HC0_5':=zA hc0_5;clear hr0_5 hc0_5;have H:=zA h;clear h;go_enter Tryz.func52,Tryz.ntmps52;go_wp2_with (first | (go_at_call 50;rcases hv0 : know_Right.f k l0_5 with _ | v_;(focus (exfalso;have h_:=H.out;first | (simp [*,replica_session.f] at h_;done) | ((simp only [replica_session.f,hv0,Option.bind_none] at h_;repeat' (split at h_))<;>first | (exfalso;omega) | (simp at h_;done) | (simp_all;done))));(refine (know_Right.calls k _ _ l0_5 v_ _ (zL HR0_5'.out (by repeat (first | exact zS _ _ | refine Below.alloc ?_ (by first | exact zM _ | (simp;done) | (simp;omega)) _))) HC0_5'.out hv0).mono ?_);rintro e w1_ ⟨rfl,hx_⟩;have hx:=hx_;have B0_:=zC (yL _ _) hx;have u0_:=cells7 B0_;cases v_))
 all_goals (try go_ret)
 all_goals (have h:=H.out;clear H;simp only [replica_session.f] at h)
 all_goals (refine ⟨?_,by first | ((repeat (first | exact zS _ _ | refine Below.alloc ?_ (by first | exact zM _ | (simp;done) | (simp;omega)) _));done) | (refine zG ?_ hx;(repeat (first | exact zS _ _ | refine Below.alloc ?_ (by first | exact zM _ | (simp;done) | (simp;omega)) _));done)⟩)
 all_goals (try simp only [yB,yF,zR,zU,Bool.not_eq_true',Bool.not_eq_false'] at *)
 all_goals ((try simp only [hv0,zW] at h);first | (simp [*] at h;simp [*];done) | (simp [*] at h;simp [← h];done) | (simp [*] at h;subst h;first | rfl | (simp;done)) | (simp [*] at h ⊢;done) | (simp [*] at h;rw [← h];first | rfl | (simp [*];done)) | (simp [*] at h;simp [h];done) | ((repeat' (split at h))<;>first | (exfalso;omega) | (exfalso;simp_all;done) | (simp [*] at h;subst h;simp [*];done) | (simp [*] at h;simp [*,← h];done) | (simp [*] at h;simp [h];done) | (simp [*] at h;subst h;simp;omega) | (simp at h;subst h;simp [*];done) | (simp at h;subst h;rfl) | (simp at h;obtain ⟨h1_,h2_⟩:=h;subst h1_;subst h2_;first | rfl | (simp [*];done)) | (simp at h;rw [← h];first | rfl | (simp [*];done))))
end Go.Proofs.YtiminjibcafkaaaGreatDoor.X
end
