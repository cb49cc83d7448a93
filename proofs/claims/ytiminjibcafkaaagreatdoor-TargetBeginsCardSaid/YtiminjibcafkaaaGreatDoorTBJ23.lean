/- Texts that this claim's law comes to, joined by wip/slim.py: XhknowHas, X6, X8, X31. -/
import Derived.Test.YtiminjibcafkaaaGreatDoorTBJ4
import Derived.Test.YtiminjibcafkaaaGreatDoorTBX5
import Derived.Test.YtiminjibcafkaaaGreatDoorTBJ6
import Derived.Test.YtiminjibcafkaaaGreatDoorTBJ5
section
-- MADE BY wip/prx.py (the kit's printer, with contracts proved by hand). Not trusted: Lean checks it.
namespace Go.Proofs.YtiminjibcafkaaaGreatDoor.X
open Go.RowKit Go.Proofs.YtiminjibcafkaaaGreatDoorW.PrintWords Go.Proofs.YtiminjibcafkaaaGreatDoorW.PrintLast Go.Proofs.YtiminjibcafkaaaGreatDoorW.PrintMore
attribute [local go_sem] max2_int min2_int max_two min_two max_three min_three max_four min_four   -- for this text's walks alone
set_option linter.unusedVariables false
set_option linter.unusedSimpArgs false
--EXT 
/-! ### know_Has: function 57, by hand -/
/-- Is the number in the run, of the replica? -/
def inRun (a1 a2 : Int) (x : S67) : Bool:=decide (x.f0 = a1) && (decide (x.f1 ≤ a2) && decide (a2 ≤ x.f2))
/-- know.Has. -/
def know_Has.f (k : Nat) (l0 : List (S67)) (a1 a2 : Int) : Option Bool:=(know_Right.f k l0).bind fun b=>some (b && l0.any (inRun a1 a2))
theorem know_Has.pred (a1 a2 : Int) (B1 B2 : Nat) (w : World) (hB1 : B1 < w.heap.size) (hB2 : B2 < w.heap.size) (h1 : w.cell? ⟨B1,0,none⟩ = some (.int .u8 a1)) (h2 : w.cell? ⟨B2,0,none⟩ = some (.int .u32 a2)) :
 ∀ (W : World) (x : S67),Below w.heap.size w W → Calls Tryz.prog 89 (#[.agg #[.int .u8 x.f0,.int .u32 x.f1,.int .u32 x.f2]] ++ #[.pointer (some ⟨B1,0,none⟩),.pointer (some ⟨B2,0,none⟩)]) W fun e w'=>e = .returned (.bool (inRun a1 a2 x)) ∧ Below W.heap.size W w':=fun W x hb=>by
 have c1 : W.cell? ⟨B1,0,none⟩ = some (.int .u8 a1):=(hb.cell (p:=⟨B1,0,none⟩) hB1).trans h1
 have c2 : W.cell? ⟨B2,0,none⟩ = some (.int .u32 a2):=(hb.cell (p:=⟨B2,0,none⟩) hB2).trans h2
 have n1 : B1 < W.heap.size:=Nat.lt_of_lt_of_le hB1 hb.size
 have n2 : B2 < W.heap.size:=Nat.lt_of_lt_of_le hB2 hb.size
 have e1 : B1 ≠ W.heap.size:=by omega
 have e2 : B2 ≠ W.heap.size:=by omega
 clear hb h1 h2 hB1 hB2
 obtain ⟨f0,f1,f2⟩:=x
 show Calls Tryz.prog 89 #[.agg #[.int .u8 f0,.int .u32 f1,.int .u32 f2],.pointer (some ⟨B1,0,none⟩),.pointer (some ⟨B2,0,none⟩)] W _
 have hu:=Tryz.underlying67
 unfold inRun
 dsimp only
 by_cases p1 : f0 = a1
 ·subst p1
  by_cases p2 : f1 ≤ a2
  ·by_cases p3 : a2 ≤ f2
   ·go_enter Tryz.func89,Tryz.ntmps89
    go_wp2
    go_ret
    exact ⟨by simp [p2,p3],(Below.refl _ _).alloc (Nat.le_refl _) _⟩
   ·go_enter Tryz.func89,Tryz.ntmps89
    go_wp2
    go_ret
    exact ⟨by simp [p2,p3],(Below.refl _ _).alloc (Nat.le_refl _) _⟩
  ·go_enter Tryz.func89,Tryz.ntmps89
   go_wp2
   go_ret
   exact ⟨by (simp;try (intros;omega)),(Below.refl _ _).alloc (Nat.le_refl _) _⟩
 ·go_enter Tryz.func89,Tryz.ntmps89
  go_wp2
  go_ret
  exact ⟨by simp [p1],(Below.refl _ _).alloc (Nat.le_refl _) _⟩
set_option maxHeartbeats 8000000 in
set_option maxRecDepth 100000 in
theorem know_Has.calls (k : Nat) (A0 : Option Addr) (c0 : Nat) (l0 : List (S67)) (a1 : Int) (a2 : Int) (r : Bool) (w : World) (hr0 : Kd.C k67 w A0 l0.length l0) (hc0 : l0.length ≤ c0) (h : know_Has.f k l0 a1 a2 = some r) :
 Calls Tryz.prog 57 #[.slice A0 l0.length c0,.int .u8 a1,.int .u32 a2] w fun e w'=>e = .returned (.bool r) ∧ Below w.heap.size w w':=by
 have eg : ∀ args w,(callFunc 89 args).run Tryz.prog w = .ok (.enter 89 args) w:=enters_of Tryz.func89 (by kernel_rfl) rfl
 have hmf : ∀ (fn : Fn) (first cap : Array Value) (w : World),(Instr.makeFunc fn first cap).run Tryz.prog w = .ok (.func fn first cap) w:=fun _ _ _ _=>rfl
 unfold know_Has.f at h
 replace h:=Option.bind_eq_some_iff.mp h
 obtain ⟨b,hb,h⟩:=h
 obtain rfl:=Option.some.inj h
 clear h
 have HA:=Aside0.mk hb
 have HR:=Aside0.mk hr0
 have HC:=Aside0.mk hc0
 clear hb hr0 hc0
 have EG:=Aside0.mk eg
 clear eg
 cases b with
 | false =>
  go_enter Tryz.func57,Tryz.ntmps57
  go_wp2_with (go_at_call 50;refine (know_Right.calls k _ _ l0 false _ (Kd.C_alloc (Kd.C_alloc HR.out _) _) HC.out HA.out).mono ?_;rintro e w1 ⟨rfl,hb1⟩)
  go_ret
  exact ⟨rfl,(((Below.refl _ w).alloc (Nat.le_refl _) _).alloc (by simp) _).trans (hb1.mono (by simp;omega))⟩
 | true =>
  go_enter Tryz.func57,Tryz.ntmps57
  go_wp2_with (go_at_call 50;refine (know_Right.calls k _ _ l0 true _ (Kd.C_alloc (Kd.C_alloc HR.out _) _) HC.out HA.out).mono ?_;rintro e w1 ⟨rfl,hb1⟩)
  refine (slices_ContainsFunc_Run.calls (inRun a1 a2) 89 #[.pointer (some ⟨w.heap.size,0,none⟩),.pointer (some ⟨w.heap.size + 1,0,none⟩)] EG.out A0 c0 l0 _ (Kd.C_below (Kd.C_alloc (Kd.C_alloc HR.out _) _) hb1) (know_Has.pred a1 a2 w.heap.size (w.heap.size + 1) w1 ?_ ?_ ?_ ?_)).mono ?_
  ·have:=hb1.size;simp at this;omega
  ·have:=hb1.size;simp at this;omega
  ·exact (hb1.cell (p:=⟨w.heap.size,0,none⟩) (by simp;omega)).trans (by simp)
  ·exact (hb1.cell (p:=⟨w.heap.size + 1,0,none⟩) (by simp)).trans (by simp)
  rintro e w2 ⟨rfl,hb2⟩
  go_wp2
  go_ret
  exact ⟨by simp,((((Below.refl _ w).alloc (Nat.le_refl _) _).alloc (by simp) _).trans (hb1.mono (by simp;omega))).trans (hb2.mono (by have:=hb1.size;simp at this;omega))⟩
end Go.Proofs.YtiminjibcafkaaaGreatDoor.X
end
section
-- MADE BY wip/prx.py (the kit's printer, with contracts proved by hand). Not trusted: Lean checks it.
namespace Go.Proofs.YtiminjibcafkaaaGreatDoor.X
open Go.RowKit Go.Proofs.YtiminjibcafkaaaGreatDoorW.PrintWords Go.Proofs.YtiminjibcafkaaaGreatDoorW.PrintLast Go.Proofs.YtiminjibcafkaaaGreatDoorW.PrintMore
attribute [local go_sem] max2_int min2_int max_two min_two max_three min_three max_four min_four   -- for this text's walks alone
set_option linter.unusedVariables false
set_option linter.unusedSimpArgs false
/-! ### item_entry: function 86 -/
def item_entry.f (a0_0 : Int) (a0_1 : Int) (a0_2 : Int) (a0_3 : Int) (a0_4 : Int) (a0_5 : Int) (a0_6 : Int) : Option (Bool):=if a0_4 = 1 then (if ((a0_5) % 4294967296) = (Int.tmod a0_6 8) then ((item_RightVer.f a0_1 a0_2 a0_3).bind fun t111=>(if t111 = true then (some (decide (a0_0 < 64))) else (some false))) else (some false)) else (if a0_4 = 3 then (if a0_5 = 0 then (if a0_5 ≥ 8 then (some false) else (if a0_6 = 0 then ((item_RightVer.f a0_1 a0_2 a0_3).bind fun t113=>(if t113 = true then (some (decide (a0_0 < 64))) else (some false))) else (some false))) else (some false)) else (if a0_4 = 2 then (if a0_5 ≥ 8 then (some false) else (if a0_6 = 0 then ((item_RightVer.f a0_1 a0_2 a0_3).bind fun t112=>(if t112 = true then (some (decide (a0_0 < 64))) else (some false))) else (some false))) else (some false)))
set_option maxHeartbeats 8000000 in
set_option maxRecDepth 100000 in
theorem item_entry.calls (a0_0 : Int) (a0_1 : Int) (a0_2 : Int) (a0_3 : Int) (a0_4 : Int) (a0_5 : Int) (a0_6 : Int) (r : Bool) (w : World) (h : item_entry.f a0_0 a0_1 a0_2 a0_3 a0_4 a0_5 a0_6 = some r) :
 Calls Tryz.prog 86 #[.agg #[.int .u8 a0_0,.int .u8 a0_1,.int .u32 a0_2,.int .u32 a0_3,.int .i64 a0_4,.int .u8 a0_5,.int .u32 a0_6]] w fun e w'=>e = .returned (.bool r) ∧ Below w.heap.size w w':=by
 have hu62:=Tryz.underlying62
 have hu60:=Tryz.underlying60
 have H:=Aside0.mk h
 clear h
 go_enter Tryz.func86,Tryz.ntmps86
 go_wp2_with (first | (go_at_call 113;rcases hv0 : item_RightVer.f a0_1 a0_2 a0_3 with _ | v_;(focus (exfalso;have h_:=H.out;first | (simp [*,item_entry.f] at h_;done) | ((simp only [item_entry.f,hv0,Option.bind_none] at h_;repeat' (split at h_))<;>first | (exfalso;omega) | (simp at h_;done) | (simp_all;done))));(refine (item_RightVer.calls a0_1 a0_2 a0_3 v_ _  hv0).mono ?_);rintro e w1_ ⟨rfl,hx_⟩;have hx:=hx_;have B0_:=blk_below (blk_new _ _) hx;obtain ⟨u0_0,u0_1,u0_2,u0_3,u0_4,u0_5,u0_6⟩:=cells7 B0_;cases v_))
 all_goals (try go_ret)
 all_goals (have h:=H.out;clear H;simp only [item_entry.f] at h)
 all_goals (refine ⟨?_,by first | ((repeat (first | exact Below.refl _ _ | refine Below.alloc ?_ (by first | exact Nat.le_refl _ | (simp;done) | (simp;omega)) _));done) | (refine below_step ?_ hx;(repeat (first | exact Below.refl _ _ | refine Below.alloc ?_ (by first | exact Nat.le_refl _ | (simp;done) | (simp;omega)) _));done)⟩)
 all_goals (try simp only [beq_iff_eq,bne_iff_ne,beq_eq_false_iff_ne,bne_eq_false_iff_eq,Bool.not_eq_true',Bool.not_eq_false'] at *)
 all_goals ((try simp only [hv0,Option.bind_some] at h);first | (simp [*] at h;simp [*];done) | (simp [*] at h;simp [← h];done) | (simp [*] at h;subst h;first | rfl | (simp;done)) | (simp [*] at h ⊢;done) | (simp [*] at h;rw [← h];first | rfl | (simp [*];done)) | (simp [*] at h;simp [h];done) | ((repeat' (split at h))<;>first | (exfalso;omega) | (exfalso;simp_all;done) | (simp [*] at h;subst h;simp [*];done) | (simp [*] at h;simp [*,← h];done) | (simp [*] at h;simp [h];done) | (simp [*] at h;subst h;simp;omega) | (simp at h;subst h;simp [*];done) | (simp at h;subst h;rfl) | (simp at h;obtain ⟨h1_,h2_⟩:=h;subst h1_;subst h2_;first | rfl | (simp [*];done)) | (simp at h;rw [← h];first | rfl | (simp [*];done))))
end Go.Proofs.YtiminjibcafkaaaGreatDoor.X
end
section
-- MADE BY wip/prx.py (the kit's printer, with contracts proved by hand). Not trusted: Lean checks it.
namespace Go.Proofs.YtiminjibcafkaaaGreatDoor.X
open Go.RowKit Go.Proofs.YtiminjibcafkaaaGreatDoorW.PrintWords Go.Proofs.YtiminjibcafkaaaGreatDoorW.PrintLast Go.Proofs.YtiminjibcafkaaaGreatDoorW.PrintMore
attribute [local go_sem] max2_int min2_int max_two min_two max_three min_three max_four min_four   -- for this text's walks alone
set_option linter.unusedVariables false
set_option linter.unusedSimpArgs false
/-! ### replica_session: function 52 -/
def replica_session.f (k : Nat) (a0_0 : Bool) (a0_1 : Int) (a0_2 : Int) (a0_3 : Int) (a0_4 : Int) (l0_5 : List (S67)) (a0_6 : Int) (a1 : Int) : Option (Bool):=if a0_0 = true then (if a0_3 = 0 then (if a0_4 = 0 then (if (l0_5.length : Int) > 0 then (some false) else ((know_Right.f k l0_5).bind fun t119=>(if t119 = true then (if a0_1 ≥ 1 then (if a0_1 ≤ a0_6 then (if a0_2 < 8 then (if a0_2 = a1 then (some false) else (some (decide (a0_3 < 64)))) else (some false)) else (some false)) else (some false)) else (some false)))) else (some false)) else ((know_Right.f k l0_5).bind fun t120=>(if t120 = true then (if a0_1 ≥ 1 then (if a0_1 ≤ a0_6 then (if a0_2 < 8 then (if a0_2 = a1 then (some false) else (some (decide (a0_3 < 64)))) else (some false)) else (some false)) else (some false)) else (some false)))) else (if a0_1 = 0 then (if a0_2 = 0 then (if a0_3 = 0 then (if a0_4 = 0 then (some ((l0_5.length : Int) == 0)) else (some false)) else (some false)) else (some false)) else (some false))
set_option maxHeartbeats 8000000 in
set_option maxRecDepth 100000 in
theorem replica_session.calls (k : Nat) (a0_0 : Bool) (a0_1 : Int) (a0_2 : Int) (a0_3 : Int) (a0_4 : Int) (A0_5 : Option Addr) (c0_5 : Nat) (l0_5 : List (S67)) (a0_6 : Int) (a1 : Int) (r : Bool) (w : World) (hr0_5 : Kd.C k67 w A0_5 l0_5.length l0_5) (hc0_5 : l0_5.length ≤ c0_5) (h : replica_session.f k a0_0 a0_1 a0_2 a0_3 a0_4 l0_5 a0_6 a1 = some r) :
 Calls Tryz.prog 52 #[.agg #[.bool a0_0,.int .u32 a0_1,.int .u8 a0_2,.int .u8 a0_3,.int .u32 a0_4,.slice A0_5 l0_5.length c0_5,.int .u32 a0_6],.int .u8 a1] w fun e w'=>e = .returned (.bool r) ∧ Below w.heap.size w w':=by
 have hu26:=Tryz.underlying26
 have HR0_5':=Aside0.mk hr0_5
 have HC0_5':=Aside0.mk hc0_5
 clear hr0_5 hc0_5
 have H:=Aside0.mk h
 clear h
 go_enter Tryz.func52,Tryz.ntmps52
 go_wp2_with (first | (go_at_call 50;rcases hv0 : know_Right.f k l0_5 with _ | v_;(focus (exfalso;have h_:=H.out;first | (simp [*,replica_session.f] at h_;done) | ((simp only [replica_session.f,hv0,Option.bind_none] at h_;repeat' (split at h_))<;>first | (exfalso;omega) | (simp at h_;done) | (simp_all;done))));(refine (know_Right.calls k _ _ l0_5 v_ _ (Kd.C_below HR0_5'.out (by repeat (first | exact Below.refl _ _ | refine Below.alloc ?_ (by first | exact Nat.le_refl _ | (simp;done) | (simp;omega)) _))) HC0_5'.out hv0).mono ?_);rintro e w1_ ⟨rfl,hx_⟩;have hx:=hx_;have B0_:=blk_below (blk_new _ _) hx;obtain ⟨u0_0,u0_1,u0_2,u0_3,u0_4,u0_5,u0_6⟩:=cells7 B0_;cases v_))
 all_goals (try go_ret)
 all_goals (have h:=H.out;clear H;simp only [replica_session.f] at h)
 all_goals (refine ⟨?_,by first | ((repeat (first | exact Below.refl _ _ | refine Below.alloc ?_ (by first | exact Nat.le_refl _ | (simp;done) | (simp;omega)) _));done) | (refine below_step ?_ hx;(repeat (first | exact Below.refl _ _ | refine Below.alloc ?_ (by first | exact Nat.le_refl _ | (simp;done) | (simp;omega)) _));done)⟩)
 all_goals (try simp only [beq_iff_eq,bne_iff_ne,beq_eq_false_iff_ne,bne_eq_false_iff_eq,Bool.not_eq_true',Bool.not_eq_false'] at *)
 all_goals ((try simp only [hv0,Option.bind_some] at h);first | (simp [*] at h;simp [*];done) | (simp [*] at h;simp [← h];done) | (simp [*] at h;subst h;first | rfl | (simp;done)) | (simp [*] at h ⊢;done) | (simp [*] at h;rw [← h];first | rfl | (simp [*];done)) | (simp [*] at h;simp [h];done) | ((repeat' (split at h))<;>first | (exfalso;omega) | (exfalso;simp_all;done) | (simp [*] at h;subst h;simp [*];done) | (simp [*] at h;simp [*,← h];done) | (simp [*] at h;simp [h];done) | (simp [*] at h;subst h;simp;omega) | (simp at h;subst h;simp [*];done) | (simp at h;subst h;rfl) | (simp at h;obtain ⟨h1_,h2_⟩:=h;subst h1_;subst h2_;first | rfl | (simp [*];done)) | (simp at h;rw [← h];first | rfl | (simp [*];done))))
end Go.Proofs.YtiminjibcafkaaaGreatDoor.X
end
section
-- MADE BY wip/prx.py (the kit's printer, with contracts proved by hand). Not trusted: Lean checks it.
namespace Go.Proofs.YtiminjibcafkaaaGreatDoor.X
open Go.RowKit Go.Proofs.YtiminjibcafkaaaGreatDoorW.PrintWords Go.Proofs.YtiminjibcafkaaaGreatDoorW.PrintLast Go.Proofs.YtiminjibcafkaaaGreatDoorW.PrintMore
attribute [local go_sem] max2_int min2_int max_two min_two max_three min_three max_four min_four   -- for this text's walks alone
set_option linter.unusedVariables false
set_option linter.unusedSimpArgs false
/-! ### know_Drop: function 95 -/
mutual
def know_Drop.j0 : Nat → List (S67) → Int → Int → Bool → Option ((List (S67)) × Option Int)
 | 0,_,_,_,_=>none
 | k + 1,x0,x1,x2,x21=>if x21 = true then (some (([] : List (S67)),some 9)) else (know_Drop.l0 k x1 x2 ([] : List (S67)) x0 (x0.length : Int) 0)
def know_Drop.l0 : Nat → Int → Int → List (S67) → List (S67) → Int → Int → Option ((List (S67)) × Option Int)
 | 0,_,_,_,_,_,_=>none
 | k + 1,x1,x2,x8,x23,x24,x25=>if x25 < x24 then (if 0 ≤ x25 then (if x25 < (x23.length : Int) then (if ((rd_T67 x23 x25).f0) = x1 then (if x2 < ((rd_T67 x23 x25).f1) then (know_Drop.j2 k x1 x2 x8 x23 x24 x25 true ((rd_T67 x23 x25).f0) ((rd_T67 x23 x25).f1) ((rd_T67 x23 x25).f2)) else (know_Drop.j2 k x1 x2 x8 x23 x24 x25 (decide (x2 > ((rd_T67 x23 x25).f2))) ((rd_T67 x23 x25).f0) ((rd_T67 x23 x25).f1) ((rd_T67 x23 x25).f2))) else (know_Drop.j2 k x1 x2 x8 x23 x24 x25 true ((rd_T67 x23 x25).f0) ((rd_T67 x23 x25).f1) ((rd_T67 x23 x25).f2))) else (none)) else (none)) else (if (x8.length : Int) > 64 then (some (([] : List (S67)),some 5)) else (some (x8,none)))
def know_Drop.j2 : Nat → Int → Int → List (S67) → List (S67) → Int → Int → Bool → Int → Int → Int → Option ((List (S67)) × Option Int)
 | 0,_,_,_,_,_,_,_,_,_,_=>none
 | k + 1,x1,x2,x8,x23,x24,x25,x44,x443000,x443001,x443002=>if x44 = true then (if x8.length < 11728124029610 then (know_Drop.l0 k x1 x2 (x8 ++ [(⟨x443000,x443001,x443002⟩ : S67)]) x23 x24 (wrap64 (x25 + 1))) else (none)) else (if x443001 < x2 then (if x8.length < 11728124029610 then ((some (x8 ++ [(⟨x1,x443001,(x2 - 1) % 4294967296⟩ : S67)] : List (S67))).bind fun y446=>(if x2 < x443002 then (if y446.length < 11728124029610 then (know_Drop.l0 k x1 x2 (y446 ++ [(⟨x1,(x2 + 1) % 4294967296,x443002⟩ : S67)]) x23 x24 (wrap64 (x25 + 1))) else (none)) else (know_Drop.l0 k x1 x2 y446 x23 x24 (wrap64 (x25 + 1))))) else (none)) else (if x2 < x443002 then (if x8.length < 11728124029610 then (know_Drop.l0 k x1 x2 (x8 ++ [(⟨x1,(x2 + 1) % 4294967296,x443002⟩ : S67)]) x23 x24 (wrap64 (x25 + 1))) else (none)) else (know_Drop.l0 k x1 x2 x8 x23 x24 (wrap64 (x25 + 1)))))
end
def know_Drop.f (k : Nat) (l0 : List (S67)) (a1 : Int) (a2 : Int) : Option ((List (S67)) × Option Int):=(know_Right.f k l0).bind fun t439=>(if t439 = true then ((know_run.f a1 a2 a2).bind fun t440=>(know_Drop.j0 k l0 a1 a2 (!t440))) else (know_Drop.j0 k l0 a1 a2 true))
end Go.Proofs.YtiminjibcafkaaaGreatDoor.X
end
