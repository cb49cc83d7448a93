/- Texts that this claim's law comes to, joined by wip/slim.py: Xhtargetunmade, Xlexst, Xoffs. -/
import Derived.Test.YtiminjibcafkaaaGreatDoorTBJ4
import Derived.Test.YtiminjibcafkaaaGreatDoorTBJ5
import Derived.Test.YtiminjibcafkaaaGreatDoorTBJ6
import Derived.Deep.QuietTactic
import Derived.Test.YtiminjibcafkaaaGreatDoorTBJ7
section
-- MADE BY wip/prx.py (the kit's printer, with contracts proved by hand). Not trusted: Lean checks it.
namespace Go.Proofs.YtiminjibcafkaaaGreatDoor.X
open Go.RowKit Go.Proofs.YtiminjibcafkaaaGreatDoorW.PrintWords Go.Proofs.YtiminjibcafkaaaGreatDoorW.PrintLast Go.Proofs.YtiminjibcafkaaaGreatDoorW.PrintMore
attribute [local go_sem] max2_int min2_int max_two min_two max_three min_three max_four min_four   -- for this text's walks alone
set_option linter.unusedVariables false
set_option linter.unusedSimpArgs false
--EXT 
/-! ### target_unmade: function 31, by hand -/
/-- Is it a replica's own, beyond what it made? -/
def ownE (rep seq : Int) (x : S62) : Bool:=decide (x.f1.f0 = rep) && decide (seq < x.f1.f1)
def ownR (rep seq : Int) (x : S67) : Bool:=decide (x.f0 = rep) && decide (seq < x.f2)
/-- target.unmade. -/
def target_unmade.f (a0_0 a0_1 a0_2 a0_3 : Int) (l0_4 : List S67) (l0_5 : List S62) (a0_6 : Bool) (a0_7 a0_8 a0_9 a0_10 : Int) (l0_11 : List S67) (a0_12 a1_0 a1_1 a1_2 a1_3 a1_4 a1_5 : Int) (l1_6 : List S67) (a1_7 : Int) (l1_8 : List S62) (a1_9 : Int) (a1_10 : Bool) (l1_11 : List S67) : Option Bool:=some (l1_8.any (ownE a0_0 a0_3) || l1_11.any (ownR a0_0 a0_3))
theorem target_unmade.predE (rep seq : Int) (B1 : Nat) (w : World) (hB1 : B1 < w.heap.size) (h0 : w.cell? ⟨B1,0,none⟩ = some (.int .u8 rep)) (h3 : w.cell? ⟨B1,3,none⟩ = some (.int .u32 seq)) :
 ∀ (W : World) (x : S62),Below w.heap.size w W → Calls Tryz.prog 72 (#[.agg #[.int .u8 x.f0,.int .u8 x.f1.f0,.int .u32 x.f1.f1,.int .u32 x.f1.f2,.int .i64 x.f2,.int .u8 x.f3,.int .u32 x.f4]] ++ #[.pointer (some ⟨B1,0,none⟩)]) W fun e w'=>e = .returned (.bool (ownE rep seq x)) ∧ Below W.heap.size W w':=fun W x hb=>by
 have c0 : W.cell? ⟨B1,0,none⟩ = some (.int .u8 rep):=(hb.cell (p:=⟨B1,0,none⟩) hB1).trans h0
 have c3 : W.cell? ⟨B1,3,none⟩ = some (.int .u32 seq):=(hb.cell (p:=⟨B1,3,none⟩) hB1).trans h3
 have n1 : B1 < W.heap.size:=Nat.lt_of_lt_of_le hB1 hb.size
 have e1 : B1 ≠ W.heap.size:=by omega
 clear hb h0 h3 hB1
 obtain ⟨f0,⟨g0,g1,g2⟩,f2,f3,f4⟩:=x
 show Calls Tryz.prog 72 #[.agg #[.int .u8 f0,.int .u8 g0,.int .u32 g1,.int .u32 g2,.int .i64 f2,.int .u8 f3,.int .u32 f4],.pointer (some ⟨B1,0,none⟩)] W _
 have hu:=Tryz.underlying62
 have hu2:=Tryz.underlying28
 unfold ownE
 dsimp only
 have C0 : (W.alloc (.cells #[.int .u8 f0,.int .u8 g0,.int .u32 g1,.int .u32 g2,.int .i64 f2,.int .u8 f3,.int .u32 f4] 62)).cell? ⟨B1,0,none⟩ = some (.int .u8 rep):=(((Below.refl _ W).alloc (Nat.le_refl _) _).cell (p:=⟨B1,0,none⟩) n1).trans c0
 have C3 : (W.alloc (.cells #[.int .u8 f0,.int .u8 g0,.int .u32 g1,.int .u32 g2,.int .i64 f2,.int .u8 f3,.int .u32 f4] 62)).cell? ⟨B1,3,none⟩ = some (.int .u32 seq):=(((Below.refl _ W).alloc (Nat.le_refl _) _).cell (p:=⟨B1,3,none⟩) n1).trans c3
 by_cases p1 : g0 = rep
 ·subst p1
  by_cases p2 : seq < g1
  ·have p2a : decide (g1 > seq) = true:=decide_eq_true p2
   have p2b : decide (seq < g1) = true:=decide_eq_true p2
   go_enter Tryz.func72,Tryz.ntmps72
   go_wp2
   go_ret
   exact ⟨by simp [p2],(Below.refl _ _).alloc (Nat.le_refl _) _⟩
  ·have p2a : decide (g1 > seq) = false:=decide_eq_false p2
   have p2b : decide (seq < g1) = false:=decide_eq_false p2
   go_enter Tryz.func72,Tryz.ntmps72
   go_wp2
   go_ret
   exact ⟨by simp [p2],(Below.refl _ _).alloc (Nat.le_refl _) _⟩
 ·have p1a : decide (g0 = rep) = false:=decide_eq_false p1
  have p1b : (g0 == rep) = false:=by simp [p1]
  go_enter Tryz.func72,Tryz.ntmps72
  go_wp2
  go_ret
  exact ⟨by simp [p1],(Below.refl _ _).alloc (Nat.le_refl _) _⟩
theorem target_unmade.predR (rep seq : Int) (B1 : Nat) (w : World) (hB1 : B1 < w.heap.size) (h0 : w.cell? ⟨B1,0,none⟩ = some (.int .u8 rep)) (h3 : w.cell? ⟨B1,3,none⟩ = some (.int .u32 seq)) :
 ∀ (W : World) (x : S67),Below w.heap.size w W → Calls Tryz.prog 73 (#[.agg #[.int .u8 x.f0,.int .u32 x.f1,.int .u32 x.f2]] ++ #[.pointer (some ⟨B1,0,none⟩)]) W fun e w'=>e = .returned (.bool (ownR rep seq x)) ∧ Below W.heap.size W w':=fun W x hb=>by
 have c0 : W.cell? ⟨B1,0,none⟩ = some (.int .u8 rep):=(hb.cell (p:=⟨B1,0,none⟩) hB1).trans h0
 have c3 : W.cell? ⟨B1,3,none⟩ = some (.int .u32 seq):=(hb.cell (p:=⟨B1,3,none⟩) hB1).trans h3
 have n1 : B1 < W.heap.size:=Nat.lt_of_lt_of_le hB1 hb.size
 have e1 : B1 ≠ W.heap.size:=by omega
 clear hb h0 h3 hB1
 obtain ⟨f0,f1,f2⟩:=x
 show Calls Tryz.prog 73 #[.agg #[.int .u8 f0,.int .u32 f1,.int .u32 f2],.pointer (some ⟨B1,0,none⟩)] W _
 have hu:=Tryz.underlying67
 have hu2:=Tryz.underlying28
 unfold ownR
 dsimp only
 have C0 : (W.alloc (.cells #[.int .u8 f0,.int .u32 f1,.int .u32 f2] 67)).cell? ⟨B1,0,none⟩ = some (.int .u8 rep):=(((Below.refl _ W).alloc (Nat.le_refl _) _).cell (p:=⟨B1,0,none⟩) n1).trans c0
 have C3 : (W.alloc (.cells #[.int .u8 f0,.int .u32 f1,.int .u32 f2] 67)).cell? ⟨B1,3,none⟩ = some (.int .u32 seq):=(((Below.refl _ W).alloc (Nat.le_refl _) _).cell (p:=⟨B1,3,none⟩) n1).trans c3
 by_cases p1 : f0 = rep
 ·subst p1
  by_cases p2 : seq < f2
  ·have p2a : decide (f2 > seq) = true:=decide_eq_true p2
   have p2b : decide (seq < f2) = true:=decide_eq_true p2
   go_enter Tryz.func73,Tryz.ntmps73
   go_wp2
   go_ret
   exact ⟨by simp [p2],(Below.refl _ _).alloc (Nat.le_refl _) _⟩
  ·have p2a : decide (f2 > seq) = false:=decide_eq_false p2
   have p2b : decide (seq < f2) = false:=decide_eq_false p2
   go_enter Tryz.func73,Tryz.ntmps73
   go_wp2
   go_ret
   exact ⟨by simp [p2],(Below.refl _ _).alloc (Nat.le_refl _) _⟩
 ·have p1a : decide (f0 = rep) = false:=decide_eq_false p1
  have p1b : (f0 == rep) = false:=by simp [p1]
  go_enter Tryz.func73,Tryz.ntmps73
  go_wp2
  go_ret
  exact ⟨by simp [p1],(Below.refl _ _).alloc (Nat.le_refl _) _⟩
set_option maxHeartbeats 8000000 in
set_option maxRecDepth 100000 in
theorem target_unmade.calls (a0_0 : Int) (a0_1 : Int) (a0_2 : Int) (a0_3 : Int) (A0_4 : Option Addr) (c0_4 : Nat) (l0_4 : List (S67)) (A0_5 : Option Addr) (c0_5 : Nat) (l0_5 : List (S62)) (a0_6 : Bool) (a0_7 : Int) (a0_8 : Int) (a0_9 : Int) (a0_10 : Int) (A0_11 : Option Addr) (c0_11 : Nat) (l0_11 : List (S67)) (a0_12 : Int) (a1_0 : Int) (a1_1 : Int) (a1_2 : Int) (a1_3 : Int) (a1_4 : Int) (a1_5 : Int) (A1_6 : Option Addr) (c1_6 : Nat) (l1_6 : List (S67)) (a1_7 : Int) (A1_8 : Option Addr) (c1_8 : Nat) (l1_8 : List (S62)) (a1_9 : Int) (a1_10 : Bool) (A1_11 : Option Addr) (c1_11 : Nat) (l1_11 : List (S67)) (r : Bool) (w : World) (hr0_4 : Kd.C k67 w A0_4 l0_4.length l0_4) (hc0_4 : l0_4.length ≤ c0_4) (hr0_5 : Kd.C k62 w A0_5 l0_5.length l0_5) (hc0_5 : l0_5.length ≤ c0_5) (hr0_11 : Kd.C k67 w A0_11 l0_11.length l0_11) (hc0_11 : l0_11.length ≤ c0_11) (hr1_6 : Kd.C k67 w A1_6 l1_6.length l1_6) (hc1_6 : l1_6.length ≤ c1_6) (hr1_8 : Kd.C k62 w A1_8 l1_8.length l1_8) (hc1_8 : l1_8.length ≤ c1_8) (hr1_11 : Kd.C k67 w A1_11 l1_11.length l1_11) (hc1_11 : l1_11.length ≤ c1_11) (h : target_unmade.f a0_0 a0_1 a0_2 a0_3 l0_4 l0_5 a0_6 a0_7 a0_8 a0_9 a0_10 l0_11 a0_12 a1_0 a1_1 a1_2 a1_3 a1_4 a1_5 l1_6 a1_7 l1_8 a1_9 a1_10 l1_11 = some r) :
 Calls Tryz.prog 31 #[.agg #[.int .u8 a0_0,.int .u8 a0_1,.int .u32 a0_2,.int .u32 a0_3,.slice A0_4 l0_4.length c0_4,.slice A0_5 l0_5.length c0_5,.bool a0_6,.int .u32 a0_7,.int .u8 a0_8,.int .u8 a0_9,.int .u32 a0_10,.slice A0_11 l0_11.length c0_11,.int .u32 a0_12],.agg #[.int .i64 a1_0,.int .u8 a1_1,.int .u8 a1_2,.int .u32 a1_3,.int .u8 a1_4,.int .u8 a1_5,.slice A1_6 l1_6.length c1_6,.int .u32 a1_7,.slice A1_8 l1_8.length c1_8,.int .u8 a1_9,.bool a1_10,.slice A1_11 l1_11.length c1_11]] w fun e w'=>e = .returned (.bool r) ∧ Below w.heap.size w w':=by
 have hmf : ∀ (fn : Fn) (first cap : Array Value) (w : World),(Instr.makeFunc fn first cap).run Tryz.prog w = .ok (.func fn first cap) w:=fun _ _ _ _=>rfl
 have huR:=Tryz.underlying28
 have huN:=Tryz.underlying30
 have huE:=Tryz.underlying62
 have HR4:=Aside0.mk hr0_4
 have HR5:=Aside0.mk hr0_5
 have HR11:=Aside0.mk hr0_11
 have HN6:=Aside0.mk hr1_6
 have HN8:=Aside0.mk hr1_8
 have HN11:=Aside0.mk hr1_11
 have HC5:=Aside0.mk hc0_5
 have HD8:=Aside0.mk hc1_8
 have HD11:=Aside0.mk hc1_11
 clear hr0_4 hr0_5 hr0_11 hr1_6 hr1_8 hr1_11 hc0_4 hc0_5 hc0_11 hc1_6 hc1_8 hc1_11
 have EG1:=Aside0.mk (show ∀ args w,(callFunc 72 args).run Tryz.prog w = .ok (.enter 72 args) w from enters_of Tryz.func72 (by kernel_rfl) rfl)
 have EG2:=Aside0.mk (show ∀ args w,(callFunc 73 args).run Tryz.prog w = .ok (.enter 73 args) w from enters_of Tryz.func73 (by kernel_rfl) rfl)
 unfold target_unmade.f at h
 have HL:=Aside0.mk (Option.some.inj h)
 clear h
 go_enter Tryz.func31,Tryz.ntmps31
 go_wp2_with fail
 have B0:=Aside0.mk (blk_alloc (blk_new w (.cells #[.int .u8 a0_0,.int .u8 a0_1,.int .u32 a0_2,.int .u32 a0_3,.slice A0_4 l0_4.length c0_4,.slice A0_5 l0_5.length c0_5,.bool a0_6,.int .u32 a0_7,.int .u8 a0_8,.int .u8 a0_9,.int .u32 a0_10,.slice A0_11 l0_11.length c0_11,.int .u32 a0_12] 28)) (.cells #[.int .i64 a1_0,.int .u8 a1_1,.int .u8 a1_2,.int .u32 a1_3,.int .u8 a1_4,.int .u8 a1_5,.slice A1_6 l1_6.length c1_6,.int .u32 a1_7,.slice A1_8 l1_8.length c1_8,.int .u8 a1_9,.bool a1_10,.slice A1_11 l1_11.length c1_11] 30))
 have P0:=Aside0.mk (show ((w.alloc (.cells #[.int .u8 a0_0,.int .u8 a0_1,.int .u32 a0_2,.int .u32 a0_3,.slice A0_4 l0_4.length c0_4,.slice A0_5 l0_5.length c0_5,.bool a0_6,.int .u32 a0_7,.int .u8 a0_8,.int .u8 a0_9,.int .u32 a0_10,.slice A0_11 l0_11.length c0_11,.int .u32 a0_12] 28)).alloc (.cells #[.int .i64 a1_0,.int .u8 a1_1,.int .u8 a1_2,.int .u32 a1_3,.int .u8 a1_4,.int .u8 a1_5,.slice A1_6 l1_6.length c1_6,.int .u32 a1_7,.slice A1_8 l1_8.length c1_8,.int .u8 a1_9,.bool a1_10,.slice A1_11 l1_11.length c1_11] 30)).heap[w.heap.size + 1]? = some (.cells #[.int .i64 a1_0,.int .u8 a1_1,.int .u8 a1_2,.int .u32 a1_3,.int .u8 a1_4,.int .u8 a1_5,.slice A1_6 l1_6.length c1_6,.int .u32 a1_7,.slice A1_8 l1_8.length c1_8,.int .u8 a1_9,.bool a1_10,.slice A1_11 l1_11.length c1_11] 30 (0,0)) by simpa using blk_new (w.alloc (.cells #[.int .u8 a0_0,.int .u8 a0_1,.int .u32 a0_2,.int .u32 a0_3,.slice A0_4 l0_4.length c0_4,.slice A0_5 l0_5.length c0_5,.bool a0_6,.int .u32 a0_7,.int .u8 a0_8,.int .u8 a0_9,.int .u32 a0_10,.slice A0_11 l0_11.length c0_11,.int .u32 a0_12] 28)) (.cells #[.int .i64 a1_0,.int .u8 a1_1,.int .u8 a1_2,.int .u32 a1_3,.int .u8 a1_4,.int .u8 a1_5,.slice A1_6 l1_6.length c1_6,.int .u32 a1_7,.slice A1_8 l1_8.length c1_8,.int .u8 a1_9,.bool a1_10,.slice A1_11 l1_11.length c1_11] 30))
 have HB0:=Aside0.mk (((Below.refl _ w).alloc (Nat.le_refl _) (.cells #[.int .u8 a0_0,.int .u8 a0_1,.int .u32 a0_2,.int .u32 a0_3,.slice A0_4 l0_4.length c0_4,.slice A0_5 l0_5.length c0_5,.bool a0_6,.int .u32 a0_7,.int .u8 a0_8,.int .u8 a0_9,.int .u32 a0_10,.slice A0_11 l0_11.length c0_11,.int .u32 a0_12] 28)).alloc (by simp) (.cells #[.int .i64 a1_0,.int .u8 a1_1,.int .u8 a1_2,.int .u32 a1_3,.int .u8 a1_4,.int .u8 a1_5,.slice A1_6 l1_6.length c1_6,.int .u32 a1_7,.slice A1_8 l1_8.length c1_8,.int .u8 a1_9,.bool a1_10,.slice A1_11 l1_11.length c1_11] 30))
 generalize (w.alloc (.cells #[.int .u8 a0_0,.int .u8 a0_1,.int .u32 a0_2,.int .u32 a0_3,.slice A0_4 l0_4.length c0_4,.slice A0_5 l0_5.length c0_5,.bool a0_6,.int .u32 a0_7,.int .u8 a0_8,.int .u8 a0_9,.int .u32 a0_10,.slice A0_11 l0_11.length c0_11,.int .u32 a0_12] 28)).alloc (.cells #[.int .i64 a1_0,.int .u8 a1_1,.int .u8 a1_2,.int .u32 a1_3,.int .u8 a1_4,.int .u8 a1_5,.slice A1_6 l1_6.length c1_6,.int .u32 a1_7,.slice A1_8 l1_8.length c1_8,.int .u8 a1_9,.bool a1_10,.slice A1_11 l1_11.length c1_11] 30) = w0 at B0 P0 HB0 ⊢
 have hc1:=slices_ContainsFunc_Entry.calls (ownE a0_0 a0_3) 72 #[.pointer (some ⟨w.heap.size,0,none⟩)] EG1.out _ c1_8 l1_8 w0 (Kd.C_below HN8.out HB0.out) (target_unmade.predE a0_0 a0_3 w.heap.size w0 (blk_lt B0.out) ((blk_cell B0.out 0).trans rfl) ((blk_cell B0.out 3).trans rfl))
 have hLL:=HL.out
 clear HL
 generalize l1_8.any (ownE a0_0 a0_3) = b1 at hc1 hLL
 refine hc1.mono ?_
 rintro e w1 ⟨rfl,hx⟩
 clear hc1
 have B1:=Aside0.mk (blk_below B0.out hx)
 have P1:=Aside0.mk (blk_below P0.out hx)
 have HB1:=Aside0.mk (below_step HB0.out hx)
 clear hx B0 P0 HB0
 cases b1 with
 | true =>
  obtain rfl : true = r:=hLL
  go_wp2_with fail
  go_ret
  exact ⟨rfl,HB1.out⟩
 | false =>
  rw [Bool.false_or] at hLL
  have HN:=Aside0.mk hLL
  clear hLL
  obtain ⟨s0,s1,s2,s3,s4,s5,s6,s7,s8,s9,s10,s11⟩:=cells12 P1.out
  go_wp2_with fail
  have hLL:=HN.out
  clear HN
  have hc2:=slices_ContainsFunc_Run.calls (ownR a0_0 a0_3) 73 #[.pointer (some ⟨w.heap.size,0,none⟩)] EG2.out _ c1_11 l1_11 w1 (Kd.C_below HN11.out HB1.out) (target_unmade.predR a0_0 a0_3 w.heap.size w1 (blk_lt B1.out) ((blk_cell B1.out 0).trans rfl) ((blk_cell B1.out 3).trans rfl))
  generalize l1_11.any (ownR a0_0 a0_3) = b2 at hc2 hLL
  subst hLL
  refine hc2.mono ?_
  rintro e w2 ⟨rfl,hx⟩
  have HB2:=Aside0.mk (below_step HB1.out hx)
  clear hx hc2
  go_wp2_with fail
  go_ret
  exact ⟨rfl,HB2.out⟩
end Go.Proofs.YtiminjibcafkaaaGreatDoor.X
end
section
/- A region that draws its order and that stores: one walk in the text's order, in a class of worlds that tells which operations have been carried out. -/
namespace Go.Proofs.YtiminjibcafkaaaGreatDoor.X
open Go.RowKit Go.Proofs.YtiminjibcafkaaaGreatDoorW.PrintWords Go.Proofs.YtiminjibcafkaaaGreatDoorW.PrintLast Go.Proofs.YtiminjibcafkaaaGreatDoorW.PrintMore
set_option linter.unusedVariables false
section
variable {P : Program} {ops : Array Oper} {md : Region.Mode} {σ : Type} {C : Option σ → Array Bool → World → Prop}
/-- What one operation (number i) does in a world of the class: v is yielded, and what stands behind it is of the class at one more. -/
def LexUpon (P : Program) (C : Array Bool → World → Prop) (L : Array Bool) (i : Nat) (v : Value) : Result Next → Prop
 | .ok (.value u) w'=>u = v ∧ C (L.setIfInBounds i true) w'
 | .ok .skip w'=>undef = v ∧ C (L.setIfInBounds i true) w'
 | .ok (.enter f args) w'=>Calls P f args w' (fun e w''=>e = .returned v ∧ C (L.setIfInBounds i true) w'')
 | _=>False
/-- What is found out by one operation: one call of open value. -/
def LexAsk (P : Program) (C : σ → Array Bool → World → Prop) (L : Array Bool) (i : Nat) (v : σ → Value) : Result Next → Prop
 | .ok (.enter f args) w'=>Calls P f args w' (fun e w''=>∃ s,e = .returned (v s) ∧ C s (L.setIfInBounds i true) w'')
 | _=>False
def LexYields (P : Program) (ops : Array Oper) (C : Option σ → Array Bool → World → Prop) (s0 : Option σ) (o : Oper) (i : Nat) (v : Value) (a : Act) : Prop :=
 (Region.wanted o (yielded ops a.tmps) = true ∧ ∀ s,s0 = none ∨ s = s0 → ∀ L w,L.getD i false = false → C s L w → LexUpon P (C s) L i v ((execOp a.eval o).run P w)) ∨
 (Region.wanted o (yielded ops a.tmps) = false ∧ v = undef ∧ ∀ s,s0 = none ∨ s = s0 → ∀ L w,L.getD i false = false → C s L w → C s (L.setIfInBounds i true) w)
theorem LexYields.some {s0 : Option σ} {o : Oper} {i : Nat} {v : Value} {a : Act} (h : LexYields P ops C none o i v a) : LexYields P ops C s0 o i v a:=by
 rcases h with ⟨h1,h2⟩ | ⟨h1,h3,h2⟩
 ·exact .inl ⟨h1,fun s _=>h2 s (.inl rfl)⟩
 ·exact .inr ⟨h1,h3,fun s _=>h2 s (.inl rfl)⟩
def LexAsks (P : Program) (ops : Array Oper) (C : Option σ → Array Bool → World → Prop) (o : Oper) (i : Nat) (v : σ → Value) (a : Act) : Prop :=
 Region.wanted o (yielded ops a.tmps) = true ∧ ∀ L w,L.getD i false = false → C none L w → LexAsk P (fun s=>C (some s)) L i v ((execOp a.eval o).run P w)
/-- Every order. -/
def allLex (P : Program) (md : Region.Mode) (ops : Array Oper) (C : Option σ → Array Bool → World → Prop) (Q : Option σ → Array Bool → Act → Prop) : Nat → Option σ → Array Bool → Act → Prop
 | 0,s,L,a=>Region.ready md ops L = [] ∧ Q s L a
 | n + 1,s,L,a=>(Region.ready md ops L = [] → Q s L a) ∧ ∀ i ∈ Region.ready md ops L,∃ o,ops[i]? = some o ∧
  ((∃ v,LexYields P ops C s o i v a ∧ allLex P md ops C Q n s (L.setIfInBounds i true) (a.put o.dst v)) ∨
   (s = none ∧ ∃ v : σ → Value,LexAsks P ops C o i v a ∧ ∀ t,allLex P md ops C Q n (some t) (L.setIfInBounds i true) (a.put o.dst (v t))))
theorem LexYields.same {s0 : Option σ} {o : Oper} {i : Nat} {v : Value} {a a' : Act} (h : LexYields P ops C s0 o i v a) (he : execOp a'.eval o = execOp a.eval o) (hw : Region.wanted o (yielded ops a'.tmps) = Region.wanted o (yielded ops a.tmps)) : LexYields P ops C s0 o i v a':=by
 unfold LexYields at *
 rw [he,hw]
 exact h
theorem LexAsks.same {o : Oper} {i : Nat} {v : σ → Value} {a a' : Act} (h : LexAsks P ops C o i v a) (he : execOp a'.eval o = execOp a.eval o) (hw : Region.wanted o (yielded ops a'.tmps) = Region.wanted o (yielded ops a.tmps)) : LexAsks P ops C o i v a':=by
 unfold LexAsks at *
 rw [he,hw]
 exact h
theorem unlisted {L : Array Bool} {i : Nat} (h : i ∈ Region.ready md ops L) : L.getD i false = false:=by
 have h0:=(mem_ready.1 h).1
 rcases Nat.lt_or_ge i L.size with h' | h'
 ·simp [h'] at h0 ⊢;exact h0
 ·simp [Array.getElem?_eq_none h'] at h0
theorem wpAny_allLex {Q : Option σ → Array Bool → Act → Prop} {Q' : Exit → Act → World → Prop} (hQ : ∀ s L a w,C s L w → Q s L a → Q' .normal a w) : ∀ (n : Nat) (s : Option σ) (L : Array Bool) (a : Act) (w : World),C s L w → allLex P md ops C Q n s L a → wpAny P md ops Q' n L a w
 | 0,s,L,a,w,hw,h=>⟨h.1,hQ _ _ _ _ hw h.2⟩
 | n + 1,s,L,a,w,hw,h=>by
  refine ⟨fun h0=>hQ _ _ _ _ hw (h.1 h0),fun i hi=>?_⟩
  obtain ⟨o,ho,hk⟩:=h.2 i hi
  unfold wpOp
  simp only [ho]
  rcases hk with ⟨v,⟨h1,h2⟩ | ⟨h1,rfl,h2⟩,hk⟩ | ⟨rfl,v,⟨h1,h2⟩,hk⟩
  ·rw [if_pos h1]
   refine .inl ?_
   have h3:=h2 s (.inr rfl) L w (unlisted hi) hw
   unfold Oper.wp
   generalize (execOp a.eval o).run P w = r at h3 ⊢
   cases r with
   | halt x w'=>exact h3.elim
   | ok x w' =>
    cases x<;>simp only [LexUpon] at h3<;>simp only [Oper.upon]
    case value u=>obtain ⟨rfl,h4⟩:=h3;exact wpAny_allLex hQ n _ _ _ _ h4 hk
    case skip=>obtain ⟨rfl,h4⟩:=h3;exact wpAny_allLex hQ n _ _ _ _ h4 hk
    case enter f args=>exact h3.mono fun e w'' h4=>by obtain ⟨rfl,h5⟩:=h4;exact wpAny_allLex hQ n _ _ _ _ h5 hk
  ·rw [if_neg (by rw [h1];exact Bool.false_ne_true)]
   exact wpAny_allLex hQ n _ _ _ _ (h2 s (.inr rfl) L w (unlisted hi) hw) hk
  ·rw [if_pos h1]
   refine .inl ?_
   have h3:=h2 L w (unlisted hi) hw
   unfold Oper.wp
   generalize (execOp a.eval o).run P w = r at h3 ⊢
   cases r with
   | halt x w'=>exact h3.elim
   | ok x w' =>
    cases x<;>simp only [LexAsk] at h3<;>simp only [Oper.upon]
    case enter f args=>exact h3.mono fun e w'' h4=>by obtain ⟨t,rfl,h5⟩:=h4;exact wpAny_allLex hQ n _ _ _ _ h5 (hk t)
theorem allLex_first {Q : Option σ → Array Bool → Act → Prop} {i : Nat} {oi : Oper} {v : Value} (hi : ops[i]? = some oi) (hsel : ∀ (j : Nat) (o : Oper) cs b,ops[j]? = some o → o.op ≠ .select cs b) :
 ∀ (n : Nat) (s : Option σ) (L : Array Bool) (a : Act),
  (∀ j oj,ops[j]? = some oj → j ≠ i → L.getD j true = false → (∀ e ∈ oj.after,Region.binds md e = true → e.on ≠ i) → oi.apart ops oj = true) →
  i ∈ Region.ready md ops L → LexYields P ops C s oi i v a →
  allLex P md ops C Q n s (L.setIfInBounds i true) (a.put oi.dst v) → allLex P md ops C Q (n + 1) s L a:=by
 intro n
 induction n with
 | zero =>
  intro s L a _ hr hy H
  refine ⟨fun h=>(by rw [h] at hr;cases hr),fun j hj=>?_⟩
  by_cases hji : j = i
  ·subst hji;exact ⟨oi,hi,.inl ⟨v,hy,H⟩⟩
  ·have h1:=ready_mono hj hji
   rw [H.1] at h1
   cases h1
 | succ n ih =>
  intro s L a hfree hr hy H
  refine ⟨fun h=>(by rw [h] at hr;cases hr),fun j hj=>?_⟩
  by_cases hji : j = i
  ·subst hji;exact ⟨oi,hi,.inl ⟨v,hy,H⟩⟩
  obtain ⟨oj,hoj,hk⟩:=H.2 j (ready_mono hj hji)
  obtain ⟨hjun,oj',hoj',hall⟩:=mem_ready.1 hj
  rw [hoj] at hoj'
  cases hoj'
  have hnot : ∀ e ∈ oj.after,Region.binds md e = true → e.on ≠ i:=fun e he hb heq=>by
   have h1:=hall e he hb
   have h0:=(mem_ready.1 hr).1
   rw [heq] at h1
   rcases Nat.lt_or_ge i L.size with h' | h'
   ·simp [h'] at h0 h1;rw [h0] at h1;cases h1
   ·simp [Array.getElem?_eq_none h'] at h1
  obtain ⟨h1,h2,h3⟩:=Oper.apart_spec (hfree j oj hoj hji hjun hnot)
  have hfree' : ∀ k ok,ops[k]? = some ok → k ≠ i → (L.setIfInBounds j true).getD k true = false → (∀ e ∈ ok.after,Region.binds md e = true → e.on ≠ i) → oi.apart ops ok = true:=by
   intro k ok hk hki hun hno
   refine hfree k ok hk hki ?_ hno
   by_cases hjk : j = k
   ·subst hjk;exact hjun
   ·rw [getD_set_ne true hjk] at hun;exact hun
  refine ⟨oj,hoj,?_⟩
  rcases hk with ⟨u,hyj,hk⟩ | ⟨rfl,u,hyj,hk⟩
  ·refine .inl ⟨u,hyj.same (execOp_put oj (fun cs b=>hsel j oj cs b hoj) a oi.dst v h1).symm (wanted_put oj a oi.dst v h1).symm,?_⟩
   refine ih s (L.setIfInBounds j true) _ hfree' (ready_mono hr (Ne.symm hji)) (hy.same (execOp_put oi (fun cs b=>hsel i oi cs b hi) a oj.dst u h3) (wanted_put oi a oj.dst u h3)) ?_
   rw [Array.setIfInBounds_comm _ _ hji,← Act.put_comm a v u h2]
   exact hk
  ·refine .inr ⟨rfl,u,hyj.same (execOp_put oj (fun cs b=>hsel j oj cs b hoj) a oi.dst v h1).symm (wanted_put oj a oi.dst v h1).symm,fun t=>?_⟩
   refine ih (some t) (L.setIfInBounds j true) _ hfree' (ready_mono hr (Ne.symm hji)) (hy.some.same (execOp_put oi (fun cs b=>hsel i oi cs b hi) a oj.dst (u t) h3) (wanted_put oi a oj.dst (u t) h3)) ?_
   rw [Array.setIfInBounds_comm _ _ hji,← Act.put_comm a v (u t) h2]
   exact hk t
/-- Which operations of n have been carried out, as a function; the class. -/
def LexC (n : Nat) (F : Option σ → (Nat → Bool) → World → Prop) (s : Option σ) (L : Array Bool) (w : World) : Prop:=L.size = n ∧ F s (fun j=>L.getD j false) w
def upd (d : Nat → Bool) (k : Nat) : Nat → Bool:=fun j=>if j = k then true else d j
theorem upd_is {L : Array Bool} {k : Nat} (hk : k < L.size) : (fun j=>(L.setIfInBounds k true).getD j false) = upd (fun j=>L.getD j false) k:=by
 funext j
 unfold upd
 by_cases h : j = k
 ·subst h
  rw [if_pos rfl]
  simp [Array.getD,hk]
 ·rw [if_neg h]
  simp [Ne.symm h]
theorem LexC.next {n : Nat} {F : Option σ → (Nat → Bool) → World → Prop} {s s' : Option σ} {L : Array Bool} {w w' : World} {k : Nat} (hk : k < n) (h : LexC n F s L w) (hF : F s' (upd (fun j=>L.getD j false) k) w') : LexC n F s' (L.setIfInBounds k true) w':=by
 refine ⟨by rw [Array.size_setIfInBounds];exact h.1,?_⟩
 rw [upd_is (by rw [h.1];exact hk)]
 exact hF
/-- May operation i come up first, and what has come up then? -/
def lexChk (md : Region.Mode) (ops : Array Oper) (L L' : Array Bool) (i : Nat) : Bool:=Region.noSelect ops && Region.free md ops L i && (Region.ready md ops L).contains i && (L.setIfInBounds i true == L') && decide (i < ops.size)
section
variable {n k : Nat} {F : Option σ → (Nat → Bool) → World → Prop} {Q : Option σ → Array Bool → Act → Prop} {o : Oper} {N : Option Tmp} {s : Option σ} {L : Array Bool} {a a' : Act}
theorem lex_first {v : Value} (L' : Array Bool) (hi : ops[k]? = some o) (hN : o.dst = N) (hc : lexChk md ops L L' k = true) (hy : LexYields P ops (LexC ops.size F) s o k v a) (ha : a.put N v = a') (hr : allLex P md ops (LexC ops.size F) Q n s L' a') : allLex P md ops (LexC ops.size F) Q (n + 1) s L a:=by
 subst hN
 subst ha
 simp only [lexChk,Bool.and_eq_true,beq_iff_eq] at hc
 obtain ⟨⟨⟨⟨h1,h2⟩,h3⟩,h4⟩,h5⟩:=hc
 subst h4
 exact allLex_first hi (Region.noSelect_spec h1) n s L a (Region.free_spec hi h2) (by simpa using h3) hy hr
/-- An operation that yields. -/
theorem lex_val (v : Value) (L' : Array Bool) (hi : ops[k]? = some o) (hN : o.dst = N) (hc : lexChk md ops L L' k = true) (hw : Region.wanted o (yielded ops a.tmps) = true) (h : ∀ s',s = none ∨ s' = s → ∀ d w,d k = false → F s' d w → ∃ w',(execOp a.eval o).run P w = .ok (.value v) w' ∧ F s' (upd d k) w')
 (ha : a.put N v = a') (hr : allLex P md ops (LexC ops.size F) Q n s L' a') : allLex P md ops (LexC ops.size F) Q (n + 1) s L a:=by
 refine lex_first L' hi hN hc (.inl ⟨hw,fun s hs L w hL hC=>?_⟩) ha hr
 have hk : k < ops.size:=by simp only [lexChk,Bool.and_eq_true,decide_eq_true_eq] at hc;exact hc.2
 obtain ⟨w',h1,h2⟩:=h s hs _ w hL hC.2
 rw [h1]
 exact ⟨rfl,hC.next hk h2⟩
/-- A store. -/
theorem lex_skip (L' : Array Bool) (hi : ops[k]? = some o) (hN : o.dst = N) (hc : lexChk md ops L L' k = true) (hw : Region.wanted o (yielded ops a.tmps) = true) (h : ∀ s',s = none ∨ s' = s → ∀ d w,d k = false → F s' d w → ∃ w',(execOp a.eval o).run P w = .ok .skip w' ∧ F s' (upd d k) w')
 (ha : a.put N undef = a') (hr : allLex P md ops (LexC ops.size F) Q n s L' a') : allLex P md ops (LexC ops.size F) Q (n + 1) s L a:=by
 refine lex_first L' hi hN hc (.inl ⟨hw,fun s hs L w hL hC=>?_⟩) ha hr
 have hk : k < ops.size:=by simp only [lexChk,Bool.and_eq_true,decide_eq_true_eq] at hc;exact hc.2
 obtain ⟨w',h1,h2⟩:=h s hs _ w hL hC.2
 rw [h1]
 exact ⟨rfl,hC.next hk h2⟩
/-- A call of known value. -/
theorem lex_call (f : FuncId) (args : Array Value) (v : Value) (L' : Array Bool) (hi : ops[k]? = some o) (hN : o.dst = N) (hc : lexChk md ops L L' k = true) (hw : Region.wanted o (yielded ops a.tmps) = true) (h1 : ∀ w,(execOp a.eval o).run P w = .ok (.enter f args) w)
 (h : ∀ s',s = none ∨ s' = s → ∀ d w,d k = false → F s' d w → Calls P f args w fun e w'=>e = .returned v ∧ F s' (upd d k) w')
 (ha : a.put N v = a') (hr : allLex P md ops (LexC ops.size F) Q n s L' a') : allLex P md ops (LexC ops.size F) Q (n + 1) s L a:=by
 refine lex_first L' hi hN hc (.inl ⟨hw,fun s hs L w hL hC=>?_⟩) ha hr
 have hk : k < ops.size:=by simp only [lexChk,Bool.and_eq_true,decide_eq_true_eq] at hc;exact hc.2
 rw [h1]
 exact (h s hs _ w hL hC.2).mono fun e w' h=>⟨h.1,hC.next hk h.2⟩
/-- A call of open value: it alone may come up. -/
theorem lex_ask (f : FuncId) (args : Array Value) (v : σ → Value) (L' : Array Bool) (hi : ops[k]? = some o) (hN : o.dst = N) (hc : (Region.ready md ops L == [k] && L.setIfInBounds k true == L' && decide (k < ops.size)) = true) (hw : Region.wanted o (yielded ops a.tmps) = true) (h1 : ∀ w,(execOp a.eval o).run P w = .ok (.enter f args) w)
 (h : ∀ d w,d k = false → F none d w → Calls P f args w fun e w'=>∃ t,e = .returned (v t) ∧ F (some t) (upd d k) w')
 (hr : ∀ t,allLex P md ops (LexC ops.size F) Q n (some t) L' (a.put N (v t))) : allLex P md ops (LexC ops.size F) Q (n + 1) none L a:=by
 subst hN
 simp only [Bool.and_eq_true,beq_iff_eq,decide_eq_true_eq] at hc
 obtain ⟨⟨h3,h4⟩,h5⟩:=hc
 subst h4
 refine ⟨fun h=>(by rw [h] at h3;cases h3),fun j hj=>?_⟩
 rw [h3,List.mem_singleton] at hj
 subst hj
 refine ⟨o,hi,.inr ⟨rfl,v,⟨hw,fun L w hL hC=>?_⟩,hr⟩⟩
 rw [h1]
 exact (h _ w hL hC.2).mono fun e w' h=>by obtain ⟨t,h6,h7⟩:=h;exact ⟨t,h6,hC.next h5 h7⟩
theorem lex_norm {m : Nat} {C : Option σ → Array Bool → World → Prop} (ha : a = a') (h : allLex P md ops C Q m s L a') : allLex P md ops C Q m s L a:=ha ▸ h
theorem lex_done {C : Option σ → Array Bool → World → Prop} {m : Nat} (hc : (Region.ready md ops L == []) = true) (h : Q s L a) : allLex P md ops C Q m s L a:=by
 have hc':=eq_of_beq hc
 cases m with
 | zero=>exact ⟨hc',h⟩
 | succ m=>exact ⟨fun _=>h,fun i hi=>by rw [hc'] at hi;cases hi⟩
end
/-- A region that draws its order. -/
theorem region_lex {id : Nat} {Q : Exit → Act → World → Prop} {a : Act} {w : World} (F : Option σ → (Nat → Bool) → World → Prop) (n : Nat) (L : Array Bool) (hm : P.follows .mixedOrders = true) (hn : ops.size = n) (hL : Array.replicate n false = L)
 (hF : F none (fun _=>false) (w.drewN 1))
 (h : allLex P .any ops (LexC ops.size F) (fun s L a'=>∀ w',LexC ops.size F s L w' → Q .normal a' w') n none L a) : (Code.region id ops true).wp P Q a w:=by
 subst hn
 subst hL
 have hC : LexC ops.size F none (Array.replicate ops.size false) (w.drewN 1):=by
  refine ⟨by simp,?_⟩
  have : (fun j=>(Array.replicate ops.size false).getD j false) = fun _=>false:=by
   funext j
   by_cases h : j < ops.size<;>simp [Array.getD,h]
  rw [this]
  exact hF
 exact wp_region_any hm (wpAny_allLex (Q:=fun s L a'=>∀ w',LexC ops.size F s L w' → Q .normal a' w') (fun s L a w' hw' h=>h w' hw') _ _ _ _ _ hC h)
end
end Go.Proofs.YtiminjibcafkaaaGreatDoor.X
end
section
/- target.off, tidingsref07.Off and Pull: what they hand back, to the letter. -/
namespace Go.Proofs.YtiminjibcafkaaaGreatDoor.X
open Go.RowKit Go.Proofs.YtiminjibcafkaaaGreatDoorW.PrintWords Go.Proofs.YtiminjibcafkaaaGreatDoorW.PrintLast Go.Proofs.YtiminjibcafkaaaGreatDoorW.PrintMore
set_option linter.unusedVariables false
set_option linter.unusedSimpArgs false
set_option maxRecDepth 100000 in
set_option maxHeartbeats 8000000 in
theorem off_is (a0 a1 a2 a3 : Int) (l4 : List S67) (l5 : List S62) (a6 : Bool) (a7 a8 a9 a10 : Int) (l11 : List S67) (a12 : Int) (A4 A5 A11 : Option Addr) (c4 c5 c11 : Nat) (w : World) : Calls Tryz.prog 33 #[.agg #[.int .u8 a0,.int .u8 a1,.int .u32 a2,.int .u32 a3,.slice A4 l4.length c4,.slice A5 l5.length c5,.bool a6,.int .u32 a7,.int .u8 a8,.int .u8 a9,.int .u32 a10,.slice A11 l11.length c11,.int .u32 a12]] w fun e w'=>e = .returned (.agg #[.int .u8 a0,.int .u8 a1,.int .u32 a2,.int .u32 a3,.slice A4 l4.length c4,.slice A5 l5.length c5,.bool false,.int .u32 0,.int .u8 0,.int .u8 0,.int .u32 0,.slice none 0 0,.int .u32 a12]) ∧ Below w.heap.size w w':=by
 have huR:=Tryz.underlying28
 have huN:=Tryz.underlying30
 have huS:=Tryz.underlying26
 go_enter Tryz.func33,Tryz.ntmps33
 go_wp2_with (first | ((with_reducible refine gate_store (t:=26) (p:=7) rfl ?_);generalize hW : World.alloc (World.alloc w _) _ = w0;have Br0:=Aside0.mk (al2_0 hW);have Bo0:=Aside0.mk (al2_1 hW);have HB0:=Aside0.mk (al2B hW);clear hW;have GG:=Aside0.mk (show w.heap.size + 2 ≤ w0.heap.size by have:=blk_lt Bo0.out;omega);have HG0:=Aside0.mk (Nat.le_refl w0.heap.size);obtain ⟨r0_0,r0_1,r0_2,r0_3,r0_4,r0_5,r0_6,r0_7,r0_8,r0_9,r0_10,r0_11,r0_12⟩:=cells13 Br0.out;obtain ⟨o0_0,o0_1,o0_2,o0_3,o0_4,o0_5,o0_6,o0_7,o0_8,o0_9,o0_10,o0_11,o0_12⟩:=cells13 Bo0.out;refine store_event (t:=26) (p:=7) (v:=?vo1_) (w1:=put_ w0 w.heap.size 6 [.bool false,.int .u32 0,.int .u8 0,.int .u8 0,.int .u32 0,.slice none 0 0,.int .u32 a12]) ?hg ?ho ?hn ?hr ?_;(case ho=>rfl);(case hg=>rfl);(case hn=>rfl);(case hr=>obtain ⟨_,_,_,_,_,_,_,_,_,_,_,_,_⟩:=frz13 Br0.out;go_simp;rfl);intro w1 hw;have Br1:=Aside0.mk (own13_6_7 hw Br0.out);have Bo1:=Aside0.mk (far_ hw (by omega) Bo0.out);have HB1:=Aside0.mk (bel_ hw (by omega) HB0.out);have HG1:=Aside0.mk (siz_ hw HG0.out);clear hw HB0 HG0 Br0 Bo0 r0_0 r0_1 r0_2 r0_3 r0_4 r0_5 r0_6 r0_7 r0_8 r0_9 r0_10 r0_11 r0_12 o0_0 o0_1 o0_2 o0_3 o0_4 o0_5 o0_6 o0_7 o0_8 o0_9 o0_10 o0_11 o0_12;obtain ⟨r1_0,r1_1,r1_2,r1_3,r1_4,r1_5,r1_6,r1_7,r1_8,r1_9,r1_10,r1_11,r1_12⟩:=cells13 Br1.out;obtain ⟨o1_0,o1_1,o1_2,o1_3,o1_4,o1_5,o1_6,o1_7,o1_8,o1_9,o1_10,o1_11,o1_12⟩:=cells13 Bo1.out) | ((with_reducible refine gate_store (t:=28) (p:=2) rfl ?_);refine store_event (t:=28) (p:=2) (v:=?vo2_) (w1:=put_ w1 (w.heap.size + 1) 0 [.int .u8 a0,.int .u8 a1,.int .u32 a2,.int .u32 a3,.slice A4 l4.length c4,.slice A5 l5.length c5,.bool false,.int .u32 0,.int .u8 0,.int .u8 0,.int .u32 0,.slice none 0 0,.int .u32 a12]) ?hg ?ho ?hn ?hr ?_;(case ho=>rfl);(case hg=>rfl);(case hn=>rfl);(case hr=>obtain ⟨_,_,_,_,_,_,_,_,_,_,_,_,_⟩:=frz13 Bo1.out;go_simp;rfl);intro w2 hw;have Br2:=Aside0.mk (far_ hw (by omega) Br1.out);have Bo2:=Aside0.mk (own13_0_13 hw Bo1.out);have HB2:=Aside0.mk (bel_ hw (by omega) HB1.out);have HG2:=Aside0.mk (siz_ hw HG1.out);clear hw HB1 HG1 Br1 Bo1 r1_0 r1_1 r1_2 r1_3 r1_4 r1_5 r1_6 r1_7 r1_8 r1_9 r1_10 r1_11 r1_12 o1_0 o1_1 o1_2 o1_3 o1_4 o1_5 o1_6 o1_7 o1_8 o1_9 o1_10 o1_11 o1_12;obtain ⟨r2_0,r2_1,r2_2,r2_3,r2_4,r2_5,r2_6,r2_7,r2_8,r2_9,r2_10,r2_11,r2_12⟩:=cells13 Br2.out;obtain ⟨o2_0,o2_1,o2_2,o2_3,o2_4,o2_5,o2_6,o2_7,o2_8,o2_9,o2_10,o2_11,o2_12⟩:=cells13 Bo2.out))
 refine bodyPost_ret (results_cell_row rfl _ _ (w.heap.size + 1) 28 #[.int .u8 a0,.int .u8 a1,.int .u32 a2,.int .u32 a3,.slice A4 l4.length c4,.slice A5 l5.length c5,.bool false,.int .u32 0,.int .u8 0,.int .u8 0,.int .u32 0,.slice none 0 0,.int .u32 a12] (0,0) _ rfl Bo2.out Tryz.underlying28 rfl (by kernel_rfl)) rfl ?_
 exact ⟨rfl,HB2.out⟩
set_option maxRecDepth 100000 in
set_option maxHeartbeats 8000000 in
theorem ref07_Off_is (a0 a1 a2 a3 : Int) (l4 : List S67) (l5 : List S62) (a6 : Bool) (a7 a8 a9 a10 : Int) (l11 : List S67) (a12 : Int) (A4 A5 A11 : Option Addr) (c4 c5 c11 : Nat) (w : World) : Calls Tryz.prog 22 #[.agg #[.int .u8 a0,.int .u8 a1,.int .u32 a2,.int .u32 a3,.slice A4 l4.length c4,.slice A5 l5.length c5,.bool a6,.int .u32 a7,.int .u8 a8,.int .u8 a9,.int .u32 a10,.slice A11 l11.length c11,.int .u32 a12]] w fun e w'=>e = .returned (.agg #[.int .u8 a0,.int .u8 a1,.int .u32 a2,.int .u32 a3,.slice A4 l4.length c4,.slice A5 l5.length c5,.bool false,.int .u32 0,.int .u8 0,.int .u8 0,.int .u32 0,.slice none 0 0,.int .u32 a12]) ∧ Below w.heap.size w w':=by
 have huR:=Tryz.underlying28
 have huN:=Tryz.underlying30
 have huS:=Tryz.underlying26
 go_enter Tryz.func22,Tryz.ntmps22
 go_wp2_with (first | ((with_reducible refine gate_store (t:=28) (p:=3) rfl ?_);generalize hW : World.alloc (World.alloc (World.alloc w _) _) _ = w0;have Br0:=Aside0.mk (al3_0 hW);have Bo0:=Aside0.mk (al3_1 hW);have Bx0:=Aside0.mk (al3_2 hW);have HB0:=Aside0.mk (al3B hW);clear hW;have GG:=Aside0.mk (show w.heap.size + 3 ≤ w0.heap.size by have:=blk_lt Bx0.out;omega);have HG0:=Aside0.mk (Nat.le_refl w0.heap.size);obtain ⟨r0_0,r0_1,r0_2,r0_3,r0_4,r0_5,r0_6,r0_7,r0_8,r0_9,r0_10,r0_11,r0_12⟩:=cells13 Br0.out;obtain ⟨o0_0,o0_1,o0_2,o0_3,o0_4,o0_5,o0_6,o0_7,o0_8,o0_9,o0_10,o0_11,o0_12⟩:=cells13 Bo0.out;obtain ⟨x0_0,x0_1,x0_2,x0_3,x0_4,x0_5,x0_6,x0_7,x0_8,x0_9,x0_10,x0_11,x0_12⟩:=cells13 Bx0.out;refine store_event (t:=28) (p:=3) (v:=?vo3_) (w1:=put_ w0 (w.heap.size + 1 + 1) 0 [.int .u8 a0,.int .u8 a1,.int .u32 a2,.int .u32 a3,.slice A4 l4.length c4,.slice A5 l5.length c5,.bool a6,.int .u32 a7,.int .u8 a8,.int .u8 a9,.int .u32 a10,.slice A11 l11.length c11,.int .u32 a12]) ?hg ?ho ?hn ?hr ?_;(case ho=>rfl);(case hg=>rfl);(case hn=>rfl);(case hr=>obtain ⟨_,_,_,_,_,_,_,_,_,_,_,_,_⟩:=frz13 Bx0.out;go_simp;rfl);intro w1 hw;have Br1:=Aside0.mk (far_ hw (by omega) Br0.out);have Bo1:=Aside0.mk (far_ hw (by omega) Bo0.out);have Bx1:=Aside0.mk (own13_0_13 hw Bx0.out);have HB1:=Aside0.mk (bel_ hw (by omega) HB0.out);have HG1:=Aside0.mk (siz_ hw HG0.out);clear hw HB0 HG0 Br0 Bo0 Bx0 r0_0 r0_1 r0_2 r0_3 r0_4 r0_5 r0_6 r0_7 r0_8 r0_9 r0_10 r0_11 r0_12 o0_0 o0_1 o0_2 o0_3 o0_4 o0_5 o0_6 o0_7 o0_8 o0_9 o0_10 o0_11 o0_12 x0_0 x0_1 x0_2 x0_3 x0_4 x0_5 x0_6 x0_7 x0_8 x0_9 x0_10 x0_11 x0_12;obtain ⟨r1_0,r1_1,r1_2,r1_3,r1_4,r1_5,r1_6,r1_7,r1_8,r1_9,r1_10,r1_11,r1_12⟩:=cells13 Br1.out;obtain ⟨o1_0,o1_1,o1_2,o1_3,o1_4,o1_5,o1_6,o1_7,o1_8,o1_9,o1_10,o1_11,o1_12⟩:=cells13 Bo1.out;obtain ⟨x1_0,x1_1,x1_2,x1_3,x1_4,x1_5,x1_6,x1_7,x1_8,x1_9,x1_10,x1_11,x1_12⟩:=cells13 Bx1.out) | ((with_reducible refine gate_store (t:=26) (p:=9) rfl ?_);refine store_event (t:=26) (p:=9) (v:=?vo4_) (w1:=put_ w1 (w.heap.size + 1 + 1) 6 [.bool false,.int .u32 0,.int .u8 0,.int .u8 0,.int .u32 0,.slice none 0 0,.int .u32 a12]) ?hg ?ho ?hn ?hr ?_;(case ho=>rfl);(case hg=>rfl);(case hn=>rfl);(case hr=>obtain ⟨_,_,_,_,_,_,_,_,_,_,_,_,_⟩:=frz13 Bx1.out;go_simp;rfl);intro w2 hw;have Br2:=Aside0.mk (far_ hw (by omega) Br1.out);have Bo2:=Aside0.mk (far_ hw (by omega) Bo1.out);have Bx2:=Aside0.mk (own13_6_7 hw Bx1.out);have HB2:=Aside0.mk (bel_ hw (by omega) HB1.out);have HG2:=Aside0.mk (siz_ hw HG1.out);clear hw HB1 HG1 Br1 Bo1 Bx1 r1_0 r1_1 r1_2 r1_3 r1_4 r1_5 r1_6 r1_7 r1_8 r1_9 r1_10 r1_11 r1_12 o1_0 o1_1 o1_2 o1_3 o1_4 o1_5 o1_6 o1_7 o1_8 o1_9 o1_10 o1_11 o1_12 x1_0 x1_1 x1_2 x1_3 x1_4 x1_5 x1_6 x1_7 x1_8 x1_9 x1_10 x1_11 x1_12;obtain ⟨r2_0,r2_1,r2_2,r2_3,r2_4,r2_5,r2_6,r2_7,r2_8,r2_9,r2_10,r2_11,r2_12⟩:=cells13 Br2.out;obtain ⟨o2_0,o2_1,o2_2,o2_3,o2_4,o2_5,o2_6,o2_7,o2_8,o2_9,o2_10,o2_11,o2_12⟩:=cells13 Bo2.out;obtain ⟨x2_0,x2_1,x2_2,x2_3,x2_4,x2_5,x2_6,x2_7,x2_8,x2_9,x2_10,x2_11,x2_12⟩:=cells13 Bx2.out) | ((with_reducible refine gate_store (t:=28) (p:=2) rfl ?_);refine store_event (t:=28) (p:=2) (v:=?vo5_) (w1:=put_ w2 (w.heap.size + 1) 0 [.int .u8 a0,.int .u8 a1,.int .u32 a2,.int .u32 a3,.slice A4 l4.length c4,.slice A5 l5.length c5,.bool false,.int .u32 0,.int .u8 0,.int .u8 0,.int .u32 0,.slice none 0 0,.int .u32 a12]) ?hg ?ho ?hn ?hr ?_;(case ho=>rfl);(case hg=>rfl);(case hn=>rfl);(case hr=>obtain ⟨_,_,_,_,_,_,_,_,_,_,_,_,_⟩:=frz13 Bo2.out;go_simp;rfl);intro w3 hw;have Br3:=Aside0.mk (far_ hw (by omega) Br2.out);have Bo3:=Aside0.mk (own13_0_13 hw Bo2.out);have Bx3:=Aside0.mk (far_ hw (by omega) Bx2.out);have HB3:=Aside0.mk (bel_ hw (by omega) HB2.out);have HG3:=Aside0.mk (siz_ hw HG2.out);clear hw HB2 HG2 Br2 Bo2 Bx2 r2_0 r2_1 r2_2 r2_3 r2_4 r2_5 r2_6 r2_7 r2_8 r2_9 r2_10 r2_11 r2_12 o2_0 o2_1 o2_2 o2_3 o2_4 o2_5 o2_6 o2_7 o2_8 o2_9 o2_10 o2_11 o2_12 x2_0 x2_1 x2_2 x2_3 x2_4 x2_5 x2_6 x2_7 x2_8 x2_9 x2_10 x2_11 x2_12;obtain ⟨r3_0,r3_1,r3_2,r3_3,r3_4,r3_5,r3_6,r3_7,r3_8,r3_9,r3_10,r3_11,r3_12⟩:=cells13 Br3.out;obtain ⟨o3_0,o3_1,o3_2,o3_3,o3_4,o3_5,o3_6,o3_7,o3_8,o3_9,o3_10,o3_11,o3_12⟩:=cells13 Bo3.out;obtain ⟨x3_0,x3_1,x3_2,x3_3,x3_4,x3_5,x3_6,x3_7,x3_8,x3_9,x3_10,x3_11,x3_12⟩:=cells13 Bx3.out))
 refine bodyPost_ret (results_cell_row rfl _ _ (w.heap.size + 1) 28 #[.int .u8 a0,.int .u8 a1,.int .u32 a2,.int .u32 a3,.slice A4 l4.length c4,.slice A5 l5.length c5,.bool false,.int .u32 0,.int .u8 0,.int .u8 0,.int .u32 0,.slice none 0 0,.int .u32 a12] (0,0) _ rfl Bo3.out Tryz.underlying28 rfl (by kernel_rfl)) rfl ?_
 exact ⟨rfl,HB3.out⟩
set_option maxRecDepth 100000 in
set_option maxHeartbeats 8000000 in
theorem ref07_Pull_is (a0 a1 a2 a3 : Int) (l4 : List S67) (l5 : List S62) (a6 : Bool) (a7 a8 a9 a10 : Int) (l11 : List S67) (a12 : Int) (A4 A5 A11 : Option Addr) (c4 c5 c11 : Nat) (w : World) : Calls Tryz.prog 21 #[.agg #[.int .u8 a0,.int .u8 a1,.int .u32 a2,.int .u32 a3,.slice A4 l4.length c4,.slice A5 l5.length c5,.bool a6,.int .u32 a7,.int .u8 a8,.int .u8 a9,.int .u32 a10,.slice A11 l11.length c11,.int .u32 a12]] w fun e w'=>e = .returned (.agg #[.int .i64 1,.int .u8 a0,.int .u8 a8,.int .u32 a7,.int .u8 a9,.int .u8 a1,.slice A4 l4.length c4,.int .u32 0,.slice none 0 0,.int .u8 0,.bool false,.slice none 0 0]) ∧ Below w.heap.size w w':=by
 have huR:=Tryz.underlying28
 have huN:=Tryz.underlying30
 have huS:=Tryz.underlying26
 go_enter Tryz.func21,Tryz.ntmps21
 go_wp2_with (first | ((with_reducible refine gate_store (t:=30) (p:=2) rfl ?_);generalize hW : World.alloc (World.alloc w _) _ = w0;have Br0:=Aside0.mk (al2_0 hW);have Bo0:=Aside0.mk (al2_1 hW);have HB0:=Aside0.mk (al2B hW);clear hW;have GG:=Aside0.mk (show w.heap.size + 2 ≤ w0.heap.size by have:=blk_lt Bo0.out;omega);have HG0:=Aside0.mk (Nat.le_refl w0.heap.size);obtain ⟨r0_0,r0_1,r0_2,r0_3,r0_4,r0_5,r0_6,r0_7,r0_8,r0_9,r0_10,r0_11,r0_12⟩:=cells13 Br0.out;obtain ⟨o0_0,o0_1,o0_2,o0_3,o0_4,o0_5,o0_6,o0_7,o0_8,o0_9,o0_10,o0_11⟩:=cells12 Bo0.out;refine store_event (t:=30) (p:=2) (v:=?vo6_) (w1:=put_ w0 (w.heap.size + 1) 0 [.int .i64 1,.int .u8 a0,.int .u8 a8,.int .u32 a7,.int .u8 a9,.int .u8 a1,.slice A4 l4.length c4,.int .u32 0,.slice none 0 0,.int .u8 0,.bool false,.slice none 0 0]) ?hg ?ho ?hn ?hr ?_;(case ho=>rfl);(case hg=>rfl);(case hn=>rfl);(case hr=>obtain ⟨_,_,_,_,_,_,_,_,_,_,_,_,_⟩:=frz13 Bo0.out;go_simp;rfl);intro w1 hw;have Br1:=Aside0.mk (far_ hw (by omega) Br0.out);have Bo1:=Aside0.mk (own12_0_12 hw Bo0.out);have HB1:=Aside0.mk (bel_ hw (by omega) HB0.out);have HG1:=Aside0.mk (siz_ hw HG0.out);clear hw HB0 HG0 Br0 Bo0 r0_0 r0_1 r0_2 r0_3 r0_4 r0_5 r0_6 r0_7 r0_8 r0_9 r0_10 r0_11 r0_12 o0_0 o0_1 o0_2 o0_3 o0_4 o0_5 o0_6 o0_7 o0_8 o0_9 o0_10 o0_11;obtain ⟨r1_0,r1_1,r1_2,r1_3,r1_4,r1_5,r1_6,r1_7,r1_8,r1_9,r1_10,r1_11,r1_12⟩:=cells13 Br1.out;obtain ⟨o1_0,o1_1,o1_2,o1_3,o1_4,o1_5,o1_6,o1_7,o1_8,o1_9,o1_10,o1_11⟩:=cells12 Bo1.out))
 refine bodyPost_ret (results_cell_row rfl _ _ (w.heap.size + 1) 30 #[.int .i64 1,.int .u8 a0,.int .u8 a8,.int .u32 a7,.int .u8 a9,.int .u8 a1,.slice A4 l4.length c4,.int .u32 0,.slice none 0 0,.int .u8 0,.bool false,.slice none 0 0] (0,0) _ rfl Bo1.out Tryz.underlying30 rfl (by kernel_rfl)) rfl ?_
 exact ⟨rfl,HB1.out⟩
end Go.Proofs.YtiminjibcafkaaaGreatDoor.X
end
