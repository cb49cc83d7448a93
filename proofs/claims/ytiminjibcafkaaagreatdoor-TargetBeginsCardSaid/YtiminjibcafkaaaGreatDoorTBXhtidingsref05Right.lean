-- MADE BY wip/prx.py (the kit's printer, with contracts proved by hand). Not trusted: Lean checks it.
import Derived.Test.YtiminjibcafkaaaGreatDoorTBJ4
import Derived.Test.YtiminjibcafkaaaGreatDoorTBJ5
import Derived.Test.YtiminjibcafkaaaGreatDoorTBX19
import Derived.Test.YtiminjibcafkaaaGreatDoorTBX20
import Derived.Test.YtiminjibcafkaaaGreatDoorTBX21
namespace Go.Proofs.YtiminjibcafkaaaGreatDoor.X
open Go.RowKit Go.Proofs.YtiminjibcafkaaaGreatDoorW.PrintWords Go.Proofs.YtiminjibcafkaaaGreatDoorW.PrintLast Go.Proofs.YtiminjibcafkaaaGreatDoorW.PrintMore
attribute [local go_sem] max2_int min2_int max_two min_two max_three min_three max_four min_four   -- for this text's walks alone
set_option linter.unusedVariables false
set_option linter.unusedSimpArgs false
--EXT Derived.Test.YtiminjibcafkaaaGreatDoorXquiet
/-! ### tidingsref05_Right: function 23, by hand -/
/-- Does one of a list's, from place i on (d places left), meet it? -/
def anyB {α : Type} (p : α → Bool) (z : α) (l : List α) : Nat → Nat → Bool
 | 0,_=>false
 | d + 1,i=>p (l.getD i z) || anyB p z l d (i + 1)
/-- Is a number of a replica's own beyond what it made? -/
def bey5 (rep seq x n : Int) : Bool:=decide (x = rep) && decide (seq < n)
/-- Is it of the number, of the replica? -/
def twin5 (g0 g1 : Int) (x : S62) : Bool:=decide (x.f1.f0 = g0) && decide (x.f1.f1 = g1)
/-- The last loop, from place i on (d places left). -/
def tidingsref05_Right.l2 (k : Nat) (rep filter seq : Int) (kn : List S67) (l : List S62) : Nat → Nat → Option Bool
 | 0,_=>some true
 | d + 1,i=>if bey5 rep seq (l.getD i z62).f1.f0 (l.getD i z62).f1.f1 = true then some false else
  if anyB (twin5 (l.getD i z62).f1.f0 (l.getD i z62).f1.f1) z62 l i 0 = true then some false else
  (tidingsref02_In.f k (l.getD i z62).f0 (l.getD i z62).f1.f0 (l.getD i z62).f1.f1 (l.getD i z62).f1.f2 (l.getD i z62).f2 (l.getD i z62).f3 (l.getD i z62).f4 filter).bind fun c=>(tidingsref01_Has.f k kn (l.getD i z62).f1.f0 (l.getD i z62).f1.f1).bind fun b =>
  if ((decide ((l.getD i z62).f2 = 1) && !c) || (decide ((l.getD i z62).f2 ≠ 2) && !b)) = true then some false else tidingsref05_Right.l2 k rep filter seq kn l d (i + 1)
/-- tidingsref05.Right. -/
def tidingsref05_Right.f (k : Nat) (a0_0 a0_1 a0_2 a0_3 : Int) (l0_4 : List S67) (l0_5 : List S62) (a0_6 : Bool) (a0_7 a0_8 a0_9 a0_10 : Int) (l0_11 : List S67) (a0_12 : Int) : Option Bool :=
 if 7 < a0_0 then some false else
 (tidingsref01_Right.f k l0_4).bind fun b1=>if b1 = false then some false else
 (tidingsref02_Right.f k l0_5).bind fun b2=>if b2 = false then some false else
 (tidingsref05_session.f k a0_6 a0_7 a0_8 a0_9 a0_10 l0_11 a0_12 a0_0).bind fun b3=>if b3 = false then some false else
 if anyB (fun x : S67=>bey5 a0_0 a0_3 x.f0 x.f2) z67 l0_4 l0_4.length 0 = true then some false else
 if anyB (fun x : S67=>bey5 a0_0 a0_3 x.f0 x.f2) z67 l0_11 l0_11.length 0 = true then some false else
 tidingsref05_Right.l2 k a0_0 a0_1 a0_3 l0_4 l0_5 l0_5.length 0
set_option maxHeartbeats 8000000 in
set_option maxRecDepth 100000 in
theorem tidingsref05_Right.calls (k : Nat) (a0_0 : Int) (a0_1 : Int) (a0_2 : Int) (a0_3 : Int) (A0_4 : Option Addr) (c0_4 : Nat) (l0_4 : List (S67)) (A0_5 : Option Addr) (c0_5 : Nat) (l0_5 : List (S62)) (a0_6 : Bool) (a0_7 : Int) (a0_8 : Int) (a0_9 : Int) (a0_10 : Int) (A0_11 : Option Addr) (c0_11 : Nat) (l0_11 : List (S67)) (a0_12 : Int) (r : Bool) (w : World) (hr0_4 : Kd.C k67 w A0_4 l0_4.length l0_4) (hc0_4 : l0_4.length ≤ c0_4) (hr0_5 : Kd.C k62 w A0_5 l0_5.length l0_5) (hc0_5 : l0_5.length ≤ c0_5) (hr0_11 : Kd.C k67 w A0_11 l0_11.length l0_11) (hc0_11 : l0_11.length ≤ c0_11) (h : tidingsref05_Right.f k a0_0 a0_1 a0_2 a0_3 l0_4 l0_5 a0_6 a0_7 a0_8 a0_9 a0_10 l0_11 a0_12 = some r) :
 Calls Tryz.prog 23 #[.agg #[.int .u8 a0_0,.int .u8 a0_1,.int .u32 a0_2,.int .u32 a0_3,.slice A0_4 l0_4.length c0_4,.slice A0_5 l0_5.length c0_5,.bool a0_6,.int .u32 a0_7,.int .u8 a0_8,.int .u8 a0_9,.int .u32 a0_10,.slice A0_11 l0_11.length c0_11,.int .u32 a0_12]] w fun e w'=>e = .returned (.bool r) ∧ Below w.heap.size w w':=by
 have hu:=Tryz.underlying28
 have hus:=Tryz.underlying26
 have hue:=Tryz.underlying62
 have huv:=Tryz.underlying60
 have hur:=Tryz.underlying67
 have HR4:=Aside0.mk hr0_4
 have HR5:=Aside0.mk hr0_5
 have HR11:=Aside0.mk hr0_11
 have HC4:=Aside0.mk hc0_4
 have HC5:=Aside0.mk hc0_5
 have HC11:=Aside0.mk hc0_11
 clear hr0_4 hr0_5 hr0_11 hc0_4 hc0_5 hc0_11
 unfold tidingsref05_Right.f at h
 by_cases p0 : 7 < a0_0
 ·rw [if_pos p0] at h
  obtain rfl:=Option.some.inj h
  clear h
  have p0a : decide (a0_0 > 7) = true:=decide_eq_true p0
  go_enter Tryz.func23,Tryz.ntmps23
  go_wp2
  go_ret
  exact ⟨rfl,(Below.refl _ w).alloc (Nat.le_refl _) _⟩
 rw [if_neg p0] at h
 have p0a : decide (a0_0 > 7) = false:=decide_eq_false p0
 have p0b : decide (7 < a0_0) = false:=decide_eq_false p0
 obtain ⟨b1,h1,h⟩:=Option.bind_eq_some_iff.mp h
 have H1:=Aside0.mk h1
 clear h1
 cases b1 with
 | false =>
  rw [if_pos rfl] at h
  obtain rfl:=Option.some.inj h
  clear h
  go_enter Tryz.func23,Tryz.ntmps23
  go_wp2_with fail
  have HB0:=Aside0.mk ((Below.refl _ w).alloc (Nat.le_refl _) (.cells #[.int .u8 a0_0,.int .u8 a0_1,.int .u32 a0_2,.int .u32 a0_3,.slice A0_4 l0_4.length c0_4,.slice A0_5 l0_5.length c0_5,.bool a0_6,.int .u32 a0_7,.int .u8 a0_8,.int .u8 a0_9,.int .u32 a0_10,.slice A0_11 l0_11.length c0_11,.int .u32 a0_12] 28))
  have B0:=Aside0.mk (blk_new w (.cells #[.int .u8 a0_0,.int .u8 a0_1,.int .u32 a0_2,.int .u32 a0_3,.slice A0_4 l0_4.length c0_4,.slice A0_5 l0_5.length c0_5,.bool a0_6,.int .u32 a0_7,.int .u8 a0_8,.int .u8 a0_9,.int .u32 a0_10,.slice A0_11 l0_11.length c0_11,.int .u32 a0_12] 28))
  generalize w.alloc (.cells #[.int .u8 a0_0,.int .u8 a0_1,.int .u32 a0_2,.int .u32 a0_3,.slice A0_4 l0_4.length c0_4,.slice A0_5 l0_5.length c0_5,.bool a0_6,.int .u32 a0_7,.int .u8 a0_8,.int .u8 a0_9,.int .u32 a0_10,.slice A0_11 l0_11.length c0_11,.int .u32 a0_12] 28) = w0 at HB0 B0 ⊢
  obtain ⟨q0,q1,q2,q3,q4,q5,q6,q7,q8,q9,q10,q11,q12⟩:=cells13 B0.out
  go_wp2_with fail
  refine (tidingsref01_Right.calls k _ _ l0_4 false _ (Kd.C_below HR4.out HB0.out) HC4.out H1.out).mono ?_
  rintro ev w1 ⟨rfl,hx⟩
  replace hx:=hx.below
  have B1:=Aside0.mk (blk_below B0.out hx)
  have HB1:=Aside0.mk (below_step HB0.out hx)
  clear hx B0 HB0
  clear q0 q1 q2 q3 q4 q5 q6 q7 q8 q9 q10 q11 q12
  obtain ⟨q0,q1,q2,q3,q4,q5,q6,q7,q8,q9,q10,q11,q12⟩:=cells13 B1.out
  go_wp2_with fail
  go_ret
  exact ⟨rfl,HB1.out⟩
 | true =>
 rw [if_neg (by decide)] at h
 obtain ⟨b2,h2,h⟩:=Option.bind_eq_some_iff.mp h
 have H2:=Aside0.mk h2
 clear h2
 cases b2 with
 | false =>
  rw [if_pos rfl] at h
  obtain rfl:=Option.some.inj h
  clear h
  go_enter Tryz.func23,Tryz.ntmps23
  go_wp2_with fail
  have HB0:=Aside0.mk ((Below.refl _ w).alloc (Nat.le_refl _) (.cells #[.int .u8 a0_0,.int .u8 a0_1,.int .u32 a0_2,.int .u32 a0_3,.slice A0_4 l0_4.length c0_4,.slice A0_5 l0_5.length c0_5,.bool a0_6,.int .u32 a0_7,.int .u8 a0_8,.int .u8 a0_9,.int .u32 a0_10,.slice A0_11 l0_11.length c0_11,.int .u32 a0_12] 28))
  have B0:=Aside0.mk (blk_new w (.cells #[.int .u8 a0_0,.int .u8 a0_1,.int .u32 a0_2,.int .u32 a0_3,.slice A0_4 l0_4.length c0_4,.slice A0_5 l0_5.length c0_5,.bool a0_6,.int .u32 a0_7,.int .u8 a0_8,.int .u8 a0_9,.int .u32 a0_10,.slice A0_11 l0_11.length c0_11,.int .u32 a0_12] 28))
  generalize w.alloc (.cells #[.int .u8 a0_0,.int .u8 a0_1,.int .u32 a0_2,.int .u32 a0_3,.slice A0_4 l0_4.length c0_4,.slice A0_5 l0_5.length c0_5,.bool a0_6,.int .u32 a0_7,.int .u8 a0_8,.int .u8 a0_9,.int .u32 a0_10,.slice A0_11 l0_11.length c0_11,.int .u32 a0_12] 28) = w0 at HB0 B0 ⊢
  obtain ⟨q0,q1,q2,q3,q4,q5,q6,q7,q8,q9,q10,q11,q12⟩:=cells13 B0.out
  go_wp2_with fail
  refine (tidingsref01_Right.calls k _ _ l0_4 true _ (Kd.C_below HR4.out HB0.out) HC4.out H1.out).mono ?_
  rintro ev w1 ⟨rfl,hx⟩
  replace hx:=hx.below
  have B1:=Aside0.mk (blk_below B0.out hx)
  have HB1:=Aside0.mk (below_step HB0.out hx)
  clear hx B0 HB0
  clear q0 q1 q2 q3 q4 q5 q6 q7 q8 q9 q10 q11 q12
  obtain ⟨q0,q1,q2,q3,q4,q5,q6,q7,q8,q9,q10,q11,q12⟩:=cells13 B1.out
  go_wp2_with fail
  refine (tidingsref02_Right.calls k _ _ l0_5 false _ (Kd.C_below HR5.out HB1.out) HC5.out H2.out).mono ?_
  rintro ev w2 ⟨rfl,hx⟩
  have B2:=Aside0.mk (blk_below B1.out hx)
  have HB2:=Aside0.mk (below_step HB1.out hx)
  clear hx B1 HB1
  clear q0 q1 q2 q3 q4 q5 q6 q7 q8 q9 q10 q11 q12
  obtain ⟨q0,q1,q2,q3,q4,q5,q6,q7,q8,q9,q10,q11,q12⟩:=cells13 B2.out
  go_wp2_with fail
  go_ret
  exact ⟨rfl,HB2.out⟩
 | true =>
 rw [if_neg (by decide)] at h
 obtain ⟨b3,h3,h⟩:=Option.bind_eq_some_iff.mp h
 have H3:=Aside0.mk h3
 clear h3
 cases b3 with
 | false =>
  rw [if_pos rfl] at h
  obtain rfl:=Option.some.inj h
  clear h
  go_enter Tryz.func23,Tryz.ntmps23
  go_wp2_with fail
  have HB0:=Aside0.mk ((Below.refl _ w).alloc (Nat.le_refl _) (.cells #[.int .u8 a0_0,.int .u8 a0_1,.int .u32 a0_2,.int .u32 a0_3,.slice A0_4 l0_4.length c0_4,.slice A0_5 l0_5.length c0_5,.bool a0_6,.int .u32 a0_7,.int .u8 a0_8,.int .u8 a0_9,.int .u32 a0_10,.slice A0_11 l0_11.length c0_11,.int .u32 a0_12] 28))
  have B0:=Aside0.mk (blk_new w (.cells #[.int .u8 a0_0,.int .u8 a0_1,.int .u32 a0_2,.int .u32 a0_3,.slice A0_4 l0_4.length c0_4,.slice A0_5 l0_5.length c0_5,.bool a0_6,.int .u32 a0_7,.int .u8 a0_8,.int .u8 a0_9,.int .u32 a0_10,.slice A0_11 l0_11.length c0_11,.int .u32 a0_12] 28))
  generalize w.alloc (.cells #[.int .u8 a0_0,.int .u8 a0_1,.int .u32 a0_2,.int .u32 a0_3,.slice A0_4 l0_4.length c0_4,.slice A0_5 l0_5.length c0_5,.bool a0_6,.int .u32 a0_7,.int .u8 a0_8,.int .u8 a0_9,.int .u32 a0_10,.slice A0_11 l0_11.length c0_11,.int .u32 a0_12] 28) = w0 at HB0 B0 ⊢
  obtain ⟨q0,q1,q2,q3,q4,q5,q6,q7,q8,q9,q10,q11,q12⟩:=cells13 B0.out
  go_wp2_with fail
  refine (tidingsref01_Right.calls k _ _ l0_4 true _ (Kd.C_below HR4.out HB0.out) HC4.out H1.out).mono ?_
  rintro ev w1 ⟨rfl,hx⟩
  replace hx:=hx.below
  have B1:=Aside0.mk (blk_below B0.out hx)
  have HB1:=Aside0.mk (below_step HB0.out hx)
  clear hx B0 HB0
  clear q0 q1 q2 q3 q4 q5 q6 q7 q8 q9 q10 q11 q12
  obtain ⟨q0,q1,q2,q3,q4,q5,q6,q7,q8,q9,q10,q11,q12⟩:=cells13 B1.out
  go_wp2_with fail
  refine (tidingsref02_Right.calls k _ _ l0_5 true _ (Kd.C_below HR5.out HB1.out) HC5.out H2.out).mono ?_
  rintro ev w2 ⟨rfl,hx⟩
  have B2:=Aside0.mk (blk_below B1.out hx)
  have HB2:=Aside0.mk (below_step HB1.out hx)
  clear hx B1 HB1
  clear q0 q1 q2 q3 q4 q5 q6 q7 q8 q9 q10 q11 q12
  obtain ⟨q0,q1,q2,q3,q4,q5,q6,q7,q8,q9,q10,q11,q12⟩:=cells13 B2.out
  go_wp2_with fail
  refine (tidingsref05_session.calls k a0_6 a0_7 a0_8 a0_9 a0_10 _ _ l0_11 a0_12 a0_0 false _ (Kd.C_below HR11.out HB2.out) HC11.out H3.out).mono ?_
  rintro ev w3 ⟨rfl,hx⟩
  have B3:=Aside0.mk (blk_below B2.out hx)
  have HB3:=Aside0.mk (below_step HB2.out hx)
  clear hx B2 HB2
  clear q0 q1 q2 q3 q4 q5 q6 q7 q8 q9 q10 q11 q12
  obtain ⟨q0,q1,q2,q3,q4,q5,q6,q7,q8,q9,q10,q11,q12⟩:=cells13 B3.out
  go_wp2_with fail
  go_ret
  exact ⟨rfl,HB3.out⟩
 | true =>
 rw [if_neg (by decide)] at h
 go_enter Tryz.func23,Tryz.ntmps23
 go_wp2_with fail
 have HB0:=Aside0.mk ((Below.refl _ w).alloc (Nat.le_refl _) (.cells #[.int .u8 a0_0,.int .u8 a0_1,.int .u32 a0_2,.int .u32 a0_3,.slice A0_4 l0_4.length c0_4,.slice A0_5 l0_5.length c0_5,.bool a0_6,.int .u32 a0_7,.int .u8 a0_8,.int .u8 a0_9,.int .u32 a0_10,.slice A0_11 l0_11.length c0_11,.int .u32 a0_12] 28))
 have B0:=Aside0.mk (blk_new w (.cells #[.int .u8 a0_0,.int .u8 a0_1,.int .u32 a0_2,.int .u32 a0_3,.slice A0_4 l0_4.length c0_4,.slice A0_5 l0_5.length c0_5,.bool a0_6,.int .u32 a0_7,.int .u8 a0_8,.int .u8 a0_9,.int .u32 a0_10,.slice A0_11 l0_11.length c0_11,.int .u32 a0_12] 28))
 generalize w.alloc (.cells #[.int .u8 a0_0,.int .u8 a0_1,.int .u32 a0_2,.int .u32 a0_3,.slice A0_4 l0_4.length c0_4,.slice A0_5 l0_5.length c0_5,.bool a0_6,.int .u32 a0_7,.int .u8 a0_8,.int .u8 a0_9,.int .u32 a0_10,.slice A0_11 l0_11.length c0_11,.int .u32 a0_12] 28) = w0 at HB0 B0 ⊢
 obtain ⟨q0,q1,q2,q3,q4,q5,q6,q7,q8,q9,q10,q11,q12⟩:=cells13 B0.out
 go_wp2_with fail
 refine (tidingsref01_Right.calls k _ _ l0_4 true _ (Kd.C_below HR4.out HB0.out) HC4.out H1.out).mono ?_
 rintro ev w1 ⟨rfl,hx⟩
 replace hx:=hx.below
 have B1:=Aside0.mk (blk_below B0.out hx)
 have HB1:=Aside0.mk (below_step HB0.out hx)
 clear hx B0 HB0
 clear q0 q1 q2 q3 q4 q5 q6 q7 q8 q9 q10 q11 q12
 obtain ⟨q0,q1,q2,q3,q4,q5,q6,q7,q8,q9,q10,q11,q12⟩:=cells13 B1.out
 go_wp2_with fail
 refine (tidingsref02_Right.calls k _ _ l0_5 true _ (Kd.C_below HR5.out HB1.out) HC5.out H2.out).mono ?_
 rintro ev w2 ⟨rfl,hx⟩
 have B2:=Aside0.mk (blk_below B1.out hx)
 have HB2:=Aside0.mk (below_step HB1.out hx)
 clear hx B1 HB1
 clear q0 q1 q2 q3 q4 q5 q6 q7 q8 q9 q10 q11 q12
 obtain ⟨q0,q1,q2,q3,q4,q5,q6,q7,q8,q9,q10,q11,q12⟩:=cells13 B2.out
 go_wp2_with fail
 refine (tidingsref05_session.calls k a0_6 a0_7 a0_8 a0_9 a0_10 _ _ l0_11 a0_12 a0_0 true _ (Kd.C_below HR11.out HB2.out) HC11.out H3.out).mono ?_
 rintro ev w3 ⟨rfl,hx⟩
 have B3:=Aside0.mk (blk_below B2.out hx)
 have HB3:=Aside0.mk (below_step HB2.out hx)
 clear hx B2 HB2
 clear q0 q1 q2 q3 q4 q5 q6 q7 q8 q9 q10 q11 q12
 obtain ⟨q0,q1,q2,q3,q4,q5,q6,q7,q8,q9,q10,q11,q12⟩:=cells13 B3.out
 clear H1 H2 H3
 have hmaxa : l0_4.length ≤ 9223372036854775807:=HR4.out.2.1
 obtain ⟨R1,hR1⟩ : ∃ R,R = (if anyB (fun x : S67=>bey5 a0_0 a0_3 x.f0 x.f2) z67 l0_11 l0_11.length 0 = true then some false else tidingsref05_Right.l2 k a0_0 a0_1 a0_3 l0_4 l0_5 l0_5.length 0):=⟨_,rfl⟩
 rw [← hR1] at h
 have Ha:=Aside0.mk h
 have DR1:=Aside0.mk hR1
 clear h hR1
 go_wp2_with fail
 try clear hltz
 go_loopg [3] l0_4.length (fun gg ss wr=>∃ kk : Nat,kk ≤ l0_4.length ∧ l0_4.length - kk ≤ gg ∧ ss = .int .i64 kk ∧ Aside0 (Below w3.heap.size w3 wr) ∧ Aside0 ((if anyB (fun x : S67=>bey5 a0_0 a0_3 x.f0 x.f2) z67 l0_4 (l0_4.length - kk) kk = true then some false else R1) = some r))
 case atStart=>exact ⟨0,Nat.zero_le _,by omega,rfl,⟨Below.refl _ _⟩,Ha⟩
 case round =>
  obtain ⟨kk,hkk,hgg,rfl,BW,HW⟩:=hrel
  clear q0 q1 q2 q3 q4 q5 q6 q7 q8 q9 q10 q11 q12
  clear Ha
  have hLL:=HW.out
  clear HW
  have B4:=Aside0.mk (blk_below B3.out BW.out)
  have HB4:=Aside0.mk (below_step HB3.out BW.out)
  obtain ⟨q0,q1,q2,q3,q4,q5,q6,q7,q8,q9,q10,q11,q12⟩:=cells13 B4.out
  by_cases hlt : kk < l0_4.length
  ·have hltz : (kk : Int) < (l0_4.length : Int):=by omega
   have h0k : (0 : Int) ≤ (kk : Int):=by omega
   rw [show l0_4.length - kk = (l0_4.length - (kk + 1)) + 1 by omega] at hLL
   obtain ⟨ax,e,p0,p1,p2⟩:=at_T67 (Kd.C_below HR4.out HB4.out) (kk : Int) h0k hltz
   clear p0 p1 p2
   subst e
   replace hLL : (if (bey5 a0_0 a0_3 (l0_4.getD kk z67).f0 (l0_4.getD kk z67).f2 || anyB (fun x : S67=>bey5 a0_0 a0_3 x.f0 x.f2) z67 l0_4 (l0_4.length - (kk + 1)) (kk + 1)) = true then some false else R1) = some r:=hLL
   have HP:=Aside0.mk (fun (W : World) (hb : Below wr.heap.size wr W)=>(show W.cell? (ax.add (kk * 3)) = some (.int .u8 (l0_4.getD kk z67).f0) ∧ W.cell? ⟨(ax.add (kk * 3)).block,(ax.add (kk * 3)).off + 2,none⟩ = some (.int .u32 (l0_4.getD kk z67).f2) by
    obtain ⟨ax',e,p0,p1,p2⟩:=at_T67 (Kd.C_below HR4.out (below_step HB4.out hb)) (kk : Int) h0k hltz
    obtain rfl:=Option.some.inj e
    have hX : rd_T67 l0_4 (kk : Int) = l0_4.getD kk z67:=rfl
    rw [hX] at p0 p1 p2
    simp only [Int.toNat_natCast] at p0 p1 p2
    exact ⟨p0,p2⟩))
   generalize l0_4.getD kk z67 = X at HP hLL
   have HN:=Aside0.mk hLL
   clear hLL
   by_cases h1 : X.f0 = a0_0
   ·have ka : decide (X.f0 = a0_0) = true:=decide_eq_true h1
    have kb : (X.f0 == a0_0) = true:=by simp [h1]
    by_cases h2 : a0_3 < X.f2
    ·have kc : decide (a0_3 < X.f2) = true:=decide_eq_true h2
     have kd : decide (X.f2 > a0_3) = true:=decide_eq_true h2
     obtain rfl : false = r:=by have hLL:=HN.out;unfold bey5 at hLL;rw [ka,kc] at hLL;exact Option.some.inj hLL
     clear h1 h2
     go_wp2_with fail
     refine region_qc (by kernel_rfl) (by kernel_rfl) ?_
     iterate 20 (
      refine @wpQuiet_step _ _ _ _ _ _ _ ?_
      intro K hK
      go_simp
      first
       | (refine hK _ ?_;clear hK K)
       | (apply Exists.intro
          refine ⟨fun w' hw0=>?_,hK _ ?_⟩
          have hw':=Qc.out hw0
          clear hw0
          (first
           | (with_reducible rfl)
           | (obtain ⟨q0,q1,q2,q3,q4,q5,q6,q7,q8,q9,q10,q11,q12⟩:=cells13 (blk_below B4.out hw')
              go_simp;with_reducible rfl)
           | (obtain ⟨p0,p2⟩:=HP.out w' hw'
              go_simp;with_reducible rfl))
          clear hK K))
     refine wpQuiet_nil ?_
     intro w11 hb11
     have HB11:=Aside0.mk (below_step HB4.out hb11)
     clear hb11
     go_wp2_with fail
     go_ret
     exact ⟨rfl,HB11.out⟩
    ·have kc : decide (a0_3 < X.f2) = false:=decide_eq_false h2
     have kd : decide (X.f2 > a0_3) = false:=decide_eq_false h2
     have HM:=Aside0.mk (show (if anyB (fun x : S67=>bey5 a0_0 a0_3 x.f0 x.f2) z67 l0_4 (l0_4.length - (kk + 1)) (kk + 1) = true then some false else R1) = some r by have hLL:=HN.out;unfold bey5 at hLL;rw [ka,kc] at hLL;exact hLL)
     clear h1 h2 HN
     go_wp2_with fail
     refine region_qc (by kernel_rfl) (by kernel_rfl) ?_
     iterate 20 (
      refine @wpQuiet_step _ _ _ _ _ _ _ ?_
      intro K hK
      go_simp
      first
       | (refine hK _ ?_;clear hK K)
       | (apply Exists.intro
          refine ⟨fun w' hw0=>?_,hK _ ?_⟩
          have hw':=Qc.out hw0
          clear hw0
          (first
           | (with_reducible rfl)
           | (obtain ⟨q0,q1,q2,q3,q4,q5,q6,q7,q8,q9,q10,q11,q12⟩:=cells13 (blk_below B4.out hw')
              go_simp;with_reducible rfl)
           | (obtain ⟨p0,p2⟩:=HP.out w' hw'
              go_simp;with_reducible rfl))
          clear hK K))
     refine wpQuiet_nil ?_
     intro w11 hb11
     have HBW11:=Aside0.mk (below_step BW.out hb11)
     clear hb11
     go_wp2_with fail
     go_roundg (l0_4.length - (kk + 1))
     case measure=>omega
     case rel=>exact ⟨kk + 1,by omega,Nat.le_refl _,by go_num,HBW11,HM⟩
   ·have ka : decide (X.f0 = a0_0) = false:=decide_eq_false h1
    have kb : (X.f0 == a0_0) = false:=by simp [h1]
    have HM:=Aside0.mk (show (if anyB (fun x : S67=>bey5 a0_0 a0_3 x.f0 x.f2) z67 l0_4 (l0_4.length - (kk + 1)) (kk + 1) = true then some false else R1) = some r by have hLL:=HN.out;unfold bey5 at hLL;rw [ka] at hLL;exact hLL)
    clear h1 HN
    go_wp2_with fail
    refine region_qc (by kernel_rfl) (by kernel_rfl) ?_
    iterate 20 (
     refine @wpQuiet_step _ _ _ _ _ _ _ ?_
     intro K hK
     go_simp
     first
      | (refine hK _ ?_;clear hK K)
      | (apply Exists.intro
         refine ⟨fun w' hw0=>?_,hK _ ?_⟩
         have hw':=Qc.out hw0
         clear hw0
         (first
          | (with_reducible rfl)
          | (obtain ⟨q0,q1,q2,q3,q4,q5,q6,q7,q8,q9,q10,q11,q12⟩:=cells13 (blk_below B4.out hw')
             go_simp;with_reducible rfl)
          | (obtain ⟨p0,p2⟩:=HP.out w' hw'
             go_simp;with_reducible rfl))
         clear hK K))
    refine wpQuiet_nil ?_
    intro w11 hb11
    have HBW11:=Aside0.mk (below_step BW.out hb11)
    clear hb11
    go_wp2_with fail
    go_roundg (l0_4.length - (kk + 1))
    case measure=>omega
    case rel=>exact ⟨kk + 1,by omega,Nat.le_refl _,by go_num,HBW11,HM⟩
  ·have hltz : ¬ (kk : Int) < (l0_4.length : Int):=by omega
   rw [show l0_4.length - kk = 0 by omega] at hLL
   have h : R1 = some r:=hLL
   rw [DR1.out] at h
   clear hLL DR1 hmaxa hlt hkk hgg B3 HB3 BW
   obtain ⟨w4,hwn⟩ : ∃ x,x = wr:=⟨_,rfl⟩
   subst hwn
   have hmaxb : l0_11.length ≤ 9223372036854775807:=HR11.out.2.1
   obtain ⟨R2,hR2⟩ : ∃ R,R = tidingsref05_Right.l2 k a0_0 a0_1 a0_3 l0_4 l0_5 l0_5.length 0:=⟨_,rfl⟩
   rw [← hR2] at h
   have Hb:=Aside0.mk h
   have DR2:=Aside0.mk hR2
   clear h hR2
   go_wp2_with fail
   try clear hltz
   go_loopg [4] l0_11.length (fun gg ss wr=>∃ kk : Nat,kk ≤ l0_11.length ∧ l0_11.length - kk ≤ gg ∧ ss = .int .i64 kk ∧ Aside0 (Below w4.heap.size w4 wr) ∧ Aside0 ((if anyB (fun x : S67=>bey5 a0_0 a0_3 x.f0 x.f2) z67 l0_11 (l0_11.length - kk) kk = true then some false else R2) = some r))
   case atStart=>exact ⟨0,Nat.zero_le _,by omega,rfl,⟨Below.refl _ _⟩,Hb⟩
   case round =>
    obtain ⟨kk,hkk,hgg,rfl,BW,HW⟩:=hrel
    clear q0 q1 q2 q3 q4 q5 q6 q7 q8 q9 q10 q11 q12
    clear Hb
    have hLL:=HW.out
    clear HW
    have B5:=Aside0.mk (blk_below B4.out BW.out)
    have HB5:=Aside0.mk (below_step HB4.out BW.out)
    obtain ⟨q0,q1,q2,q3,q4,q5,q6,q7,q8,q9,q10,q11,q12⟩:=cells13 B5.out
    by_cases hlt : kk < l0_11.length
    ·have hltz : (kk : Int) < (l0_11.length : Int):=by omega
     have h0k : (0 : Int) ≤ (kk : Int):=by omega
     rw [show l0_11.length - kk = (l0_11.length - (kk + 1)) + 1 by omega] at hLL
     obtain ⟨ax,e,p0,p1,p2⟩:=at_T67 (Kd.C_below HR11.out HB5.out) (kk : Int) h0k hltz
     clear p0 p1 p2
     subst e
     replace hLL : (if (bey5 a0_0 a0_3 (l0_11.getD kk z67).f0 (l0_11.getD kk z67).f2 || anyB (fun x : S67=>bey5 a0_0 a0_3 x.f0 x.f2) z67 l0_11 (l0_11.length - (kk + 1)) (kk + 1)) = true then some false else R2) = some r:=hLL
     have HP:=Aside0.mk (fun (W : World) (hb : Below wr.heap.size wr W)=>(show W.cell? (ax.add (kk * 3)) = some (.int .u8 (l0_11.getD kk z67).f0) ∧ W.cell? ⟨(ax.add (kk * 3)).block,(ax.add (kk * 3)).off + 2,none⟩ = some (.int .u32 (l0_11.getD kk z67).f2) by
      obtain ⟨ax',e,p0,p1,p2⟩:=at_T67 (Kd.C_below HR11.out (below_step HB5.out hb)) (kk : Int) h0k hltz
      obtain rfl:=Option.some.inj e
      have hX : rd_T67 l0_11 (kk : Int) = l0_11.getD kk z67:=rfl
      rw [hX] at p0 p1 p2
      simp only [Int.toNat_natCast] at p0 p1 p2
      exact ⟨p0,p2⟩))
     generalize l0_11.getD kk z67 = X at HP hLL
     have HN:=Aside0.mk hLL
     clear hLL
     by_cases h1 : X.f0 = a0_0
     ·have ka : decide (X.f0 = a0_0) = true:=decide_eq_true h1
      have kb : (X.f0 == a0_0) = true:=by simp [h1]
      by_cases h2 : a0_3 < X.f2
      ·have kc : decide (a0_3 < X.f2) = true:=decide_eq_true h2
       have kd : decide (X.f2 > a0_3) = true:=decide_eq_true h2
       obtain rfl : false = r:=by have hLL:=HN.out;unfold bey5 at hLL;rw [ka,kc] at hLL;exact Option.some.inj hLL
       clear h1 h2
       go_wp2_with fail
       refine region_qc (by kernel_rfl) (by kernel_rfl) ?_
       iterate 22 (
        refine @wpQuiet_step _ _ _ _ _ _ _ ?_
        intro K hK
        go_simp
        first
         | (refine hK _ ?_;clear hK K)
         | (apply Exists.intro
            refine ⟨fun w' hw0=>?_,hK _ ?_⟩
            have hw':=Qc.out hw0
            clear hw0
            (first
             | (with_reducible rfl)
             | (obtain ⟨q0,q1,q2,q3,q4,q5,q6,q7,q8,q9,q10,q11,q12⟩:=cells13 (blk_below B5.out hw')
                go_simp;with_reducible rfl)
             | (obtain ⟨p0,p2⟩:=HP.out w' hw'
                go_simp;with_reducible rfl))
            clear hK K))
       refine wpQuiet_nil ?_
       intro w11 hb11
       have HB11:=Aside0.mk (below_step HB5.out hb11)
       clear hb11
       go_wp2_with fail
       go_ret
       exact ⟨rfl,HB11.out⟩
      ·have kc : decide (a0_3 < X.f2) = false:=decide_eq_false h2
       have kd : decide (X.f2 > a0_3) = false:=decide_eq_false h2
       have HM:=Aside0.mk (show (if anyB (fun x : S67=>bey5 a0_0 a0_3 x.f0 x.f2) z67 l0_11 (l0_11.length - (kk + 1)) (kk + 1) = true then some false else R2) = some r by have hLL:=HN.out;unfold bey5 at hLL;rw [ka,kc] at hLL;exact hLL)
       clear h1 h2 HN
       go_wp2_with fail
       refine region_qc (by kernel_rfl) (by kernel_rfl) ?_
       iterate 22 (
        refine @wpQuiet_step _ _ _ _ _ _ _ ?_
        intro K hK
        go_simp
        first
         | (refine hK _ ?_;clear hK K)
         | (apply Exists.intro
            refine ⟨fun w' hw0=>?_,hK _ ?_⟩
            have hw':=Qc.out hw0
            clear hw0
            (first
             | (with_reducible rfl)
             | (obtain ⟨q0,q1,q2,q3,q4,q5,q6,q7,q8,q9,q10,q11,q12⟩:=cells13 (blk_below B5.out hw')
                go_simp;with_reducible rfl)
             | (obtain ⟨p0,p2⟩:=HP.out w' hw'
                go_simp;with_reducible rfl))
            clear hK K))
       refine wpQuiet_nil ?_
       intro w11 hb11
       have HBW11:=Aside0.mk (below_step BW.out hb11)
       clear hb11
       go_wp2_with fail
       go_roundg (l0_11.length - (kk + 1))
       case measure=>omega
       case rel=>exact ⟨kk + 1,by omega,Nat.le_refl _,by go_num,HBW11,HM⟩
     ·have ka : decide (X.f0 = a0_0) = false:=decide_eq_false h1
      have kb : (X.f0 == a0_0) = false:=by simp [h1]
      have HM:=Aside0.mk (show (if anyB (fun x : S67=>bey5 a0_0 a0_3 x.f0 x.f2) z67 l0_11 (l0_11.length - (kk + 1)) (kk + 1) = true then some false else R2) = some r by have hLL:=HN.out;unfold bey5 at hLL;rw [ka] at hLL;exact hLL)
      clear h1 HN
      go_wp2_with fail
      refine region_qc (by kernel_rfl) (by kernel_rfl) ?_
      iterate 22 (
       refine @wpQuiet_step _ _ _ _ _ _ _ ?_
       intro K hK
       go_simp
       first
        | (refine hK _ ?_;clear hK K)
        | (apply Exists.intro
           refine ⟨fun w' hw0=>?_,hK _ ?_⟩
           have hw':=Qc.out hw0
           clear hw0
           (first
            | (with_reducible rfl)
            | (obtain ⟨q0,q1,q2,q3,q4,q5,q6,q7,q8,q9,q10,q11,q12⟩:=cells13 (blk_below B5.out hw')
               go_simp;with_reducible rfl)
            | (obtain ⟨p0,p2⟩:=HP.out w' hw'
               go_simp;with_reducible rfl))
           clear hK K))
      refine wpQuiet_nil ?_
      intro w11 hb11
      have HBW11:=Aside0.mk (below_step BW.out hb11)
      clear hb11
      go_wp2_with fail
      go_roundg (l0_11.length - (kk + 1))
      case measure=>omega
      case rel=>exact ⟨kk + 1,by omega,Nat.le_refl _,by go_num,HBW11,HM⟩
    ·have hltz : ¬ (kk : Int) < (l0_11.length : Int):=by omega
     rw [show l0_11.length - kk = 0 by omega] at hLL
     have h : R2 = some r:=hLL
     rw [DR2.out] at h
     clear hLL DR2 hmaxb hlt hkk hgg B4 HB4 BW
     obtain ⟨w5,hwn⟩ : ∃ x,x = wr:=⟨_,rfl⟩
     subst hwn
     have hmaxc : l0_5.length ≤ 9223372036854775807:=HR5.out.2.1
     have HL:=Aside0.mk h
     clear h
     go_wp2_with fail
     clear hltz
     go_loopg [5] l0_5.length (fun gg ss wr=>∃ kk : Nat,kk ≤ l0_5.length ∧ l0_5.length - kk ≤ gg ∧ ss = .int .i64 kk ∧ Aside0 (Below w5.heap.size w5 wr) ∧ Aside0 (tidingsref05_Right.l2 k a0_0 a0_1 a0_3 l0_4 l0_5 (l0_5.length - kk) kk = some r))
     case atStart=>exact ⟨0,Nat.zero_le _,by omega,rfl,⟨Below.refl _ _⟩,HL⟩
     case round =>
      obtain ⟨kk,hkk,hgg,rfl,BW,HW⟩:=hrel
      clear q0 q1 q2 q3 q4 q5 q6 q7 q8 q9 q10 q11 q12
      clear HL
      have hLL:=HW.out
      clear HW
      have B6:=Aside0.mk (blk_below B5.out BW.out)
      have HB6:=Aside0.mk (below_step HB5.out BW.out)
      by_cases hlt : kk < l0_5.length
      ·have hltz : (kk : Int) < (l0_5.length : Int):=by omega
       have h0k : (0 : Int) ≤ (kk : Int):=by omega
       rw [show l0_5.length - kk = (l0_5.length - (kk + 1)) + 1 by omega] at hLL
       obtain ⟨ax,e,p0,p1,p2,p3,p4,p5,p6⟩:=at_T62 (Kd.C_below HR5.out HB6.out) (kk : Int) h0k hltz
       subst e
       have hX : rd_T62 l0_5 (kk : Int) = l0_5.getD kk z62:=rfl
       rw [hX] at p0 p1 p2 p3 p4 p5 p6
       clear hX
       simp only [Int.toNat_natCast] at p0 p1 p2 p3 p4 p5 p6
       unfold tidingsref05_Right.l2 at hLL
       generalize l0_5.getD kk z62 = X at hLL p0 p1 p2 p3 p4 p5 p6
       have B7:=Aside0.mk (blk_alloc B6.out (.cells #[.int .u8 X.f0,.int .u8 X.f1.f0,.int .u32 X.f1.f1,.int .u32 X.f1.f2,.int .i64 X.f2,.int .u8 X.f3,.int .u32 X.f4] 62))
       have E7:=Aside0.mk (blk_new wr (.cells #[.int .u8 X.f0,.int .u8 X.f1.f0,.int .u32 X.f1.f1,.int .u32 X.f1.f2,.int .i64 X.f2,.int .u8 X.f3,.int .u32 X.f4] 62))
       have HB7:=Aside0.mk (HB6.out.alloc HB6.out.size (.cells #[.int .u8 X.f0,.int .u8 X.f1.f0,.int .u32 X.f1.f1,.int .u32 X.f1.f2,.int .i64 X.f2,.int .u8 X.f3,.int .u32 X.f4] 62))
       have HBW7:=Aside0.mk (BW.out.alloc BW.out.size (.cells #[.int .u8 X.f0,.int .u8 X.f1.f0,.int .u32 X.f1.f1,.int .u32 X.f1.f2,.int .i64 X.f2,.int .u8 X.f3,.int .u32 X.f4] 62))
       obtain ⟨q0,q1,q2,q3,q4,q5,q6,q7,q8,q9,q10,q11,q12⟩:=cells13 B6.out
       obtain ⟨t0,t1,t2,t3,t4,t5,t6,t7,t8,t9,t10,t11,t12⟩:=cells13 B7.out
       obtain ⟨s0,s1,s2,s3,s4,s5,s6⟩:=cells7 E7.out
       by_cases hb : bey5 a0_0 a0_3 X.f1.f0 X.f1.f1 = true
       ·rw [if_pos hb] at hLL
        obtain rfl : false = r:=Option.some.inj hLL
        clear hLL
        unfold bey5 at hb
        rw [Bool.and_eq_true] at hb
        obtain ⟨ka,kc⟩:=hb
        have h1:=of_decide_eq_true ka
        have kb : (X.f1.f0 == a0_0) = true:=by simp [h1]
        have kd : decide (X.f1.f1 > a0_3) = true:=kc
        clear h1
        go_wp2_with fail
        go_ret
        exact ⟨rfl,HB7.out⟩
       ·rw [if_neg hb] at hLL
        have HQ:=Aside0.mk hLL
        clear hLL
        have hgo : (decide (X.f1.f0 = a0_0) = false) ∨ (decide (X.f1.f0 = a0_0) = true ∧ decide (a0_3 < X.f1.f1) = false):=by
         unfold bey5 at hb
         cases e1 : decide (X.f1.f0 = a0_0) with
         | false=>exact .inl rfl
         | true =>
          rw [e1] at hb
          exact .inr ⟨rfl,by simpa using hb⟩
        clear hb
        rcases hgo with ka | ⟨ka,kc⟩
        ·have kb : (X.f1.f0 == a0_0) = false:=by have:=of_decide_eq_false ka;simp [this]
         go_wp2_with fail
         have hLL:=HQ.out
         clear HQ
         clear t0 t1 t2 t3 t4 t5 t6 t7 t8 t9 t10 t11 t12 q0 q1 q2 q3 q4 q5 q6 q7 q8 q9 q10 q11 q12 s0 s1 s2 s3 s4 s5 s6 p0 p1 p2 p3 p4 p5 p6
         generalize wr.alloc (.cells #[.int .u8 X.f0,.int .u8 X.f1.f0,.int .u32 X.f1.f1,.int .u32 X.f1.f2,.int .i64 X.f2,.int .u8 X.f3,.int .u32 X.f4] 62) = w7 at B7 E7 HB7 HBW7 ⊢
         generalize wr.heap.size = g7 at E7 ⊢
         obtain ⟨q0,q1,q2,q3,q4,q5,q6,q7,q8,q9,q10,q11,q12⟩:=cells13 B7.out
         obtain ⟨s0,s1,s2,s3,s4,s5,s6⟩:=cells7 E7.out
         clear ka kb B6 HB6 BW
         obtain ⟨R3,hR3⟩ : ∃ R,R = ((tidingsref02_In.f k X.f0 X.f1.f0 X.f1.f1 X.f1.f2 X.f2 X.f3 X.f4 a0_1).bind fun c=>(tidingsref01_Has.f k l0_4 X.f1.f0 X.f1.f1).bind fun b=>if ((decide (X.f2 = 1) && !c) || (decide (X.f2 ≠ 2) && !b)) = true then some false else tidingsref05_Right.l2 k a0_0 a0_1 a0_3 l0_4 l0_5 (l0_5.length - (kk + 1)) (kk + 1)):=⟨_,rfl⟩
         replace hLL : (if anyB (twin5 X.f1.f0 X.f1.f1) z62 l0_5 kk 0 = true then some false else R3) = some r:=by rw [hR3];exact hLL
         have HJ:=Aside0.mk hLL
         have DR3:=Aside0.mk hR3
         clear hLL hR3
         go_wp2_with fail
         go_loopg [7] kk (fun gg ss wr=>∃ jj : Nat,jj ≤ kk ∧ kk - jj ≤ gg ∧ ss = .int .i64 jj ∧ Aside0 (Below w7.heap.size w7 wr) ∧ Aside0 ((if anyB (twin5 X.f1.f0 X.f1.f1) z62 l0_5 (kk - jj) jj = true then some false else R3) = some r))
         case atStart=>exact ⟨0,Nat.zero_le _,by omega,rfl,⟨Below.refl _ _⟩,HJ⟩
         case round =>
          obtain ⟨jj,hjj,hgj,rfl,BJ,HW⟩:=hrel
          clear HJ
          clear q0 q1 q2 q3 q4 q5 q6 q7 q8 q9 q10 q11 q12 s0 s1 s2 s3 s4 s5 s6
          have hLJ:=HW.out
          clear HW
          have B8:=Aside0.mk (blk_below B7.out BJ.out)
          have E8:=Aside0.mk (blk_below E7.out BJ.out)
          have HB8:=Aside0.mk (below_step HB7.out BJ.out)
          have HBW8:=Aside0.mk (below_step HBW7.out BJ.out)
          by_cases hlj : jj < kk
          ·have hljz : (jj : Int) < (kk : Int):=by omega
           have hljl : (jj : Int) < (l0_5.length : Int):=by omega
           have h0j : (0 : Int) ≤ (jj : Int):=by omega
           rw [show kk - jj = (kk - (jj + 1)) + 1 by omega] at hLJ
           replace hLJ : (if (twin5 X.f1.f0 X.f1.f1 (l0_5.getD jj z62) || anyB (twin5 X.f1.f0 X.f1.f1) z62 l0_5 (kk - (jj + 1)) (jj + 1)) = true then some false else R3) = some r:=hLJ
           have HP:=Aside0.mk (fun (W : World) (hb : Below wr.heap.size wr W)=>(show W.cell? ⟨(ax.add (jj * 7)).block,(ax.add (jj * 7)).off + 1,none⟩ = some (.int .u8 (l0_5.getD jj z62).f1.f0) ∧ W.cell? ⟨(ax.add (jj * 7)).block,(ax.add (jj * 7)).off + 2,none⟩ = some (.int .u32 (l0_5.getD jj z62).f1.f1) by
            obtain ⟨ax',e,p0,p1,p2,p3,p4,p5,p6⟩:=at_T62 (Kd.C_below HR5.out (below_step HB8.out hb)) (jj : Int) h0j hljl
            obtain rfl:=Option.some.inj e
            have hX : rd_T62 l0_5 (jj : Int) = l0_5.getD jj z62:=rfl
            rw [hX] at p1 p2
            simp only [Int.toNat_natCast] at p1 p2
            exact ⟨p1,p2⟩))
           generalize l0_5.getD jj z62 = Y at HP hLJ
           have HN:=Aside0.mk hLJ
           clear hLJ
           by_cases h1 : Y.f1.f0 = X.f1.f0
           ·have ka : decide (Y.f1.f0 = X.f1.f0) = true:=decide_eq_true h1
            have kb : (Y.f1.f0 == X.f1.f0) = true:=by simp [h1]
            by_cases h2 : Y.f1.f1 = X.f1.f1
            ·have kc : decide (Y.f1.f1 = X.f1.f1) = true:=decide_eq_true h2
             have kd : (Y.f1.f1 == X.f1.f1) = true:=by simp [h2]
             obtain rfl : false = r:=by have hLL:=HN.out;unfold twin5 at hLL;rw [ka,kc] at hLL;exact Option.some.inj hLL
             clear h1 h2
             go_wp2_with fail
             refine region_qc (by kernel_rfl) (by kernel_rfl) ?_
             iterate 24 (
              refine @wpQuiet_step _ _ _ _ _ _ _ ?_
              intro K hK
              go_simp
              first
               | (refine hK _ ?_;clear hK K)
               | (apply Exists.intro
                  refine ⟨fun w' hw0=>?_,hK _ ?_⟩
                  have hw':=Qc.out hw0
                  clear hw0
                  (first
                   | (with_reducible rfl)
                   | (obtain ⟨q0,q1,q2,q3,q4,q5,q6,q7,q8,q9,q10,q11,q12⟩:=cells13 (blk_below B8.out hw')
                      go_simp;with_reducible rfl)
                   | (obtain ⟨p1,p2⟩:=HP.out w' hw'
                      go_simp;with_reducible rfl)
                   | (obtain ⟨s0,s1,s2,s3,s4,s5,s6⟩:=cells7 (blk_below E8.out hw')
                      go_simp;with_reducible rfl))
                  clear hK K))
             refine wpQuiet_nil ?_
             intro w11 hb11
             have HB11:=Aside0.mk (below_step HB8.out hb11)
             clear hb11
             go_wp2_with fail
             go_ret
             exact ⟨rfl,HB11.out⟩
            ·have kc : decide (Y.f1.f1 = X.f1.f1) = false:=decide_eq_false h2
             have kd : (Y.f1.f1 == X.f1.f1) = false:=by simp [h2]
             have HM:=Aside0.mk (show (if anyB (twin5 X.f1.f0 X.f1.f1) z62 l0_5 (kk - (jj + 1)) (jj + 1) = true then some false else R3) = some r by have hLL:=HN.out;unfold twin5 at hLL ⊢;rw [ka,kc] at hLL;exact hLL)
             clear h1 h2 HN
             go_wp2_with fail
             refine region_qc (by kernel_rfl) (by kernel_rfl) ?_
             iterate 24 (
              refine @wpQuiet_step _ _ _ _ _ _ _ ?_
              intro K hK
              go_simp
              first
               | (refine hK _ ?_;clear hK K)
               | (apply Exists.intro
                  refine ⟨fun w' hw0=>?_,hK _ ?_⟩
                  have hw':=Qc.out hw0
                  clear hw0
                  (first
                   | (with_reducible rfl)
                   | (obtain ⟨q0,q1,q2,q3,q4,q5,q6,q7,q8,q9,q10,q11,q12⟩:=cells13 (blk_below B8.out hw')
                      go_simp;with_reducible rfl)
                   | (obtain ⟨p1,p2⟩:=HP.out w' hw'
                      go_simp;with_reducible rfl)
                   | (obtain ⟨s0,s1,s2,s3,s4,s5,s6⟩:=cells7 (blk_below E8.out hw')
                      go_simp;with_reducible rfl))
                  clear hK K))
             refine wpQuiet_nil ?_
             intro w11 hb11
             have HBJ11:=Aside0.mk (below_step BJ.out hb11)
             clear hb11
             go_wp2_with fail
             go_roundg (kk - (jj + 1))
             case measure=>omega
             case rel=>exact ⟨jj + 1,by omega,Nat.le_refl _,by go_num,HBJ11,HM⟩
           ·have ka : decide (Y.f1.f0 = X.f1.f0) = false:=decide_eq_false h1
            have kb : (Y.f1.f0 == X.f1.f0) = false:=by simp [h1]
            have HM:=Aside0.mk (show (if anyB (twin5 X.f1.f0 X.f1.f1) z62 l0_5 (kk - (jj + 1)) (jj + 1) = true then some false else R3) = some r by have hLL:=HN.out;unfold twin5 at hLL ⊢;rw [ka] at hLL;exact hLL)
            clear h1 HN
            go_wp2_with fail
            refine region_qc (by kernel_rfl) (by kernel_rfl) ?_
            iterate 24 (
             refine @wpQuiet_step _ _ _ _ _ _ _ ?_
             intro K hK
             go_simp
             first
              | (refine hK _ ?_;clear hK K)
              | (apply Exists.intro
                 refine ⟨fun w' hw0=>?_,hK _ ?_⟩
                 have hw':=Qc.out hw0
                 clear hw0
                 (first
                  | (with_reducible rfl)
                  | (obtain ⟨q0,q1,q2,q3,q4,q5,q6,q7,q8,q9,q10,q11,q12⟩:=cells13 (blk_below B8.out hw')
                     go_simp;with_reducible rfl)
                  | (obtain ⟨p1,p2⟩:=HP.out w' hw'
                     go_simp;with_reducible rfl)
                  | (obtain ⟨s0,s1,s2,s3,s4,s5,s6⟩:=cells7 (blk_below E8.out hw')
                     go_simp;with_reducible rfl))
                 clear hK K))
            refine wpQuiet_nil ?_
            intro w11 hb11
            have HBJ11:=Aside0.mk (below_step BJ.out hb11)
            clear hb11
            go_wp2_with fail
            go_roundg (kk - (jj + 1))
            case measure=>omega
            case rel=>exact ⟨jj + 1,by omega,Nat.le_refl _,by go_num,HBJ11,HM⟩
          ·have hljz : ¬ (jj : Int) < (kk : Int):=by omega
           rw [show kk - jj = 0 by omega] at hLJ
           replace hLJ : R3 = some r:=hLJ
           clear hlj hjj hgj B7 E7 HB7 HBW7 BJ
           have hLL : ((tidingsref02_In.f k X.f0 X.f1.f0 X.f1.f1 X.f1.f2 X.f2 X.f3 X.f4 a0_1).bind fun c=>(tidingsref01_Has.f k l0_4 X.f1.f0 X.f1.f1).bind fun b=>if ((decide (X.f2 = 1) && !c) || (decide (X.f2 ≠ 2) && !b)) = true then some false else tidingsref05_Right.l2 k a0_0 a0_1 a0_3 l0_4 l0_5 (l0_5.length - (kk + 1)) (kk + 1)) = some r:=by rw [← DR3.out];exact hLJ
           clear hLJ DR3
           obtain ⟨cI,hcI,hLL⟩:=Option.bind_eq_some_iff.mp hLL
           obtain ⟨bH,hbH,hLL⟩:=Option.bind_eq_some_iff.mp hLL
           have HI:=Aside0.mk hcI
           have HKN:=Aside0.mk (show tidingsref05_Known.f k a0_0 a0_1 a0_2 a0_3 l0_4 l0_5 a0_6 a0_7 a0_8 a0_9 a0_10 l0_11 a0_12 X.f0 X.f1.f0 X.f1.f1 X.f1.f2 X.f2 X.f3 X.f4 = some bH by unfold tidingsref05_Known.f;rw [hbH];rfl)
           have HN:=Aside0.mk hLL
           clear hcI hbH hLL
           obtain ⟨q0,q1,q2,q3,q4,q5,q6,q7,q8,q9,q10,q11,q12⟩:=cells13 B8.out
           obtain ⟨s0,s1,s2,s3,s4,s5,s6⟩:=cells7 E8.out
           by_cases h1 : X.f2 = 1
           ·have ka : decide (X.f2 = 1) = true:=decide_eq_true h1
            have kb : (X.f2 == 1) = true:=by simp [h1]
            have kc : decide (X.f2 ≠ 2) = true:=decide_eq_true (by omega)
            have kd : (X.f2 != 2) = true:=by simp [h1]
            have ke : decide (X.f2 = 2) = false:=decide_eq_false (by omega)
            clear h1
            cases cI with
            | false =>
             obtain rfl : false = r:=by have hLL:=HN.out;rw [ka] at hLL;exact Option.some.inj hLL
             go_wp2_with fail
             refine (tidingsref02_In.calls k _ _ _ _ _ _ _ _ false _ HI.out).mono ?_
             rintro ev w20 ⟨rfl,hx⟩
             have HB20:=Aside0.mk (below_step HB8.out hx)
             clear hx
             go_wp2_with fail
             go_ret
             exact ⟨rfl,HB20.out⟩
            | true =>
             go_wp2_with fail
             refine (tidingsref02_In.calls k _ _ _ _ _ _ _ _ true _ HI.out).mono ?_
             rintro ev w20 ⟨rfl,hx⟩
             have B20:=Aside0.mk (blk_below B8.out hx)
             have E20:=Aside0.mk (blk_below E8.out hx)
             have HB20:=Aside0.mk (below_step HB8.out hx)
             have HBW20:=Aside0.mk (below_step HBW8.out hx)
             clear hx q0 q1 q2 q3 q4 q5 q6 q7 q8 q9 q10 q11 q12 s0 s1 s2 s3 s4 s5 s6
             obtain ⟨q0,q1,q2,q3,q4,q5,q6,q7,q8,q9,q10,q11,q12⟩:=cells13 B20.out
             obtain ⟨s0,s1,s2,s3,s4,s5,s6⟩:=cells7 E20.out
             cases bH with
             | false =>
              obtain rfl : false = r:=by have hLL:=HN.out;rw [ka,kc] at hLL;exact Option.some.inj hLL
              clear HN
              go_wp2_with fail
              refine (tidingsref05_Known.calls k a0_0 a0_1 a0_2 a0_3 _ _ l0_4 _ _ l0_5 a0_6 a0_7 a0_8 a0_9 a0_10 _ _ l0_11 a0_12 X.f0 X.f1.f0 X.f1.f1 X.f1.f2 X.f2 X.f3 X.f4 false _ (Kd.C_below HR4.out HB20.out) HC4.out (Kd.C_below HR5.out HB20.out) HC5.out (Kd.C_below HR11.out HB20.out) HC11.out HKN.out).mono ?_
              rintro ev w21 ⟨rfl,hx⟩
              have HB21:=Aside0.mk (below_step HB20.out hx)
              have HBW21:=Aside0.mk (below_step HBW20.out hx)
              clear hx
              go_wp2_with fail
              go_ret
              exact ⟨rfl,HB21.out⟩
             | true =>
              have HM:=Aside0.mk (show tidingsref05_Right.l2 k a0_0 a0_1 a0_3 l0_4 l0_5 (l0_5.length - (kk + 1)) (kk + 1) = some r by have hLL:=HN.out;rw [ka,kc] at hLL;exact hLL)
              clear HN
              go_wp2_with fail
              refine (tidingsref05_Known.calls k a0_0 a0_1 a0_2 a0_3 _ _ l0_4 _ _ l0_5 a0_6 a0_7 a0_8 a0_9 a0_10 _ _ l0_11 a0_12 X.f0 X.f1.f0 X.f1.f1 X.f1.f2 X.f2 X.f3 X.f4 true _ (Kd.C_below HR4.out HB20.out) HC4.out (Kd.C_below HR5.out HB20.out) HC5.out (Kd.C_below HR11.out HB20.out) HC11.out HKN.out).mono ?_
              rintro ev w21 ⟨rfl,hx⟩
              have HB21:=Aside0.mk (below_step HB20.out hx)
              have HBW21:=Aside0.mk (below_step HBW20.out hx)
              clear hx
              go_wp2_with fail
              go_roundg (l0_5.length - (kk + 1))
              case measure=>omega
              case rel=>exact ⟨kk + 1,by omega,Nat.le_refl _,by go_num,HBW21,HM⟩
           ·have ka : decide (X.f2 = 1) = false:=decide_eq_false h1
            have kb : (X.f2 == 1) = false:=by simp [h1]
            clear h1
            by_cases h2 : X.f2 = 2
            ·have kc : decide (X.f2 ≠ 2) = false:=decide_eq_false (fun h=>h h2)
             have kd : (X.f2 != 2) = false:=by simp [h2]
             have ke : decide (X.f2 = 2) = true:=decide_eq_true h2
             clear h2
             have HM:=Aside0.mk (show tidingsref05_Right.l2 k a0_0 a0_1 a0_3 l0_4 l0_5 (l0_5.length - (kk + 1)) (kk + 1) = some r by have hLL:=HN.out;rw [ka,kc] at hLL;exact hLL)
             clear HN
             go_wp2_with fail
             go_roundg (l0_5.length - (kk + 1))
             case measure=>omega
             case rel=>exact ⟨kk + 1,by omega,Nat.le_refl _,by go_num,HBW8,HM⟩
            ·have kc : decide (X.f2 ≠ 2) = true:=decide_eq_true h2
             have kd : (X.f2 != 2) = true:=by simp [h2]
             have ke : decide (X.f2 = 2) = false:=decide_eq_false h2
             clear h2
             cases bH with
             | false =>
              obtain rfl : false = r:=by have hLL:=HN.out;rw [ka,kc] at hLL;exact Option.some.inj hLL
              clear HN
              go_wp2_with fail
              refine (tidingsref05_Known.calls k a0_0 a0_1 a0_2 a0_3 _ _ l0_4 _ _ l0_5 a0_6 a0_7 a0_8 a0_9 a0_10 _ _ l0_11 a0_12 X.f0 X.f1.f0 X.f1.f1 X.f1.f2 X.f2 X.f3 X.f4 false _ (Kd.C_below HR4.out HB8.out) HC4.out (Kd.C_below HR5.out HB8.out) HC5.out (Kd.C_below HR11.out HB8.out) HC11.out HKN.out).mono ?_
              rintro ev w21 ⟨rfl,hx⟩
              have HB21:=Aside0.mk (below_step HB8.out hx)
              have HBW21:=Aside0.mk (below_step HBW8.out hx)
              clear hx
              go_wp2_with fail
              go_ret
              exact ⟨rfl,HB21.out⟩
             | true =>
              have HM:=Aside0.mk (show tidingsref05_Right.l2 k a0_0 a0_1 a0_3 l0_4 l0_5 (l0_5.length - (kk + 1)) (kk + 1) = some r by have hLL:=HN.out;rw [ka,kc] at hLL;exact hLL)
              clear HN
              go_wp2_with fail
              refine (tidingsref05_Known.calls k a0_0 a0_1 a0_2 a0_3 _ _ l0_4 _ _ l0_5 a0_6 a0_7 a0_8 a0_9 a0_10 _ _ l0_11 a0_12 X.f0 X.f1.f0 X.f1.f1 X.f1.f2 X.f2 X.f3 X.f4 true _ (Kd.C_below HR4.out HB8.out) HC4.out (Kd.C_below HR5.out HB8.out) HC5.out (Kd.C_below HR11.out HB8.out) HC11.out HKN.out).mono ?_
              rintro ev w21 ⟨rfl,hx⟩
              have HB21:=Aside0.mk (below_step HB8.out hx)
              have HBW21:=Aside0.mk (below_step HBW8.out hx)
              clear hx
              go_wp2_with fail
              go_roundg (l0_5.length - (kk + 1))
              case measure=>omega
              case rel=>exact ⟨kk + 1,by omega,Nat.le_refl _,by go_num,HBW21,HM⟩
        ·have kb : (X.f1.f0 == a0_0) = true:=by have:=of_decide_eq_true ka;simp [this]
         have kd : decide (X.f1.f1 > a0_3) = false:=kc
         go_wp2_with fail
         have hLL:=HQ.out
         clear HQ
         clear t0 t1 t2 t3 t4 t5 t6 t7 t8 t9 t10 t11 t12 q0 q1 q2 q3 q4 q5 q6 q7 q8 q9 q10 q11 q12 s0 s1 s2 s3 s4 s5 s6 p0 p1 p2 p3 p4 p5 p6
         generalize wr.alloc (.cells #[.int .u8 X.f0,.int .u8 X.f1.f0,.int .u32 X.f1.f1,.int .u32 X.f1.f2,.int .i64 X.f2,.int .u8 X.f3,.int .u32 X.f4] 62) = w7 at B7 E7 HB7 HBW7 ⊢
         generalize wr.heap.size = g7 at E7 ⊢
         obtain ⟨q0,q1,q2,q3,q4,q5,q6,q7,q8,q9,q10,q11,q12⟩:=cells13 B7.out
         obtain ⟨s0,s1,s2,s3,s4,s5,s6⟩:=cells7 E7.out
         clear ka kb B6 HB6 BW
         obtain ⟨R3,hR3⟩ : ∃ R,R = ((tidingsref02_In.f k X.f0 X.f1.f0 X.f1.f1 X.f1.f2 X.f2 X.f3 X.f4 a0_1).bind fun c=>(tidingsref01_Has.f k l0_4 X.f1.f0 X.f1.f1).bind fun b=>if ((decide (X.f2 = 1) && !c) || (decide (X.f2 ≠ 2) && !b)) = true then some false else tidingsref05_Right.l2 k a0_0 a0_1 a0_3 l0_4 l0_5 (l0_5.length - (kk + 1)) (kk + 1)):=⟨_,rfl⟩
         replace hLL : (if anyB (twin5 X.f1.f0 X.f1.f1) z62 l0_5 kk 0 = true then some false else R3) = some r:=by rw [hR3];exact hLL
         have HJ:=Aside0.mk hLL
         have DR3:=Aside0.mk hR3
         clear hLL hR3
         go_wp2_with fail
         go_loopg [7] kk (fun gg ss wr=>∃ jj : Nat,jj ≤ kk ∧ kk - jj ≤ gg ∧ ss = .int .i64 jj ∧ Aside0 (Below w7.heap.size w7 wr) ∧ Aside0 ((if anyB (twin5 X.f1.f0 X.f1.f1) z62 l0_5 (kk - jj) jj = true then some false else R3) = some r))
         case atStart=>exact ⟨0,Nat.zero_le _,by omega,rfl,⟨Below.refl _ _⟩,HJ⟩
         case round =>
          obtain ⟨jj,hjj,hgj,rfl,BJ,HW⟩:=hrel
          clear HJ
          clear q0 q1 q2 q3 q4 q5 q6 q7 q8 q9 q10 q11 q12 s0 s1 s2 s3 s4 s5 s6
          have hLJ:=HW.out
          clear HW
          have B8:=Aside0.mk (blk_below B7.out BJ.out)
          have E8:=Aside0.mk (blk_below E7.out BJ.out)
          have HB8:=Aside0.mk (below_step HB7.out BJ.out)
          have HBW8:=Aside0.mk (below_step HBW7.out BJ.out)
          by_cases hlj : jj < kk
          ·have hljz : (jj : Int) < (kk : Int):=by omega
           have hljl : (jj : Int) < (l0_5.length : Int):=by omega
           have h0j : (0 : Int) ≤ (jj : Int):=by omega
           rw [show kk - jj = (kk - (jj + 1)) + 1 by omega] at hLJ
           replace hLJ : (if (twin5 X.f1.f0 X.f1.f1 (l0_5.getD jj z62) || anyB (twin5 X.f1.f0 X.f1.f1) z62 l0_5 (kk - (jj + 1)) (jj + 1)) = true then some false else R3) = some r:=hLJ
           have HP:=Aside0.mk (fun (W : World) (hb : Below wr.heap.size wr W)=>(show W.cell? ⟨(ax.add (jj * 7)).block,(ax.add (jj * 7)).off + 1,none⟩ = some (.int .u8 (l0_5.getD jj z62).f1.f0) ∧ W.cell? ⟨(ax.add (jj * 7)).block,(ax.add (jj * 7)).off + 2,none⟩ = some (.int .u32 (l0_5.getD jj z62).f1.f1) by
            obtain ⟨ax',e,p0,p1,p2,p3,p4,p5,p6⟩:=at_T62 (Kd.C_below HR5.out (below_step HB8.out hb)) (jj : Int) h0j hljl
            obtain rfl:=Option.some.inj e
            have hX : rd_T62 l0_5 (jj : Int) = l0_5.getD jj z62:=rfl
            rw [hX] at p1 p2
            simp only [Int.toNat_natCast] at p1 p2
            exact ⟨p1,p2⟩))
           generalize l0_5.getD jj z62 = Y at HP hLJ
           have HN:=Aside0.mk hLJ
           clear hLJ
           by_cases h1 : Y.f1.f0 = X.f1.f0
           ·have ka : decide (Y.f1.f0 = X.f1.f0) = true:=decide_eq_true h1
            have kb : (Y.f1.f0 == X.f1.f0) = true:=by simp [h1]
            by_cases h2 : Y.f1.f1 = X.f1.f1
            ·have kc : decide (Y.f1.f1 = X.f1.f1) = true:=decide_eq_true h2
             have kd : (Y.f1.f1 == X.f1.f1) = true:=by simp [h2]
             obtain rfl : false = r:=by have hLL:=HN.out;unfold twin5 at hLL;rw [ka,kc] at hLL;exact Option.some.inj hLL
             clear h1 h2
             go_wp2_with fail
             refine region_qc (by kernel_rfl) (by kernel_rfl) ?_
             iterate 24 (
              refine @wpQuiet_step _ _ _ _ _ _ _ ?_
              intro K hK
              go_simp
              first
               | (refine hK _ ?_;clear hK K)
               | (apply Exists.intro
                  refine ⟨fun w' hw0=>?_,hK _ ?_⟩
                  have hw':=Qc.out hw0
                  clear hw0
                  (first
                   | (with_reducible rfl)
                   | (obtain ⟨q0,q1,q2,q3,q4,q5,q6,q7,q8,q9,q10,q11,q12⟩:=cells13 (blk_below B8.out hw')
                      go_simp;with_reducible rfl)
                   | (obtain ⟨p1,p2⟩:=HP.out w' hw'
                      go_simp;with_reducible rfl)
                   | (obtain ⟨s0,s1,s2,s3,s4,s5,s6⟩:=cells7 (blk_below E8.out hw')
                      go_simp;with_reducible rfl))
                  clear hK K))
             refine wpQuiet_nil ?_
             intro w11 hb11
             have HB11:=Aside0.mk (below_step HB8.out hb11)
             clear hb11
             go_wp2_with fail
             go_ret
             exact ⟨rfl,HB11.out⟩
            ·have kc : decide (Y.f1.f1 = X.f1.f1) = false:=decide_eq_false h2
             have kd : (Y.f1.f1 == X.f1.f1) = false:=by simp [h2]
             have HM:=Aside0.mk (show (if anyB (twin5 X.f1.f0 X.f1.f1) z62 l0_5 (kk - (jj + 1)) (jj + 1) = true then some false else R3) = some r by have hLL:=HN.out;unfold twin5 at hLL ⊢;rw [ka,kc] at hLL;exact hLL)
             clear h1 h2 HN
             go_wp2_with fail
             refine region_qc (by kernel_rfl) (by kernel_rfl) ?_
             iterate 24 (
              refine @wpQuiet_step _ _ _ _ _ _ _ ?_
              intro K hK
              go_simp
              first
               | (refine hK _ ?_;clear hK K)
               | (apply Exists.intro
                  refine ⟨fun w' hw0=>?_,hK _ ?_⟩
                  have hw':=Qc.out hw0
                  clear hw0
                  (first
                   | (with_reducible rfl)
                   | (obtain ⟨q0,q1,q2,q3,q4,q5,q6,q7,q8,q9,q10,q11,q12⟩:=cells13 (blk_below B8.out hw')
                      go_simp;with_reducible rfl)
                   | (obtain ⟨p1,p2⟩:=HP.out w' hw'
                      go_simp;with_reducible rfl)
                   | (obtain ⟨s0,s1,s2,s3,s4,s5,s6⟩:=cells7 (blk_below E8.out hw')
                      go_simp;with_reducible rfl))
                  clear hK K))
             refine wpQuiet_nil ?_
             intro w11 hb11
             have HBJ11:=Aside0.mk (below_step BJ.out hb11)
             clear hb11
             go_wp2_with fail
             go_roundg (kk - (jj + 1))
             case measure=>omega
             case rel=>exact ⟨jj + 1,by omega,Nat.le_refl _,by go_num,HBJ11,HM⟩
           ·have ka : decide (Y.f1.f0 = X.f1.f0) = false:=decide_eq_false h1
            have kb : (Y.f1.f0 == X.f1.f0) = false:=by simp [h1]
            have HM:=Aside0.mk (show (if anyB (twin5 X.f1.f0 X.f1.f1) z62 l0_5 (kk - (jj + 1)) (jj + 1) = true then some false else R3) = some r by have hLL:=HN.out;unfold twin5 at hLL ⊢;rw [ka] at hLL;exact hLL)
            clear h1 HN
            go_wp2_with fail
            refine region_qc (by kernel_rfl) (by kernel_rfl) ?_
            iterate 24 (
             refine @wpQuiet_step _ _ _ _ _ _ _ ?_
             intro K hK
             go_simp
             first
              | (refine hK _ ?_;clear hK K)
              | (apply Exists.intro
                 refine ⟨fun w' hw0=>?_,hK _ ?_⟩
                 have hw':=Qc.out hw0
                 clear hw0
                 (first
                  | (with_reducible rfl)
                  | (obtain ⟨q0,q1,q2,q3,q4,q5,q6,q7,q8,q9,q10,q11,q12⟩:=cells13 (blk_below B8.out hw')
                     go_simp;with_reducible rfl)
                  | (obtain ⟨p1,p2⟩:=HP.out w' hw'
                     go_simp;with_reducible rfl)
                  | (obtain ⟨s0,s1,s2,s3,s4,s5,s6⟩:=cells7 (blk_below E8.out hw')
                     go_simp;with_reducible rfl))
                 clear hK K))
            refine wpQuiet_nil ?_
            intro w11 hb11
            have HBJ11:=Aside0.mk (below_step BJ.out hb11)
            clear hb11
            go_wp2_with fail
            go_roundg (kk - (jj + 1))
            case measure=>omega
            case rel=>exact ⟨jj + 1,by omega,Nat.le_refl _,by go_num,HBJ11,HM⟩
          ·have hljz : ¬ (jj : Int) < (kk : Int):=by omega
           rw [show kk - jj = 0 by omega] at hLJ
           replace hLJ : R3 = some r:=hLJ
           clear hlj hjj hgj B7 E7 HB7 HBW7 BJ
           have hLL : ((tidingsref02_In.f k X.f0 X.f1.f0 X.f1.f1 X.f1.f2 X.f2 X.f3 X.f4 a0_1).bind fun c=>(tidingsref01_Has.f k l0_4 X.f1.f0 X.f1.f1).bind fun b=>if ((decide (X.f2 = 1) && !c) || (decide (X.f2 ≠ 2) && !b)) = true then some false else tidingsref05_Right.l2 k a0_0 a0_1 a0_3 l0_4 l0_5 (l0_5.length - (kk + 1)) (kk + 1)) = some r:=by rw [← DR3.out];exact hLJ
           clear hLJ DR3
           obtain ⟨cI,hcI,hLL⟩:=Option.bind_eq_some_iff.mp hLL
           obtain ⟨bH,hbH,hLL⟩:=Option.bind_eq_some_iff.mp hLL
           have HI:=Aside0.mk hcI
           have HKN:=Aside0.mk (show tidingsref05_Known.f k a0_0 a0_1 a0_2 a0_3 l0_4 l0_5 a0_6 a0_7 a0_8 a0_9 a0_10 l0_11 a0_12 X.f0 X.f1.f0 X.f1.f1 X.f1.f2 X.f2 X.f3 X.f4 = some bH by unfold tidingsref05_Known.f;rw [hbH];rfl)
           have HN:=Aside0.mk hLL
           clear hcI hbH hLL
           obtain ⟨q0,q1,q2,q3,q4,q5,q6,q7,q8,q9,q10,q11,q12⟩:=cells13 B8.out
           obtain ⟨s0,s1,s2,s3,s4,s5,s6⟩:=cells7 E8.out
           by_cases h1 : X.f2 = 1
           ·have ka : decide (X.f2 = 1) = true:=decide_eq_true h1
            have kb : (X.f2 == 1) = true:=by simp [h1]
            have kc : decide (X.f2 ≠ 2) = true:=decide_eq_true (by omega)
            have kd : (X.f2 != 2) = true:=by simp [h1]
            have ke : decide (X.f2 = 2) = false:=decide_eq_false (by omega)
            clear h1
            cases cI with
            | false =>
             obtain rfl : false = r:=by have hLL:=HN.out;rw [ka] at hLL;exact Option.some.inj hLL
             go_wp2_with fail
             refine (tidingsref02_In.calls k _ _ _ _ _ _ _ _ false _ HI.out).mono ?_
             rintro ev w20 ⟨rfl,hx⟩
             have HB20:=Aside0.mk (below_step HB8.out hx)
             clear hx
             go_wp2_with fail
             go_ret
             exact ⟨rfl,HB20.out⟩
            | true =>
             go_wp2_with fail
             refine (tidingsref02_In.calls k _ _ _ _ _ _ _ _ true _ HI.out).mono ?_
             rintro ev w20 ⟨rfl,hx⟩
             have B20:=Aside0.mk (blk_below B8.out hx)
             have E20:=Aside0.mk (blk_below E8.out hx)
             have HB20:=Aside0.mk (below_step HB8.out hx)
             have HBW20:=Aside0.mk (below_step HBW8.out hx)
             clear hx q0 q1 q2 q3 q4 q5 q6 q7 q8 q9 q10 q11 q12 s0 s1 s2 s3 s4 s5 s6
             obtain ⟨q0,q1,q2,q3,q4,q5,q6,q7,q8,q9,q10,q11,q12⟩:=cells13 B20.out
             obtain ⟨s0,s1,s2,s3,s4,s5,s6⟩:=cells7 E20.out
             cases bH with
             | false =>
              obtain rfl : false = r:=by have hLL:=HN.out;rw [ka,kc] at hLL;exact Option.some.inj hLL
              clear HN
              go_wp2_with fail
              refine (tidingsref05_Known.calls k a0_0 a0_1 a0_2 a0_3 _ _ l0_4 _ _ l0_5 a0_6 a0_7 a0_8 a0_9 a0_10 _ _ l0_11 a0_12 X.f0 X.f1.f0 X.f1.f1 X.f1.f2 X.f2 X.f3 X.f4 false _ (Kd.C_below HR4.out HB20.out) HC4.out (Kd.C_below HR5.out HB20.out) HC5.out (Kd.C_below HR11.out HB20.out) HC11.out HKN.out).mono ?_
              rintro ev w21 ⟨rfl,hx⟩
              have HB21:=Aside0.mk (below_step HB20.out hx)
              have HBW21:=Aside0.mk (below_step HBW20.out hx)
              clear hx
              go_wp2_with fail
              go_ret
              exact ⟨rfl,HB21.out⟩
             | true =>
              have HM:=Aside0.mk (show tidingsref05_Right.l2 k a0_0 a0_1 a0_3 l0_4 l0_5 (l0_5.length - (kk + 1)) (kk + 1) = some r by have hLL:=HN.out;rw [ka,kc] at hLL;exact hLL)
              clear HN
              go_wp2_with fail
              refine (tidingsref05_Known.calls k a0_0 a0_1 a0_2 a0_3 _ _ l0_4 _ _ l0_5 a0_6 a0_7 a0_8 a0_9 a0_10 _ _ l0_11 a0_12 X.f0 X.f1.f0 X.f1.f1 X.f1.f2 X.f2 X.f3 X.f4 true _ (Kd.C_below HR4.out HB20.out) HC4.out (Kd.C_below HR5.out HB20.out) HC5.out (Kd.C_below HR11.out HB20.out) HC11.out HKN.out).mono ?_
              rintro ev w21 ⟨rfl,hx⟩
              have HB21:=Aside0.mk (below_step HB20.out hx)
              have HBW21:=Aside0.mk (below_step HBW20.out hx)
              clear hx
              go_wp2_with fail
              go_roundg (l0_5.length - (kk + 1))
              case measure=>omega
              case rel=>exact ⟨kk + 1,by omega,Nat.le_refl _,by go_num,HBW21,HM⟩
           ·have ka : decide (X.f2 = 1) = false:=decide_eq_false h1
            have kb : (X.f2 == 1) = false:=by simp [h1]
            clear h1
            by_cases h2 : X.f2 = 2
            ·have kc : decide (X.f2 ≠ 2) = false:=decide_eq_false (fun h=>h h2)
             have kd : (X.f2 != 2) = false:=by simp [h2]
             have ke : decide (X.f2 = 2) = true:=decide_eq_true h2
             clear h2
             have HM:=Aside0.mk (show tidingsref05_Right.l2 k a0_0 a0_1 a0_3 l0_4 l0_5 (l0_5.length - (kk + 1)) (kk + 1) = some r by have hLL:=HN.out;rw [ka,kc] at hLL;exact hLL)
             clear HN
             go_wp2_with fail
             go_roundg (l0_5.length - (kk + 1))
             case measure=>omega
             case rel=>exact ⟨kk + 1,by omega,Nat.le_refl _,by go_num,HBW8,HM⟩
            ·have kc : decide (X.f2 ≠ 2) = true:=decide_eq_true h2
             have kd : (X.f2 != 2) = true:=by simp [h2]
             have ke : decide (X.f2 = 2) = false:=decide_eq_false h2
             clear h2
             cases bH with
             | false =>
              obtain rfl : false = r:=by have hLL:=HN.out;rw [ka,kc] at hLL;exact Option.some.inj hLL
              clear HN
              go_wp2_with fail
              refine (tidingsref05_Known.calls k a0_0 a0_1 a0_2 a0_3 _ _ l0_4 _ _ l0_5 a0_6 a0_7 a0_8 a0_9 a0_10 _ _ l0_11 a0_12 X.f0 X.f1.f0 X.f1.f1 X.f1.f2 X.f2 X.f3 X.f4 false _ (Kd.C_below HR4.out HB8.out) HC4.out (Kd.C_below HR5.out HB8.out) HC5.out (Kd.C_below HR11.out HB8.out) HC11.out HKN.out).mono ?_
              rintro ev w21 ⟨rfl,hx⟩
              have HB21:=Aside0.mk (below_step HB8.out hx)
              have HBW21:=Aside0.mk (below_step HBW8.out hx)
              clear hx
              go_wp2_with fail
              go_ret
              exact ⟨rfl,HB21.out⟩
             | true =>
              have HM:=Aside0.mk (show tidingsref05_Right.l2 k a0_0 a0_1 a0_3 l0_4 l0_5 (l0_5.length - (kk + 1)) (kk + 1) = some r by have hLL:=HN.out;rw [ka,kc] at hLL;exact hLL)
              clear HN
              go_wp2_with fail
              refine (tidingsref05_Known.calls k a0_0 a0_1 a0_2 a0_3 _ _ l0_4 _ _ l0_5 a0_6 a0_7 a0_8 a0_9 a0_10 _ _ l0_11 a0_12 X.f0 X.f1.f0 X.f1.f1 X.f1.f2 X.f2 X.f3 X.f4 true _ (Kd.C_below HR4.out HB8.out) HC4.out (Kd.C_below HR5.out HB8.out) HC5.out (Kd.C_below HR11.out HB8.out) HC11.out HKN.out).mono ?_
              rintro ev w21 ⟨rfl,hx⟩
              have HB21:=Aside0.mk (below_step HB8.out hx)
              have HBW21:=Aside0.mk (below_step HBW8.out hx)
              clear hx
              go_wp2_with fail
              go_roundg (l0_5.length - (kk + 1))
              case measure=>omega
              case rel=>exact ⟨kk + 1,by omega,Nat.le_refl _,by go_num,HBW21,HM⟩
      ·have hltz : ¬ (kk : Int) < (l0_5.length : Int):=by omega
       rw [show l0_5.length - kk = 0 by omega] at hLL
       obtain rfl:=Option.some.inj hLL
       obtain ⟨q0,q1,q2,q3,q4,q5,q6,q7,q8,q9,q10,q11,q12⟩:=cells13 B6.out
       go_wp2_with fail
       go_ret
       exact ⟨rfl,HB6.out⟩
end Go.Proofs.YtiminjibcafkaaaGreatDoor.X
