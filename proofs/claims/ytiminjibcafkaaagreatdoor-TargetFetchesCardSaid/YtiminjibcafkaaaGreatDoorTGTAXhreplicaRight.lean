/- A part of the proof. -/
import Derived.Test.YtiminjibcafkaaaGreatDoorTGTAJ4
import Derived.Test.YtiminjibcafkaaaGreatDoorTGTAJ5
import Derived.Test.YtiminjibcafkaaaGreatDoorTGTAX5
import Derived.Test.YtiminjibcafkaaaGreatDoorTGJ16
import Derived.Test.YtiminjibcafkaaaGreatDoorTGTAJ6
import Derived.Test.YtiminjibcafkaaaGreatDoorTGTAJ8
set_option linter.unusedSimpArgs false
set_option linter.unusedVariables false
namespace Go.Proofs.YtiminjibcafkaaaGreatDoor.X
open RowKit YtiminjibcafkaaaGreatDoorW.PrintWords YtiminjibcafkaaaGreatDoorW.PrintLast YtiminjibcafkaaaGreatDoorW.PrintMore
attribute [local go_sem] max2_int min2_int max_two min_two max_three min_three max_four min_four
theorem run_store_func {P : Program} {w : World} {a : Addr} {m : Mode} (f : Fn) (x y : Array Value) : (store a (.func f x y) m).run P w = stored P w a (.func f x y) m:=run_store P w a _ m rfl
attribute [local go_sem] run_store_func
def beyondB (rep seq x n : Int) : Bool:=decide (x = rep) && decide (seq < n)
theorem replica_Right.own (rep seq : Int) (B1 : Nat) (W : World) (c0 : W.cell? ⟨B1,0,none⟩ = some (.int .u8 rep)) (c3 : W.cell? ⟨B1,3,none⟩ = some (.int .u32 seq)) (x n : Int) :
 Calls Tryz.prog 53 #[.int .u8 x,.int .u32 n,.pointer (some ⟨B1,0,none⟩)] W fun e w'=>e = .returned (.bool (beyondB rep seq x n)) ∧ Below W.heap.size W w':=by
 have hu:=Tryz.underlying28;unfold beyondB;by_cases p1 : x = rep
 ·subst p1;by_cases p2 : seq < n
  ·go_enter Tryz.func53,Tryz.ntmps53;go_wp2;go_ret;exact ⟨by simp [p2],zS _ _⟩
  ·go_enter Tryz.func53,Tryz.ntmps53;go_wp2;go_ret;exact ⟨by simp [p2],zS _ _⟩
 ·go_enter Tryz.func53,Tryz.ntmps53;go_wp2;go_ret;exact ⟨by simp [p1],zS _ _⟩
theorem replica_Right.pred (rep seq : Int) (B1 B3 : Nat) (w : World) (hB1 : B1 < w.heap.size) (hB3 : B3 < w.heap.size) (h0 : w.cell? ⟨B1,0,none⟩ = some (.int .u8 rep)) (h3 : w.cell? ⟨B1,3,none⟩ = some (.int .u32 seq)) (hf : w.cell? ⟨B3,0,none⟩ = some (.func (.func 53) #[] #[.pointer (some ⟨B1,0,none⟩)])) :
 ∀ (W : World) (x : S67),Below w.heap.size w W → Calls Tryz.prog 56 (#[.agg #[.int .u8 x.f0,.int .u32 x.f1,.int .u32 x.f2]] ++ #[.pointer (some ⟨B3,0,none⟩)]) W fun e w'=>e = .returned (.bool (beyondB rep seq x.f0 x.f2)) ∧ Below W.heap.size W w':=fun W x hb=>by
 have c0 : W.cell? ⟨B1,0,none⟩ = some (.int .u8 rep):=(hb.cell (p:=⟨B1,0,none⟩) hB1).trans h0;have c3 : W.cell? ⟨B1,3,none⟩ = some (.int .u32 seq):=(hb.cell (p:=⟨B1,3,none⟩) hB1).trans h3;have cf:=(hb.cell (p:=⟨B3,0,none⟩) hB3).trans hf;have n1 : B1 < W.heap.size:=Nat.lt_of_lt_of_le hB1 hb.size;have n3 : B3 < W.heap.size:=Nat.lt_of_lt_of_le hB3 hb.size;have e1 : B1 ≠ W.heap.size:=by omega
 have e3 : B3 ≠ W.heap.size:=by omega
 clear hb h0 h3 hf hB1 hB3;obtain ⟨f0,f1,f2⟩:=x;show Calls Tryz.prog 56 #[.agg #[.int .u8 f0,.int .u32 f1,.int .u32 f2],.pointer (some ⟨B3,0,none⟩)] W _;have hu:=Tryz.underlying67;have eg : ∀ args w,(callFunc 53 args).run Tryz.prog w = .ok (.enter 53 args) w:=enters_of Tryz.func53 (by kernel_rfl) rfl;have C0 : (W.alloc (.cells #[.int .u8 f0,.int .u32 f1,.int .u32 f2] 67)).cell? ⟨B1,0,none⟩ = some (.int .u8 rep):=(((zS _ W).alloc (zM _) _).cell (p:=⟨B1,0,none⟩) n1).trans c0;have C3 : (W.alloc (.cells #[.int .u8 f0,.int .u32 f1,.int .u32 f2] 67)).cell? ⟨B1,3,none⟩ = some (.int .u32 seq):=(((zS _ W).alloc (zM _) _).cell (p:=⟨B1,3,none⟩) n1).trans c3;dsimp only;go_enter Tryz.func56,Tryz.ntmps56;go_wp2_with fail;refine (replica_Right.own rep seq B1 _ C0 C3 f0 f2).mono ?_;rintro e w2 ⟨rfl,hb2⟩;go_wp2;go_ret;exact ⟨rfl,((zS _ W).alloc (zM _) _).trans (hb2.mono (by simp))⟩
def replica_Right.l0 (k : Nat) (rep filter seq : Int) (kn : List S67) (l : List S62) : Nat → Nat → Option Bool
 | 0,_=>some true
 | d + 1,i=>(know_Has.f k kn (l.getD i z62).f1.f0 (l.getD i z62).f1.f1).bind fun b=>(item_In.f (l.getD i z62).f0 (l.getD i z62).f1.f0 (l.getD i z62).f1.f1 (l.getD i z62).f1.f2 (l.getD i z62).f2 (l.getD i z62).f3 (l.getD i z62).f4 filter).bind fun c =>
  if (beyondB rep seq (l.getD i z62).f1.f0 (l.getD i z62).f1.f1 || (l.take i).any (isTwin (l.getD i z62).f1.f0 (l.getD i z62).f1.f1) || (decide ((l.getD i z62).f2 ≠ 2) && !(b && c))) = true then some false else replica_Right.l0 k rep filter seq kn l d (i + 1)
def replica_Right.f (k : Nat) (a0_0 a0_1 a0_2 a0_3 : Int) (l0_4 : List S67) (l0_5 : List S62) (a0_6 : Bool) (a0_7 a0_8 a0_9 a0_10 : Int) (l0_11 : List S67) (a0_12 : Int) : Option Bool :=
 if 8 ≤ a0_0 then some false else
 (know_Right.f k l0_4).bind fun b1=>if b1 = false then some false else
 (item_Right.f k l0_5).bind fun b2=>if b2 = false then some false else
 (replica_session.f k a0_6 a0_7 a0_8 a0_9 a0_10 l0_11 a0_12 a0_0).bind fun b3=>if b3 = false then some false else
 if 400000 < l0_4.length then none else if 400000 < l0_11.length then none else
 if (l0_4 ++ l0_11).any (fun x=>beyondB a0_0 a0_3 x.f0 x.f2) = true then some false else replica_Right.l0 k a0_0 a0_1 a0_3 l0_4 l0_5 l0_5.length 0
set_option maxHeartbeats 8000000 in
set_option maxRecDepth 100000 in
theorem replica_Right.calls (k : Nat) (a0_0 : Int) (a0_1 : Int) (a0_2 : Int) (a0_3 : Int) (A0_4 : Option Addr) (c0_4 : Nat) (l0_4 : List (S67)) (A0_5 : Option Addr) (c0_5 : Nat) (l0_5 : List (S62)) (a0_6 : Bool) (a0_7 : Int) (a0_8 : Int) (a0_9 : Int) (a0_10 : Int) (A0_11 : Option Addr) (c0_11 : Nat) (l0_11 : List (S67)) (a0_12 : Int) (r : Bool) (w : World) (hr0_4 : Kd.C k67 w A0_4 l0_4.length l0_4) (hc0_4 : l0_4.length ≤ c0_4) (hr0_5 : Kd.C k62 w A0_5 l0_5.length l0_5) (hc0_5 : l0_5.length ≤ c0_5) (hr0_11 : Kd.C k67 w A0_11 l0_11.length l0_11) (hc0_11 : l0_11.length ≤ c0_11) (h : replica_Right.f k a0_0 a0_1 a0_2 a0_3 l0_4 l0_5 a0_6 a0_7 a0_8 a0_9 a0_10 l0_11 a0_12 = some r) :
 Calls Tryz.prog 17 #[.agg #[.int .u8 a0_0,.int .u8 a0_1,.int .u32 a0_2,.int .u32 a0_3,.slice A0_4 l0_4.length c0_4,.slice A0_5 l0_5.length c0_5,.bool a0_6,.int .u32 a0_7,.int .u8 a0_8,.int .u8 a0_9,.int .u32 a0_10,.slice A0_11 l0_11.length c0_11,.int .u32 a0_12]] w fun e w'=>e = .returned (.bool r) ∧ Below w.heap.size w w':=by
 have hmf : ∀ (fn : Fn) (first cap : Array Value) (w : World),(Instr.makeFunc fn first cap).run Tryz.prog w = .ok (.func fn first cap) w:=fun _ _ _ _=>rfl
 have hu:=Tryz.underlying28;have hus:=Tryz.underlying26;have huf:=Tryz.underlying91;have HR4:=zA hr0_4;have HR5:=zA hr0_5;have HR11:=zA hr0_11;have HC4:=zA hc0_4;have HC5:=zA hc0_5;have HC11:=zA hc0_11;clear hr0_4 hr0_5 hr0_11 hc0_4 hc0_5 hc0_11;unfold replica_Right.f at h;by_cases p0 : 8 ≤ a0_0
 ·rw [if_pos p0] at h;obtain rfl:=zH h;clear h;go_enter Tryz.func17,Tryz.ntmps17;go_wp2;go_ret;exact ⟨rfl,(zS _ w).alloc (zM _) _⟩
 rw [if_neg p0] at h;have p0a : decide (a0_0 ≥ 8) = false:=zF p0;have p0b : decide (8 ≤ a0_0) = false:=zF p0;obtain ⟨b1,h1,h⟩:=zJ.mp h;have H1:=zA h1;clear h1;cases b1 with
 | false =>
  rw [if_pos rfl] at h;obtain rfl:=zH h;clear h;go_enter Tryz.func17,Tryz.ntmps17;go_wp2_with fail;have HB0:=zA ((zS _ w).alloc (zM _) (.cells #[.int .u8 a0_0,.int .u8 a0_1,.int .u32 a0_2,.int .u32 a0_3,.slice A0_4 l0_4.length c0_4,.slice A0_5 l0_5.length c0_5,.bool a0_6,.int .u32 a0_7,.int .u8 a0_8,.int .u8 a0_9,.int .u32 a0_10,.slice A0_11 l0_11.length c0_11,.int .u32 a0_12] 28));have B0:=zA (yL w (.cells #[.int .u8 a0_0,.int .u8 a0_1,.int .u32 a0_2,.int .u32 a0_3,.slice A0_4 l0_4.length c0_4,.slice A0_5 l0_5.length c0_5,.bool a0_6,.int .u32 a0_7,.int .u8 a0_8,.int .u8 a0_9,.int .u32 a0_10,.slice A0_11 l0_11.length c0_11,.int .u32 a0_12] 28));generalize w.alloc (.cells #[.int .u8 a0_0,.int .u8 a0_1,.int .u32 a0_2,.int .u32 a0_3,.slice A0_4 l0_4.length c0_4,.slice A0_5 l0_5.length c0_5,.bool a0_6,.int .u32 a0_7,.int .u8 a0_8,.int .u8 a0_9,.int .u32 a0_10,.slice A0_11 l0_11.length c0_11,.int .u32 a0_12] 28) = w0 at HB0 B0 ⊢;obtain ⟨q0,q1,q2,q3,q4,q5,q6,q7,q8,q9,q10,q11,q12⟩:=cells13 B0.out;refine (know_Right.calls k _ _ l0_4 false _ (zL HR4.out HB0.out) HC4.out H1.out).mono ?_;rintro ev w1 ⟨rfl,hx⟩;have B1:=zA (zC B0.out hx);have HB1:=zA (zG HB0.out hx);clear hx B0 HB0;clear q0 q1 q2 q3 q4 q5 q6 q7 q8 q9 q10 q11 q12;obtain ⟨q0,q1,q2,q3,q4,q5,q6,q7,q8,q9,q10,q11,q12⟩:=cells13 B1.out;go_wp2_with fail;go_ret;exact ⟨rfl,HB1.out⟩
 | true =>
 rw [if_neg (by decide)] at h;obtain ⟨b2,h2,h⟩:=zJ.mp h;have H2:=zA h2;clear h2;cases b2 with
 | false =>
  rw [if_pos rfl] at h;obtain rfl:=zH h;clear h;go_enter Tryz.func17,Tryz.ntmps17;go_wp2_with fail;have HB0:=zA ((zS _ w).alloc (zM _) (.cells #[.int .u8 a0_0,.int .u8 a0_1,.int .u32 a0_2,.int .u32 a0_3,.slice A0_4 l0_4.length c0_4,.slice A0_5 l0_5.length c0_5,.bool a0_6,.int .u32 a0_7,.int .u8 a0_8,.int .u8 a0_9,.int .u32 a0_10,.slice A0_11 l0_11.length c0_11,.int .u32 a0_12] 28));have B0:=zA (yL w (.cells #[.int .u8 a0_0,.int .u8 a0_1,.int .u32 a0_2,.int .u32 a0_3,.slice A0_4 l0_4.length c0_4,.slice A0_5 l0_5.length c0_5,.bool a0_6,.int .u32 a0_7,.int .u8 a0_8,.int .u8 a0_9,.int .u32 a0_10,.slice A0_11 l0_11.length c0_11,.int .u32 a0_12] 28));generalize w.alloc (.cells #[.int .u8 a0_0,.int .u8 a0_1,.int .u32 a0_2,.int .u32 a0_3,.slice A0_4 l0_4.length c0_4,.slice A0_5 l0_5.length c0_5,.bool a0_6,.int .u32 a0_7,.int .u8 a0_8,.int .u8 a0_9,.int .u32 a0_10,.slice A0_11 l0_11.length c0_11,.int .u32 a0_12] 28) = w0 at HB0 B0 ⊢;obtain ⟨q0,q1,q2,q3,q4,q5,q6,q7,q8,q9,q10,q11,q12⟩:=cells13 B0.out;refine (know_Right.calls k _ _ l0_4 true _ (zL HR4.out HB0.out) HC4.out H1.out).mono ?_;rintro ev w1 ⟨rfl,hx⟩;have B1:=zA (zC B0.out hx);have HB1:=zA (zG HB0.out hx);clear hx B0 HB0;clear q0 q1 q2 q3 q4 q5 q6 q7 q8 q9 q10 q11 q12;obtain ⟨q0,q1,q2,q3,q4,q5,q6,q7,q8,q9,q10,q11,q12⟩:=cells13 B1.out;go_wp2_with fail;refine (item_Right.calls k _ _ l0_5 false _ (zL HR5.out HB1.out) HC5.out H2.out).mono ?_;rintro ev w2 ⟨rfl,hx⟩;have B2:=zA (zC B1.out hx);have HB2:=zA (zG HB1.out hx);clear hx B1 HB1;clear q0 q1 q2 q3 q4 q5 q6 q7 q8 q9 q10 q11 q12;obtain ⟨q0,q1,q2,q3,q4,q5,q6,q7,q8,q9,q10,q11,q12⟩:=cells13 B2.out;go_wp2_with fail;go_ret;exact ⟨rfl,HB2.out⟩
 | true =>
 rw [if_neg (by decide)] at h;obtain ⟨b3,h3,h⟩:=zJ.mp h;have H3:=zA h3;clear h3;cases b3 with
 | false =>
  rw [if_pos rfl] at h;obtain rfl:=zH h;clear h;go_enter Tryz.func17,Tryz.ntmps17;go_wp2_with fail;have HB0:=zA ((zS _ w).alloc (zM _) (.cells #[.int .u8 a0_0,.int .u8 a0_1,.int .u32 a0_2,.int .u32 a0_3,.slice A0_4 l0_4.length c0_4,.slice A0_5 l0_5.length c0_5,.bool a0_6,.int .u32 a0_7,.int .u8 a0_8,.int .u8 a0_9,.int .u32 a0_10,.slice A0_11 l0_11.length c0_11,.int .u32 a0_12] 28));have B0:=zA (yL w (.cells #[.int .u8 a0_0,.int .u8 a0_1,.int .u32 a0_2,.int .u32 a0_3,.slice A0_4 l0_4.length c0_4,.slice A0_5 l0_5.length c0_5,.bool a0_6,.int .u32 a0_7,.int .u8 a0_8,.int .u8 a0_9,.int .u32 a0_10,.slice A0_11 l0_11.length c0_11,.int .u32 a0_12] 28));generalize w.alloc (.cells #[.int .u8 a0_0,.int .u8 a0_1,.int .u32 a0_2,.int .u32 a0_3,.slice A0_4 l0_4.length c0_4,.slice A0_5 l0_5.length c0_5,.bool a0_6,.int .u32 a0_7,.int .u8 a0_8,.int .u8 a0_9,.int .u32 a0_10,.slice A0_11 l0_11.length c0_11,.int .u32 a0_12] 28) = w0 at HB0 B0 ⊢;obtain ⟨q0,q1,q2,q3,q4,q5,q6,q7,q8,q9,q10,q11,q12⟩:=cells13 B0.out;refine (know_Right.calls k _ _ l0_4 true _ (zL HR4.out HB0.out) HC4.out H1.out).mono ?_;rintro ev w1 ⟨rfl,hx⟩;have B1:=zA (zC B0.out hx);have HB1:=zA (zG HB0.out hx);clear hx B0 HB0;clear q0 q1 q2 q3 q4 q5 q6 q7 q8 q9 q10 q11 q12;obtain ⟨q0,q1,q2,q3,q4,q5,q6,q7,q8,q9,q10,q11,q12⟩:=cells13 B1.out;go_wp2_with fail;refine (item_Right.calls k _ _ l0_5 true _ (zL HR5.out HB1.out) HC5.out H2.out).mono ?_;rintro ev w2 ⟨rfl,hx⟩;have B2:=zA (zC B1.out hx);have HB2:=zA (zG HB1.out hx);clear hx B1 HB1;clear q0 q1 q2 q3 q4 q5 q6 q7 q8 q9 q10 q11 q12;obtain ⟨q0,q1,q2,q3,q4,q5,q6,q7,q8,q9,q10,q11,q12⟩:=cells13 B2.out;go_wp2_with fail;refine (replica_session.calls k a0_6 a0_7 a0_8 a0_9 a0_10 _ _ l0_11 a0_12 a0_0 false _ (zL HR11.out HB2.out) HC11.out H3.out).mono ?_;rintro ev w3 ⟨rfl,hx⟩;have B3:=zA (zC B2.out hx);have HB3:=zA (zG HB2.out hx);clear hx B2 HB2;clear q0 q1 q2 q3 q4 q5 q6 q7 q8 q9 q10 q11 q12;obtain ⟨q0,q1,q2,q3,q4,q5,q6,q7,q8,q9,q10,q11,q12⟩:=cells13 B3.out;go_wp2_with fail;go_ret;exact ⟨rfl,HB3.out⟩
 | true =>
 rw [if_neg (by decide)] at h;by_cases g4 : 400000 < l0_4.length
 ·rw [if_pos g4] at h;cases h
 rw [if_neg g4] at h;by_cases g11 : 400000 < l0_11.length
 ·rw [if_pos g11] at h;cases h
 rw [if_neg g11] at h;go_enter Tryz.func17,Tryz.ntmps17;go_wp2_with fail;have HB0:=zA ((zS _ w).alloc (zM _) (.cells #[.int .u8 a0_0,.int .u8 a0_1,.int .u32 a0_2,.int .u32 a0_3,.slice A0_4 l0_4.length c0_4,.slice A0_5 l0_5.length c0_5,.bool a0_6,.int .u32 a0_7,.int .u8 a0_8,.int .u8 a0_9,.int .u32 a0_10,.slice A0_11 l0_11.length c0_11,.int .u32 a0_12] 28));have B0:=zA (yL w (.cells #[.int .u8 a0_0,.int .u8 a0_1,.int .u32 a0_2,.int .u32 a0_3,.slice A0_4 l0_4.length c0_4,.slice A0_5 l0_5.length c0_5,.bool a0_6,.int .u32 a0_7,.int .u8 a0_8,.int .u8 a0_9,.int .u32 a0_10,.slice A0_11 l0_11.length c0_11,.int .u32 a0_12] 28));generalize w.alloc (.cells #[.int .u8 a0_0,.int .u8 a0_1,.int .u32 a0_2,.int .u32 a0_3,.slice A0_4 l0_4.length c0_4,.slice A0_5 l0_5.length c0_5,.bool a0_6,.int .u32 a0_7,.int .u8 a0_8,.int .u8 a0_9,.int .u32 a0_10,.slice A0_11 l0_11.length c0_11,.int .u32 a0_12] 28) = w0 at HB0 B0 ⊢;obtain ⟨q0,q1,q2,q3,q4,q5,q6,q7,q8,q9,q10,q11,q12⟩:=cells13 B0.out;refine (know_Right.calls k _ _ l0_4 true _ (zL HR4.out HB0.out) HC4.out H1.out).mono ?_;rintro ev w1 ⟨rfl,hx⟩;have B1:=zA (zC B0.out hx);have HB1:=zA (zG HB0.out hx);clear hx B0 HB0;clear q0 q1 q2 q3 q4 q5 q6 q7 q8 q9 q10 q11 q12;obtain ⟨q0,q1,q2,q3,q4,q5,q6,q7,q8,q9,q10,q11,q12⟩:=cells13 B1.out;go_wp2_with fail;refine (item_Right.calls k _ _ l0_5 true _ (zL HR5.out HB1.out) HC5.out H2.out).mono ?_;rintro ev w2 ⟨rfl,hx⟩;have B2:=zA (zC B1.out hx);have HB2:=zA (zG HB1.out hx);clear hx B1 HB1;clear q0 q1 q2 q3 q4 q5 q6 q7 q8 q9 q10 q11 q12;obtain ⟨q0,q1,q2,q3,q4,q5,q6,q7,q8,q9,q10,q11,q12⟩:=cells13 B2.out;go_wp2_with fail;refine (replica_session.calls k a0_6 a0_7 a0_8 a0_9 a0_10 _ _ l0_11 a0_12 a0_0 true _ (zL HR11.out HB2.out) HC11.out H3.out).mono ?_;rintro ev w3 ⟨rfl,hx⟩;have B3:=zA (zC B2.out hx);have HB3:=zA (zG HB2.out hx);clear hx B2 HB2;clear q0 q1 q2 q3 q4 q5 q6 q7 q8 q9 q10 q11 q12;obtain ⟨q0,q1,q2,q3,q4,q5,q6,q7,q8,q9,q10,q11,q12⟩:=cells13 B3.out;clear q0 q1 q2 q3 q4 q5 q6 q7 q8 q9 q10 q11 q12;have B4:=zA (yE B3.out (.cells #[.func (.func 53) #[] #[.pointer (some ⟨w.heap.size,0,none⟩)]] 91));have F4:=zA (yL w3 (.cells #[.func (.func 53) #[] #[.pointer (some ⟨w.heap.size,0,none⟩)]] 91));have HB4:=zA (HB3.out.alloc HB3.out.size (.cells #[.func (.func 53) #[] #[.pointer (some ⟨w.heap.size,0,none⟩)]] 91));obtain ⟨q0,q1,q2,q3,q4,q5,q6,q7,q8,q9,q10,q11,q12⟩:=cells13 B4.out;go_wp2_with fail;have P5:=zA (show ((w3.alloc (.cells #[.func (.func 53) #[] #[.pointer (some ⟨w.heap.size,0,none⟩)]] 91)).alloc (.cells #[.slice A0_4 l0_4.length c0_4,.slice A0_11 l0_11.length c0_11] 23)).heap[w3.heap.size + 1]? = some (.cells #[.slice A0_4 l0_4.length c0_4,.slice A0_11 l0_11.length c0_11] 23 (0,0)) by simpa using yL (w3.alloc (.cells #[.func (.func 53) #[] #[.pointer (some ⟨w.heap.size,0,none⟩)]] 91)) (.cells #[.slice A0_4 l0_4.length c0_4,.slice A0_11 l0_11.length c0_11] 23));have B5:=zA (yE B4.out (.cells #[.slice A0_4 l0_4.length c0_4,.slice A0_11 l0_11.length c0_11] 23));have F5:=zA (yE F4.out (.cells #[.slice A0_4 l0_4.length c0_4,.slice A0_11 l0_11.length c0_11] 23));have HB5:=zA (HB4.out.alloc HB4.out.size (.cells #[.slice A0_4 l0_4.length c0_4,.slice A0_11 l0_11.length c0_11] 23));generalize (w3.alloc (.cells #[.func (.func 53) #[] #[.pointer (some ⟨w.heap.size,0,none⟩)]] 91)).alloc (.cells #[.slice A0_4 l0_4.length c0_4,.slice A0_11 l0_11.length c0_11] 23) = w5 at P5 B5 F5 HB5 ⊢;clear q0 q1 q2 q3 q4 q5 q6 q7 q8 q9 q10 q11 q12;clear B3 HB3 B4 F4 HB4;generalize w3.heap.size = g3 at P5 F5 ⊢;have L4 : l0_4.length ≤ 400000:=by omega
 have L11 : l0_11.length ≤ 400000:=by omega
 refine (slices_Concat_Run.calls _ _ _ c0_4 c0_11 l0_4 l0_11 _ P5.out (zL HR4.out HB5.out) (zL HR11.out HB5.out) L4 L11).mono ?_;rintro ev w6 ⟨v6,rfl,hR6,hx6⟩;generalize l0_4 ++ l0_11 = lc at h hR6;obtain ⟨A6,c6,rfl,hc6,hC6⟩:=Kd.R_reads hR6;have B6:=zA (zC B5.out hx6);have F6:=zA (zC F5.out hx6);have HB6:=zA (zG HB5.out hx6);have C6:=zA hC6;clear hx6 hR6 hC6 B5 F5 P5 HB5;obtain ⟨q0,q1,q2,q3,q4,q5,q6,q7,q8,q9,q10,q11,q12⟩:=cells13 B6.out;have f0:=(zI F6.out 0).trans (show _ = some (.func (.func 53) #[] #[.pointer (some ⟨w.heap.size,0,none⟩)]) from rfl);have eg2 : ∀ args w,(callFunc 56 args).run Tryz.prog w = .ok (.enter 56 args) w:=enters_of Tryz.func56 (by kernel_rfl) rfl;have hp:=replica_Right.pred a0_0 a0_3 w.heap.size g3 w6 (Array.getElem?_eq_some_iff.mp B6.out).1 (Array.getElem?_eq_some_iff.mp F6.out).1 q0 q3 f0;have hcf:=zA (slices_ContainsFunc_Run.calls (fun x=>beyondB a0_0 a0_3 x.f0 x.f2) 56 #[.pointer (some ⟨g3,0,none⟩)] eg2 A6 c6 lc w6 C6.out hp);clear eg2 hp;generalize lc.any (fun x=>beyondB a0_0 a0_3 x.f0 x.f2) = ba at h hcf;go_wp2_with fail;refine hcf.out.mono ?_;rintro ev w7 ⟨rfl,hx7⟩;have B7:=zA (zC B6.out hx7);have F7:=zA (zC F6.out hx7);have HB7:=zA (zG HB6.out hx7);clear hx7 hcf B6 F6 HB6 C6 f0;clear q0 q1 q2 q3 q4 q5 q6 q7 q8 q9 q10 q11 q12;obtain ⟨q0,q1,q2,q3,q4,q5,q6,q7,q8,q9,q10,q11,q12⟩:=cells13 B7.out;cases ba with
 | true =>
  rw [if_pos rfl] at h;obtain rfl:=zH h;clear h;go_wp2_with fail;go_ret;exact ⟨rfl,HB7.out⟩
 | false =>
 rw [if_neg (by decide)] at h;have HL:=zA h;clear h;have eg1 : ∀ args w,(callFunc 53 args).run Tryz.prog w = .ok (.enter 53 args) w:=enters_of Tryz.func53 (by kernel_rfl) rfl;have hmax : l0_5.length ≤ 9223372036854775807:=HR5.out.2.1;go_wp2_with fail;go_loopg [43] l0_5.length (fun gg s43 wr=>∃ kk : Nat,kk ≤ l0_5.length ∧ l0_5.length - kk ≤ gg ∧ s43 = .int .i64 kk ∧ Aside0 (Below w7.heap.size w7 wr) ∧ Aside0 (replica_Right.l0 k a0_0 a0_1 a0_3 l0_4 l0_5 (l0_5.length - kk) kk = some r))
 case atStart=>exact ⟨0,Nat.zero_le _,by omega,rfl,⟨zS _ _⟩,HL⟩
 case round =>
  obtain ⟨kk,hkk,hgg,rfl,BW,HW⟩:=hrel;clear q0 q1 q2 q3 q4 q5 q6 q7 q8 q9 q10 q11 q12;clear HL;have hLL:=HW.out;clear HW;by_cases hlt : kk < l0_5.length
  ·have hltz : (kk : Int) < (l0_5.length : Int):=by omega
   have h0k : (0 : Int) ≤ (kk : Int):=by omega
   rw [show l0_5.length - kk = (l0_5.length - (kk + 1)) + 1 by omega] at hLL;obtain ⟨bk,hbk,hLL⟩:=zJ.mp hLL;obtain ⟨bi,hbi,hLL⟩:=zJ.mp hLL;have B8:=zA (zC B7.out BW.out);have F8:=zA (zC F7.out BW.out);have HB8:=zA (zG HB7.out BW.out);obtain ⟨ax,rfl,p0,p1,p2,p3,p4,p5,p6⟩:=at_T62 (zL HR5.out HB8.out) (kk : Int) h0k hltz;have hX : rd_T62 l0_5 (kk : Int) = l0_5.getD kk z62:=rfl;rw [hX] at p0 p1 p2 p3 p4 p5 p6;clear hX;simp only [Int.toNat_natCast] at p0 p1 p2 p3 p4 p5 p6;generalize l0_5.getD kk z62 = X at hbk hbi hLL p0 p1 p2 p3 p4 p5 p6;have HK:=zA hbk;have HI:=zA hbi;have HN:=zA hLL;clear hbk hbi hLL;have B9:=zA (yE B8.out (.cells #[.int .u8 X.f0,.int .u8 X.f1.f0,.int .u32 X.f1.f1,.int .u32 X.f1.f2,.int .i64 X.f2,.int .u8 X.f3,.int .u32 X.f4] 62));have F9:=zA (yE F8.out (.cells #[.int .u8 X.f0,.int .u8 X.f1.f0,.int .u32 X.f1.f1,.int .u32 X.f1.f2,.int .i64 X.f2,.int .u8 X.f3,.int .u32 X.f4] 62));have E9:=zA (yL wr (.cells #[.int .u8 X.f0,.int .u8 X.f1.f0,.int .u32 X.f1.f1,.int .u32 X.f1.f2,.int .i64 X.f2,.int .u8 X.f3,.int .u32 X.f4] 62));have HB9:=zA (HB8.out.alloc HB8.out.size (.cells #[.int .u8 X.f0,.int .u8 X.f1.f0,.int .u32 X.f1.f1,.int .u32 X.f1.f2,.int .i64 X.f2,.int .u8 X.f3,.int .u32 X.f4] 62));have HBW9:=zA (BW.out.alloc BW.out.size (.cells #[.int .u8 X.f0,.int .u8 X.f1.f0,.int .u32 X.f1.f1,.int .u32 X.f1.f2,.int .i64 X.f2,.int .u8 X.f3,.int .u32 X.f4] 62));obtain ⟨q0,q1,q2,q3,q4,q5,q6,q7,q8,q9,q10,q11,q12⟩:=cells13 B9.out;have s_:=cells7 E9.out;go_wp2_with fail;generalize wr.alloc (.cells #[.int .u8 X.f0,.int .u8 X.f1.f0,.int .u32 X.f1.f1,.int .u32 X.f1.f2,.int .i64 X.f2,.int .u8 X.f3,.int .u32 X.f4] 62) = w9 at B9 F9 E9 HB9 HBW9 ⊢;generalize wr.heap.size = g9 at E9 ⊢;clear p0 p1 p2 p3 p4 p5 p6 B8 F8 HB8 BW s_;clear q0 q1 q2 q3 q4 q5 q6 q7 q8 q9 q10 q11 q12;refine (know_Has.calls k _ _ l0_4 _ _ bk _ (zL HR4.out HB9.out) HC4.out HK.out).mono ?_;rintro ev w10 ⟨rfl,hx⟩;have B10:=zA (zC B9.out hx);have F10:=zA (zC F9.out hx);have E10:=zA (zC E9.out hx);have HB10:=zA (zG HB9.out hx);have HBW10:=zA (zG HBW9.out hx);clear hx B9 F9 E9 HB9 HBW9;go_wp2_with fail;have HOWN:=zA (fun (W : World) (h : Below w10.heap.size w10 W)=>replica_Right.own a0_0 a0_3 w.heap.size W ((zI (zC B10.out h) 0).trans rfl) ((zI (zC B10.out h) 3).trans rfl) X.f1.f0 X.f1.f1);have HTW:=zA (fun (W : World) (h : Below w10.heap.size w10 W)=>show Calls Tryz.prog 58 #[.slice (some ax) kk c0_5,.agg #[.int .u8 X.f0,.int .u8 X.f1.f0,.int .u32 X.f1.f1,.int .u32 X.f1.f2,.int .i64 X.f2,.int .u8 X.f3,.int .u32 X.f4]] W fun e w'=>e = .returned (.bool ((l0_5.take kk).any (isTwin X.f1.f0 X.f1.f1))) ∧ Below W.heap.size W w' by
    have hh:=replica_twin.calls (some ax) c0_5 (l0_5.take kk) X.f0 X.f1.f0 X.f1.f1 X.f1.f2 X.f2 X.f3 X.f4 _ W (Kd.C_take (zL (zL HR5.out HB10.out) h) hkk) (by rw [List.length_take];have:=HC5.out;omega) rfl;rwa [List.length_take,Nat.min_eq_left hkk] at hh)
   have HIN:=zA (fun (W : World)=>item_In.calls X.f0 X.f1.f0 X.f1.f1 X.f1.f2 X.f2 X.f3 X.f4 a0_1 bi W HI.out);have hkc : (kk : Int) ≤ (c0_5 : Int):=by have:=HC5.out;omega
   have hLL:=HN.out;clear HN HI HK;generalize beyondB a0_0 a0_3 X.f1.f0 X.f1.f1 = b0 at HOWN hLL;generalize (l0_5.take kk).any (isTwin X.f1.f0 X.f1.f1) = tw at HTW hLL;cases b0 with
   | true =>
    refine region_qc (by kernel_rfl) (by kernel_rfl) ?_
    iterate 31 (
     refine @wpQuiet_step _ _ _ _ _ _ _ ?_;intro K hK;go_simp
     first
      | (refine hK _ ?_;clear hK K)
      | (apply Exists.intro
         refine ⟨fun w' hw0=>?_,hK _ ?_⟩;have hw':=Qc.out hw0;clear hw0;(first
          | (with_reducible rfl)
          | (go_at_call 53;(with_reducible refine (HOWN.out w' hw').mono ?_);rintro e w2 ⟨rfl,hb⟩;exact ⟨rfl,zG hw' hb⟩)
          | (go_at_call 58;(with_reducible refine (HTW.out w' hw').mono ?_);rintro e w2 ⟨rfl,hb⟩;exact ⟨rfl,zG hw' hb⟩)
          | (go_at_call 59;(with_reducible refine (HIN.out w').mono ?_);rintro e w2 ⟨rfl,hb⟩;exact ⟨rfl,zG hw' hb⟩)
          | (obtain ⟨q0,q1,q2,q3,q4,q5,q6,q7,q8,q9,q10,q11,q12⟩:=cells13 (zC B10.out hw')
             have f0:=(zI (zC F10.out hw') 0).trans (show _ = some (.func (.func 53) #[] #[.pointer (some ⟨w.heap.size,0,none⟩)]) from rfl);have s_:=cells7 (zC E10.out hw');go_simp;with_reducible rfl))
         clear hK K))
    refine wpQuiet_nil ?_;intro w11 hb11;have HB11:=zA (zG HB10.out hb11);have HBW11:=zA (zG HBW10.out hb11);clear hb11 HB10 HBW10 B10 F10 E10;rw [if_pos (by simp)] at hLL;obtain rfl:=zH hLL;go_wp2_with fail;go_ret;exact ⟨rfl,HB11.out⟩
   | false =>
   cases tw with
   | true =>
    refine region_qc (by kernel_rfl) (by kernel_rfl) ?_
    iterate 31 (
     refine @wpQuiet_step _ _ _ _ _ _ _ ?_;intro K hK;go_simp
     first
      | (refine hK _ ?_;clear hK K)
      | (apply Exists.intro
         refine ⟨fun w' hw0=>?_,hK _ ?_⟩;have hw':=Qc.out hw0;clear hw0;(first
          | (with_reducible rfl)
          | (go_at_call 53;(with_reducible refine (HOWN.out w' hw').mono ?_);rintro e w2 ⟨rfl,hb⟩;exact ⟨rfl,zG hw' hb⟩)
          | (go_at_call 58;(with_reducible refine (HTW.out w' hw').mono ?_);rintro e w2 ⟨rfl,hb⟩;exact ⟨rfl,zG hw' hb⟩)
          | (go_at_call 59;(with_reducible refine (HIN.out w').mono ?_);rintro e w2 ⟨rfl,hb⟩;exact ⟨rfl,zG hw' hb⟩)
          | (obtain ⟨q0,q1,q2,q3,q4,q5,q6,q7,q8,q9,q10,q11,q12⟩:=cells13 (zC B10.out hw')
             have f0:=(zI (zC F10.out hw') 0).trans (show _ = some (.func (.func 53) #[] #[.pointer (some ⟨w.heap.size,0,none⟩)]) from rfl);have s_:=cells7 (zC E10.out hw');go_simp;with_reducible rfl))
         clear hK K))
    refine wpQuiet_nil ?_;intro w11 hb11;have HB11:=zA (zG HB10.out hb11);have HBW11:=zA (zG HBW10.out hb11);clear hb11 HB10 HBW10 B10 F10 E10;rw [if_pos (by simp)] at hLL;obtain rfl:=zH hLL;go_wp2_with fail;go_ret;exact ⟨rfl,HB11.out⟩
   | false =>
   by_cases hk2 : X.f2 = 2
   ·have hk2a : decide (X.f2 ≠ 2) = false:=by simp [hk2]
    have hk2b : (X.f2 != 2) = false:=by simp [hk2]
    rw [hk2a] at hLL;clear hk2 hk2a;refine region_qc (by kernel_rfl) (by kernel_rfl) ?_
    iterate 31 (
     refine @wpQuiet_step _ _ _ _ _ _ _ ?_;intro K hK;go_simp
     first
      | (refine hK _ ?_;clear hK K)
      | (apply Exists.intro
         refine ⟨fun w' hw0=>?_,hK _ ?_⟩;have hw':=Qc.out hw0;clear hw0;(first
          | (with_reducible rfl)
          | (go_at_call 53;(with_reducible refine (HOWN.out w' hw').mono ?_);rintro e w2 ⟨rfl,hb⟩;exact ⟨rfl,zG hw' hb⟩)
          | (go_at_call 58;(with_reducible refine (HTW.out w' hw').mono ?_);rintro e w2 ⟨rfl,hb⟩;exact ⟨rfl,zG hw' hb⟩)
          | (go_at_call 59;(with_reducible refine (HIN.out w').mono ?_);rintro e w2 ⟨rfl,hb⟩;exact ⟨rfl,zG hw' hb⟩)
          | (obtain ⟨q0,q1,q2,q3,q4,q5,q6,q7,q8,q9,q10,q11,q12⟩:=cells13 (zC B10.out hw')
             have f0:=(zI (zC F10.out hw') 0).trans (show _ = some (.func (.func 53) #[] #[.pointer (some ⟨w.heap.size,0,none⟩)]) from rfl);have s_:=cells7 (zC E10.out hw');go_simp;with_reducible rfl))
         clear hK K))
    refine wpQuiet_nil ?_;intro w11 hb11;have HB11:=zA (zG HB10.out hb11);have HBW11:=zA (zG HBW10.out hb11);clear hb11 HB10 HBW10 B10 F10 E10;rw [if_neg (by simp)] at hLL;have HN:=zA hLL;clear hLL;go_wp2_with fail;go_roundg (l0_5.length - (kk + 1))
    case measure=>omega
    case rel=>exact ⟨kk + 1,by omega,zM _,by go_num,HBW11,HN⟩
   have hk2a : decide (X.f2 ≠ 2) = true:=by simp [hk2]
   have hk2b : (X.f2 != 2) = true:=by simp [hk2]
   rw [hk2a] at hLL;clear hk2 hk2a;cases bk with
   | false =>
    refine region_qc (by kernel_rfl) (by kernel_rfl) ?_
    iterate 31 (
     refine @wpQuiet_step _ _ _ _ _ _ _ ?_;intro K hK;go_simp
     first
      | (refine hK _ ?_;clear hK K)
      | (apply Exists.intro
         refine ⟨fun w' hw0=>?_,hK _ ?_⟩;have hw':=Qc.out hw0;clear hw0;(first
          | (with_reducible rfl)
          | (go_at_call 53;(with_reducible refine (HOWN.out w' hw').mono ?_);rintro e w2 ⟨rfl,hb⟩;exact ⟨rfl,zG hw' hb⟩)
          | (go_at_call 58;(with_reducible refine (HTW.out w' hw').mono ?_);rintro e w2 ⟨rfl,hb⟩;exact ⟨rfl,zG hw' hb⟩)
          | (go_at_call 59;(with_reducible refine (HIN.out w').mono ?_);rintro e w2 ⟨rfl,hb⟩;exact ⟨rfl,zG hw' hb⟩)
          | (obtain ⟨q0,q1,q2,q3,q4,q5,q6,q7,q8,q9,q10,q11,q12⟩:=cells13 (zC B10.out hw')
             have f0:=(zI (zC F10.out hw') 0).trans (show _ = some (.func (.func 53) #[] #[.pointer (some ⟨w.heap.size,0,none⟩)]) from rfl);have s_:=cells7 (zC E10.out hw');go_simp;with_reducible rfl))
         clear hK K))
    refine wpQuiet_nil ?_;intro w11 hb11;have HB11:=zA (zG HB10.out hb11);have HBW11:=zA (zG HBW10.out hb11);clear hb11 HB10 HBW10 B10 F10 E10;rw [if_pos (by simp)] at hLL;obtain rfl:=zH hLL;go_wp2_with fail;go_ret;exact ⟨rfl,HB11.out⟩
   | true =>
   cases bi with
   | false =>
    refine region_qc (by kernel_rfl) (by kernel_rfl) ?_
    iterate 31 (
     refine @wpQuiet_step _ _ _ _ _ _ _ ?_;intro K hK;go_simp
     first
      | (refine hK _ ?_;clear hK K)
      | (apply Exists.intro
         refine ⟨fun w' hw0=>?_,hK _ ?_⟩;have hw':=Qc.out hw0;clear hw0;(first
          | (with_reducible rfl)
          | (go_at_call 53;(with_reducible refine (HOWN.out w' hw').mono ?_);rintro e w2 ⟨rfl,hb⟩;exact ⟨rfl,zG hw' hb⟩)
          | (go_at_call 58;(with_reducible refine (HTW.out w' hw').mono ?_);rintro e w2 ⟨rfl,hb⟩;exact ⟨rfl,zG hw' hb⟩)
          | (go_at_call 59;(with_reducible refine (HIN.out w').mono ?_);rintro e w2 ⟨rfl,hb⟩;exact ⟨rfl,zG hw' hb⟩)
          | (obtain ⟨q0,q1,q2,q3,q4,q5,q6,q7,q8,q9,q10,q11,q12⟩:=cells13 (zC B10.out hw')
             have f0:=(zI (zC F10.out hw') 0).trans (show _ = some (.func (.func 53) #[] #[.pointer (some ⟨w.heap.size,0,none⟩)]) from rfl);have s_:=cells7 (zC E10.out hw');go_simp;with_reducible rfl))
         clear hK K))
    refine wpQuiet_nil ?_;intro w11 hb11;have HB11:=zA (zG HB10.out hb11);have HBW11:=zA (zG HBW10.out hb11);clear hb11 HB10 HBW10 B10 F10 E10;rw [if_pos (by simp)] at hLL;obtain rfl:=zH hLL;go_wp2_with fail;go_ret;exact ⟨rfl,HB11.out⟩
   | true =>
    refine region_qc (by kernel_rfl) (by kernel_rfl) ?_
    iterate 31 (
     refine @wpQuiet_step _ _ _ _ _ _ _ ?_;intro K hK;go_simp
     first
      | (refine hK _ ?_;clear hK K)
      | (apply Exists.intro
         refine ⟨fun w' hw0=>?_,hK _ ?_⟩;have hw':=Qc.out hw0;clear hw0;(first
          | (with_reducible rfl)
          | (go_at_call 53;(with_reducible refine (HOWN.out w' hw').mono ?_);rintro e w2 ⟨rfl,hb⟩;exact ⟨rfl,zG hw' hb⟩)
          | (go_at_call 58;(with_reducible refine (HTW.out w' hw').mono ?_);rintro e w2 ⟨rfl,hb⟩;exact ⟨rfl,zG hw' hb⟩)
          | (go_at_call 59;(with_reducible refine (HIN.out w').mono ?_);rintro e w2 ⟨rfl,hb⟩;exact ⟨rfl,zG hw' hb⟩)
          | (obtain ⟨q0,q1,q2,q3,q4,q5,q6,q7,q8,q9,q10,q11,q12⟩:=cells13 (zC B10.out hw')
             have f0:=(zI (zC F10.out hw') 0).trans (show _ = some (.func (.func 53) #[] #[.pointer (some ⟨w.heap.size,0,none⟩)]) from rfl);have s_:=cells7 (zC E10.out hw');go_simp;with_reducible rfl))
         clear hK K))
    refine wpQuiet_nil ?_;intro w11 hb11;have HB11:=zA (zG HB10.out hb11);have HBW11:=zA (zG HBW10.out hb11);clear hb11 HB10 HBW10 B10 F10 E10;rw [if_neg (by simp)] at hLL;have HN:=zA hLL;clear hLL;go_wp2_with fail;go_roundg (l0_5.length - (kk + 1))
    case measure=>omega
    case rel=>exact ⟨kk + 1,by omega,zM _,by go_num,HBW11,HN⟩
  ·have hltz : ¬ (kk : Int) < (l0_5.length : Int):=by omega
   rw [show l0_5.length - kk = 0 by omega] at hLL;obtain rfl:=zH hLL;go_wp2_with fail;go_ret;exact ⟨rfl,zG HB7.out BW.out⟩
end Go.Proofs.YtiminjibcafkaaaGreatDoor.X
