/- Texts that this claim's law comes to, joined by wip/slim.py: XhslicesConcatRun, Xoffs, Xlexst, Xsame. -/
import Derived.Test.YtiminjibcafkaaaGreatDoorTGTAJ4
import Derived.Test.YtiminjibcafkaaaGreatDoorTGTAJ5
import Derived.Lib.AppendZeros
import Derived.Laws.OwnMore
import Derived.Deep.QuietTactic
import Derived.Test.YtiminjibcafkaaaGreatDoorTGJ11
set_option linter.unusedSimpArgs false
set_option linter.unusedVariables false
section
namespace Go.Proofs.YtiminjibcafkaaaGreatDoor.X
open RowKit YtiminjibcafkaaaGreatDoorW.PrintWords YtiminjibcafkaaaGreatDoorW.PrintLast YtiminjibcafkaaaGreatDoorW.PrintMore
attribute [local go_sem] max2_int min2_int max_two min_two max_three min_three max_four min_four
theorem grown_lim (w : World) (n : Nat) (e : TypeId) (h : n ≤ 1000000) : grownCap w n 0 e ≤ maxLen:=grownCap_le_maxLen w n 0 e (by unfold maxLen;omega)
theorem zeroCells_size (cs : Array Value) (n : Nat) : (Builtin.zeroCells cs n).size = n * cs.size:=by
 unfold Builtin.zeroCells
 first
  | simp
  | (induction n with
     | zero=>simp
     | succ n ih=>simp_all [Nat.succ_mul])
set_option maxRecDepth 100000 in
set_option maxHeartbeats 4000000 in
theorem slices_Grow_Run.calls (n : Nat) (hn : n ≤ 1000000) (w : World) :
 Calls Tryz.prog 88 #[.slice none 0 0,.int .i64 n] w fun e w'=>∃ v0_ : Value,e = .returned v0_ ∧ Kd.R k67 67 w' w.heap.size (fun _=>True) v0_ [] ∧ Below w.heap.size w w':=by
 by_cases h0 : n = 0
 ·subst h0;go_enter Tryz.func88,Tryz.ntmps88;go_wp2;go_ret;exact ⟨_,rfl,Kd.R_nil _ _ _ _ _,zS _ _⟩
 ·have hpos : 0 < n:=by omega
  have hd1 : decide ((n : Int) < 0) = false:=zF (by omega);have hd2 : decide ((n : Int) > 0) = true:=zE (by omega);have hd3 : decide ((0 : Int) < n) = true:=zE (by omega);have hd4 : decide (0 < n) = true:=zE (by omega);obtain ⟨i0,hi0,hz0,hs0,hb0⟩:=info_parts info67;have hk:=Lib.run_append_nil_zeros (P:=Tryz.prog) w 23 3 23 67 i0 (.agg #[.int .u8 0,.int .u32 0,.int .u32 0]) .i64 .i64 Tryz.underlying23 Tryz.underlying3 hi0 hz0 n hpos (by omega) (by omega) (by rw [hb0];omega);have HK:=zA hk;have HN:=zA hn;have hcap : 0 ≤ grownCap w n 0 67:=Nat.zero_le _;have HW:=zA (World.ownsRow_made (base:=w.heap.size) (e:=67) (size:=3) w.drew (Builtin.zeroCells (Value.agg #[.int .u8 0,.int .u32 0,.int .u32 0]).cells n ++ Builtin.zeroCells (Value.agg #[.int .u8 0,.int .u32 0,.int .u32 0]).cells (grownCap w n 0 67 - n)) (grownCap w n 0 67) (zM _) (grown_lim w n _ hn) (by
   have hge:=grownCap_ge w n 0 67;rw [Array.size_append,zeroCells_size,zeroCells_size];show n * 3 + (grownCap w n 0 67 - n) * 3 = grownCap w n 0 67 * 3;omega))
  clear hk hi0 hz0 hs0 hb0;have hnz : (n : Int) ≤ 1000000:=by omega
  have HBe:=zA (((zS w.heap.size w).drew).alloc (zM _) (.cells (Builtin.zeroCells (Value.agg #[.int .u8 0,.int .u32 0,.int .u32 0]).cells n ++ Builtin.zeroCells (Value.agg #[.int .u8 0,.int .u32 0,.int .u32 0]).cells (grownCap w n 0 67 - n)) 67));generalize hw2 : w.drew.alloc _ = w2 at HK HW HBe;generalize grownCap w n 0 67 = cc at HK HW hcap;clear hw2;have hccz : (0 : Int) ≤ (cc : Int):=Int.natCast_nonneg _;go_enter Tryz.func88,Tryz.ntmps88;go_wp2_with (at_builtin;refine Lib.wpList_append_run _ rfl _ _ _ _ rfl _ _ rfl rfl _ _ HK.out ?_)
  go_ret;exact ⟨_,rfl,⟨fun _ _=>trivial,[],HW.out,Reps.none _ _⟩,HBe.out⟩
set_option maxRecDepth 100000 in
set_option maxHeartbeats 4000000 in
theorem slices_Concat_Run.calls (B : Nat) (A0 A1 : Option Addr) (c0 c1 : Nat) (l0 l1 : List (S67)) (w : World) (hB : w.heap[B]? = some (.cells #[.slice A0 l0.length c0,.slice A1 l1.length c1] 23 (0,0)))
 (hr0 : Kd.C k67 w A0 l0.length l0) (hr1 : Kd.C k67 w A1 l1.length l1) (h0 : l0.length ≤ 400000) (h1 : l1.length ≤ 400000) :
 Calls Tryz.prog 55 #[.slice (some ⟨B,0,none⟩) 2 2] w fun e w'=>∃ v0_ : Value,e = .returned v0_ ∧ Kd.R k67 67 w' w.heap.size (fun _=>True) v0_ (l0 ++ l1) ∧ Below w.heap.size w w':=by
 obtain ⟨q0,q1⟩:=cells2 hB;have HB:=zA hB;have HR0:=zA hr0;have HR1:=zA hr1;have hd1 : decide ((l0.length : Int) < 0) = false:=zF (by omega);have hd2 : decide ((l0.length : Int) + (l1.length : Int) < 0) = false:=zF (by omega);clear hB hr0 hr1;have HG:=zA (show ∀ W : World,Calls Tryz.prog 88 #[.slice none 0 0,.int .i64 ((l0.length : Int) + (l1.length : Int))] W fun e w'=>∃ v0_ : Value,e = .returned v0_ ∧ Kd.R k67 67 w' W.heap.size (fun _=>True) v0_ [] ∧ Below W.heap.size W w' from fun W=>by
  have h:=slices_Grow_Run.calls (l0.length + l1.length) (by omega) W;rwa [Int.natCast_add] at h)
 go_enter Tryz.func55,Tryz.ntmps55;go_wp2_with fail;refine wp_loop_rounds 3 ?_;rw [rounds_succ];go_wp2_with fail;rw [rounds_succ];go_wp2_with fail;rw [rounds_succ];go_wp2_with fail;refine (HG.out _).mono ?_;rintro e w1 ⟨v0,rfl,hR1,hb1⟩;have B1:=zA (zC HB.out hb1);have R0:=zA (zL HR0.out hb1);have R1:=zA (zL HR1.out hb1);have HV:=zA hR1;have HBe:=zA hb1;clear hR1 hb1 HG q0 q1;obtain ⟨q0,q1⟩:=cells2 B1.out;go_wp2_with fail;refine wp_loop_rounds 3 ?_;rw [rounds_succ];go_wp2_with (at_builtin;(refine Kd.R_append_rows k67 (w0:=w) (Rr:=k67.K w1) w.heap.size rfl _ _ 23 67 _ 12 rfl Tryz.underlying23 info67 rfl (by decide) (by decide) v0 [] l0 A0 l0.length c0 (fun _=>True) (fun k_=>False) rfl rfl ?c1 ?c2 ?c3 (fun _ h=>h.elim) (fun _ _=>trivial) ?c4 ?c5 ?c6 ?_))
 case c1=>exact HV.out
 case c2=>exact R0.out
 case c3 =>
  intro x cs h;obtain rfl:=k67_open h;exact k67_mkM _ _ _ x
 case c4=>exact HBe.out
 case c5=>exact HBe.out.size
 case c6=>simp;omega
 intro v1 w2 hV2 hb2 _ _;have B2:=zA (zC HB.out hb2);have R2:=zA (zL HR1.out hb2);have HV2:=zA hV2;have HB2:=zA hb2;clear hV2 hb2 q0 q1;obtain ⟨q0,q1⟩:=cells2 B2.out;go_wp2_with fail;rw [rounds_succ];go_wp2_with (at_builtin;(refine Kd.R_append_rows k67 (w0:=w) (Rr:=k67.K w2) w.heap.size rfl _ _ 23 67 _ 12 rfl Tryz.underlying23 info67 rfl (by decide) (by decide) v1 ([] ++ l0) l1 A1 l1.length c1 (fun _=>True) (fun k_=>False) rfl rfl ?d1 ?d2 ?d3 (fun _ h=>h.elim) (fun _ _=>trivial) ?d4 ?d5 ?d6 ?_))
 case d1=>exact HV2.out
 case d2=>exact R2.out
 case d3 =>
  intro x cs h;obtain rfl:=k67_open h;exact k67_mkM _ _ _ x
 case d4=>exact HB2.out
 case d5=>exact HB2.out.size
 case d6=>simp;omega
 intro v2 w3 hV3 hb3 _ _;have HV3:=zA hV3;have HB3:=zA hb3;clear hV3 hb3 q0 q1;go_wp2_with fail;rw [rounds_succ];go_wp2_with fail;go_ret;exact ⟨_,rfl,HV3.out,HB3.out⟩
end Go.Proofs.YtiminjibcafkaaaGreatDoor.X
end
section
namespace Go.Proofs.YtiminjibcafkaaaGreatDoor.X
open RowKit YtiminjibcafkaaaGreatDoorW.PrintWords YtiminjibcafkaaaGreatDoorW.PrintLast YtiminjibcafkaaaGreatDoorW.PrintMore
set_option maxRecDepth 100000 in
set_option maxHeartbeats 8000000 in
theorem off_is (a0 a1 a2 a3 : Int) (l4 : List S67) (l5 : List S62) (a6 : Bool) (a7 a8 a9 a10 : Int) (l11 : List S67) (a12 : Int) (A4 A5 A11 : Option Addr) (c4 c5 c11 : Nat) (w : World) : Calls Tryz.prog 33 #[.agg #[.int .u8 a0,.int .u8 a1,.int .u32 a2,.int .u32 a3,.slice A4 l4.length c4,.slice A5 l5.length c5,.bool a6,.int .u32 a7,.int .u8 a8,.int .u8 a9,.int .u32 a10,.slice A11 l11.length c11,.int .u32 a12]] w fun e w'=>e = .returned (.agg #[.int .u8 a0,.int .u8 a1,.int .u32 a2,.int .u32 a3,.slice A4 l4.length c4,.slice A5 l5.length c5,.bool false,.int .u32 0,.int .u8 0,.int .u8 0,.int .u32 0,.slice none 0 0,.int .u32 a12]) ∧ Below w.heap.size w w':=by
 have huR:=Tryz.underlying28;have huN:=Tryz.underlying30;have huS:=Tryz.underlying26;go_enter Tryz.func33,Tryz.ntmps33;go_wp2_with (first | ((with_reducible refine gate_store (t:=26) (p:=7) rfl ?_);generalize hW : World.alloc (World.alloc w _) _ = w0;have Br0:=zA (al2_0 hW);have Bo0:=zA (al2_1 hW);have HB0:=zA (al2B hW);clear hW;have GG:=zA (show w.heap.size + 2 ≤ w0.heap.size by have:=blk_lt Bo0.out;omega);have HG0:=zA (zM w0.heap.size);have r0_:=cells13 Br0.out;have o0_:=cells13 Bo0.out;refine store_event (t:=26) (p:=7) (w1:=put_ w0 w.heap.size 6 [.bool false,.int .u32 0,.int .u8 0,.int .u8 0,.int .u32 0,.slice none 0 0,.int .u32 a12]) rfl rfl rfl ?hr ?_;(case hr=>have f_:=frz13 Br0.out;go_simp;rfl);intro w1 hw;have Br1:=zA (own13_6_7 hw Br0.out);have Bo1:=zA (far_ hw (by omega) Bo0.out);have HB1:=zA (bel_ hw (by omega) HB0.out);have HG1:=zA (siz_ hw HG0.out);clear hw HB0 HG0 Br0 Bo0 r0_ o0_;have r1_:=cells13 Br1.out;have o1_:=cells13 Bo1.out) | ((with_reducible refine gate_store (t:=28) (p:=2) rfl ?_);refine store_event (t:=28) (p:=2) (w1:=put_ w1 (w.heap.size + 1) 0 [.int .u8 a0,.int .u8 a1,.int .u32 a2,.int .u32 a3,.slice A4 l4.length c4,.slice A5 l5.length c5,.bool false,.int .u32 0,.int .u8 0,.int .u8 0,.int .u32 0,.slice none 0 0,.int .u32 a12]) rfl rfl rfl ?hr ?_;(case hr=>have f_:=frz13 Bo1.out;go_simp;rfl);intro w2 hw;have Br2:=zA (far_ hw (by omega) Br1.out);have Bo2:=zA (own13_0_13 hw Bo1.out);have HB2:=zA (bel_ hw (by omega) HB1.out);have HG2:=zA (siz_ hw HG1.out);clear hw HB1 HG1 Br1 Bo1 r1_ o1_;have r2_:=cells13 Br2.out;have o2_:=cells13 Bo2.out))
 refine bodyPost_ret (results_cell_row rfl _ _ (w.heap.size + 1) 28 #[.int .u8 a0,.int .u8 a1,.int .u32 a2,.int .u32 a3,.slice A4 l4.length c4,.slice A5 l5.length c5,.bool false,.int .u32 0,.int .u8 0,.int .u8 0,.int .u32 0,.slice none 0 0,.int .u32 a12] (0,0) _ rfl Bo2.out Tryz.underlying28 rfl (by kernel_rfl)) rfl ?_;exact ⟨rfl,HB2.out⟩
section
variable {P : Program} {ops : Array Oper} {md : Region.Mode} {σ : Type} {C : Option σ → Array Bool → World → Prop}
def LexUpon (P : Program) (C : Array Bool → World → Prop) (L : Array Bool) (i : Nat) (v : Value) : Result Next → Prop
 | .ok (.value u) w'=>u = v ∧ C (L.setIfInBounds i true) w'
 | .ok .skip w'=>undef = v ∧ C (L.setIfInBounds i true) w'
 | .ok (.enter f args) w'=>Calls P f args w' (fun e w''=>e = .returned v ∧ C (L.setIfInBounds i true) w'')
 | _=>False
def LexAsk (P : Program) (C : σ → Array Bool → World → Prop) (L : Array Bool) (i : Nat) (v : σ → Value) : Result Next → Prop
 | .ok (.enter f args) w'=>Calls P f args w' (fun e w''=>∃ s,e = .returned (v s) ∧ C s (L.setIfInBounds i true) w'')
 | _=>False
def LexYields (P : Program) (ops : Array Oper) (C : Option σ → Array Bool → World → Prop) (s0 : Option σ) (o : Oper) (i : Nat) (v : Value) (a : Act) : Prop :=
 (Region.wanted o (yielded ops a.tmps) = true ∧ ∀ s,s0 = none ∨ s = s0 → ∀ L w,L.getD i false = false → C s L w → LexUpon P (C s) L i v ((execOp a.eval o).run P w)) ∨
 (Region.wanted o (yielded ops a.tmps) = false ∧ v = undef ∧ ∀ s,s0 = none ∨ s = s0 → ∀ L w,L.getD i false = false → C s L w → C s (L.setIfInBounds i true) w)
theorem LexYields.some {s0 : Option σ} {o : Oper} {i : Nat} {v : Value} {a : Act} (h : LexYields P ops C none o i v a) : LexYields P ops C s0 o i v a:=by
 rcases h with ⟨h1,h2⟩ | ⟨h1,h3,h2⟩
 ·exact .inl ⟨h1,fun s _=>h2 s (.inl rfl)⟩
 ·exact .inr ⟨h1,h3,fun s _=>h2 s (.inl rfl)⟩
def LexAsks (P : Program) (ops : Array Oper) (C : Option σ → Array Bool → World → Prop) (o : Oper) (i : Nat) (v : σ → Value) (a : Act) : Prop :=
 Region.wanted o (yielded ops a.tmps) = true ∧ ∀ L w,L.getD i false = false → C none L w → LexAsk P (fun s=>C (some s)) L i v ((execOp a.eval o).run P w)
def allLex (P : Program) (md : Region.Mode) (ops : Array Oper) (C : Option σ → Array Bool → World → Prop) (Q : Option σ → Array Bool → Act → Prop) : Nat → Option σ → Array Bool → Act → Prop
 | 0,s,L,a=>Region.ready md ops L = [] ∧ Q s L a
 | n + 1,s,L,a=>(Region.ready md ops L = [] → Q s L a) ∧ ∀ i ∈ Region.ready md ops L,∃ o,ops[i]? = some o ∧
  ((∃ v,LexYields P ops C s o i v a ∧ allLex P md ops C Q n s (L.setIfInBounds i true) (a.put o.dst v)) ∨
   (s = none ∧ ∃ v : σ → Value,LexAsks P ops C o i v a ∧ ∀ t,allLex P md ops C Q n (some t) (L.setIfInBounds i true) (a.put o.dst (v t))))
theorem LexYields.same {s0 : Option σ} {o : Oper} {i : Nat} {v : Value} {a a' : Act} (h : LexYields P ops C s0 o i v a) (he : execOp a'.eval o = execOp a.eval o) (hw : Region.wanted o (yielded ops a'.tmps) = Region.wanted o (yielded ops a.tmps)) : LexYields P ops C s0 o i v a':=by
 unfold LexYields at *;rw [he,hw];exact h
theorem LexAsks.same {o : Oper} {i : Nat} {v : σ → Value} {a a' : Act} (h : LexAsks P ops C o i v a) (he : execOp a'.eval o = execOp a.eval o) (hw : Region.wanted o (yielded ops a'.tmps) = Region.wanted o (yielded ops a.tmps)) : LexAsks P ops C o i v a':=by
 unfold LexAsks at *;rw [he,hw];exact h
theorem unlisted {L : Array Bool} {i : Nat} (h : i ∈ Region.ready md ops L) : L.getD i false = false:=by
 have h0:=(mem_ready.1 h).1;rcases Nat.lt_or_ge i L.size with h' | h'
 ·simp [h'] at h0 ⊢;exact h0
 ·simp [Array.getElem?_eq_none h'] at h0
theorem wpAny_allLex {Q : Option σ → Array Bool → Act → Prop} {Q' : Exit → Act → World → Prop} (hQ : ∀ s L a w,C s L w → Q s L a → Q' .normal a w) : ∀ (n : Nat) (s : Option σ) (L : Array Bool) (a : Act) (w : World),C s L w → allLex P md ops C Q n s L a → wpAny P md ops Q' n L a w
 | 0,s,L,a,w,hw,h=>⟨h.1,hQ _ _ _ _ hw h.2⟩
 | n + 1,s,L,a,w,hw,h=>by
  refine ⟨fun h0=>hQ _ _ _ _ hw (h.1 h0),fun i hi=>?_⟩;obtain ⟨o,ho,hk⟩:=h.2 i hi;unfold wpOp;simp only [ho];rcases hk with ⟨v,⟨h1,h2⟩ | ⟨h1,rfl,h2⟩,hk⟩ | ⟨rfl,v,⟨h1,h2⟩,hk⟩
  ·rw [if_pos h1];refine .inl ?_;have h3:=h2 s (.inr rfl) L w (unlisted hi) hw;unfold Oper.wp;generalize (execOp a.eval o).run P w = r at h3 ⊢;cases r with
   | halt x w'=>exact h3.elim
   | ok x w' =>
    cases x<;>simp only [LexUpon] at h3<;>simp only [Oper.upon]
    case value u=>obtain ⟨rfl,h4⟩:=h3;exact wpAny_allLex hQ n _ _ _ _ h4 hk
    case skip=>obtain ⟨rfl,h4⟩:=h3;exact wpAny_allLex hQ n _ _ _ _ h4 hk
    case enter f args=>exact h3.mono fun e w'' h4=>by obtain ⟨rfl,h5⟩:=h4;exact wpAny_allLex hQ n _ _ _ _ h5 hk
  ·rw [if_neg (by rw [h1];exact Bool.false_ne_true)];exact wpAny_allLex hQ n _ _ _ _ (h2 s (.inr rfl) L w (unlisted hi) hw) hk
  ·rw [if_pos h1];refine .inl ?_;have h3:=h2 L w (unlisted hi) hw;unfold Oper.wp;generalize (execOp a.eval o).run P w = r at h3 ⊢;cases r with
   | halt x w'=>exact h3.elim
   | ok x w' =>
    cases x<;>simp only [LexAsk] at h3<;>simp only [Oper.upon]
    case enter f args=>exact h3.mono fun e w'' h4=>by obtain ⟨t,rfl,h5⟩:=h4;exact wpAny_allLex hQ n _ _ _ _ h5 (hk t)
theorem allLex_first {Q : Option σ → Array Bool → Act → Prop} {i : Nat} {oi : Oper} {v : Value} (hi : ops[i]? = some oi) (hsel : ∀ (j : Nat) (o : Oper) cs b,ops[j]? = some o → o.op ≠ .select cs b) :
 ∀ (n : Nat) (s : Option σ) (L : Array Bool) (a : Act),
  (∀ j oj,ops[j]? = some oj → j ≠ i → L.getD j true = false → (∀ e ∈ oj.after,Region.binds md e = true → e.on ≠ i) → oi.apart ops oj = true) →
  i ∈ Region.ready md ops L → LexYields P ops C s oi i v a →
  allLex P md ops C Q n s (L.setIfInBounds i true) (a.put oi.dst v) → allLex P md ops C Q (n + 1) s L a:=by
 intro n
 induction n with
 | zero =>
  intro s L a _ hr hy H;refine ⟨fun h=>(by rw [h] at hr;cases hr),fun j hj=>?_⟩;by_cases hji : j = i
  ·subst hji;exact ⟨oi,hi,.inl ⟨v,hy,H⟩⟩
  ·have h1:=ready_mono hj hji;rw [H.1] at h1;cases h1
 | succ n ih =>
  intro s L a hfree hr hy H;refine ⟨fun h=>(by rw [h] at hr;cases hr),fun j hj=>?_⟩;by_cases hji : j = i
  ·subst hji;exact ⟨oi,hi,.inl ⟨v,hy,H⟩⟩
  obtain ⟨oj,hoj,hk⟩:=H.2 j (ready_mono hj hji);obtain ⟨hjun,oj',hoj',hall⟩:=mem_ready.1 hj;rw [hoj] at hoj';cases hoj';have hnot : ∀ e ∈ oj.after,Region.binds md e = true → e.on ≠ i:=fun e he hb heq=>by
   have h1:=hall e he hb;have h0:=(mem_ready.1 hr).1;rw [heq] at h1;rcases Nat.lt_or_ge i L.size with h' | h'
   ·simp [h'] at h0 h1;rw [h0] at h1;cases h1
   ·simp [Array.getElem?_eq_none h'] at h1
  obtain ⟨h1,h2,h3⟩:=Oper.apart_spec (hfree j oj hoj hji hjun hnot);have hfree' : ∀ k ok,ops[k]? = some ok → k ≠ i → (L.setIfInBounds j true).getD k true = false → (∀ e ∈ ok.after,Region.binds md e = true → e.on ≠ i) → oi.apart ops ok = true:=by
   intro k ok hk hki hun hno;refine hfree k ok hk hki ?_ hno;by_cases hjk : j = k
   ·subst hjk;exact hjun
   ·rw [getD_set_ne true hjk] at hun;exact hun
  refine ⟨oj,hoj,?_⟩;rcases hk with ⟨u,hyj,hk⟩ | ⟨rfl,u,hyj,hk⟩
  ·refine .inl ⟨u,hyj.same (execOp_put oj (fun cs b=>hsel j oj cs b hoj) a oi.dst v h1).symm (wanted_put oj a oi.dst v h1).symm,?_⟩;refine ih s (L.setIfInBounds j true) _ hfree' (ready_mono hr (Ne.symm hji)) (hy.same (execOp_put oi (fun cs b=>hsel i oi cs b hi) a oj.dst u h3) (wanted_put oi a oj.dst u h3)) ?_;rw [Array.setIfInBounds_comm _ _ hji,← Act.put_comm a v u h2];exact hk
  ·refine .inr ⟨rfl,u,hyj.same (execOp_put oj (fun cs b=>hsel j oj cs b hoj) a oi.dst v h1).symm (wanted_put oj a oi.dst v h1).symm,fun t=>?_⟩;refine ih (some t) (L.setIfInBounds j true) _ hfree' (ready_mono hr (Ne.symm hji)) (hy.some.same (execOp_put oi (fun cs b=>hsel i oi cs b hi) a oj.dst (u t) h3) (wanted_put oi a oj.dst (u t) h3)) ?_;rw [Array.setIfInBounds_comm _ _ hji,← Act.put_comm a v (u t) h2];exact hk t
def LexC (n : Nat) (F : Option σ → (Nat → Bool) → World → Prop) (s : Option σ) (L : Array Bool) (w : World) : Prop:=L.size = n ∧ F s (fun j=>L.getD j false) w
def upd (d : Nat → Bool) (k : Nat) : Nat → Bool:=fun j=>if j = k then true else d j
theorem upd_is {L : Array Bool} {k : Nat} (hk : k < L.size) : (fun j=>(L.setIfInBounds k true).getD j false) = upd (fun j=>L.getD j false) k:=by
 funext j;unfold upd;by_cases h : j = k
 ·subst h;rw [if_pos rfl];simp [Array.getD,hk]
 ·rw [if_neg h];simp [Ne.symm h]
theorem LexC.next {n : Nat} {F : Option σ → (Nat → Bool) → World → Prop} {s s' : Option σ} {L : Array Bool} {w w' : World} {k : Nat} (hk : k < n) (h : LexC n F s L w) (hF : F s' (upd (fun j=>L.getD j false) k) w') : LexC n F s' (L.setIfInBounds k true) w':=by
 refine ⟨by rw [Array.size_setIfInBounds];exact h.1,?_⟩;rw [upd_is (by rw [h.1];exact hk)];exact hF
def lexChk (md : Region.Mode) (ops : Array Oper) (L L' : Array Bool) (i : Nat) : Bool:=Region.noSelect ops && Region.free md ops L i && (Region.ready md ops L).contains i && (L.setIfInBounds i true == L') && decide (i < ops.size)
section
variable {n k : Nat} {F : Option σ → (Nat → Bool) → World → Prop} {Q : Option σ → Array Bool → Act → Prop} {o : Oper} {N : Option Tmp} {s : Option σ} {L : Array Bool} {a a' : Act}
theorem lex_first {v : Value} (L' : Array Bool) (hi : ops[k]? = some o) (hN : o.dst = N) (hc : lexChk md ops L L' k = true) (hy : LexYields P ops (LexC ops.size F) s o k v a) (ha : a.put N v = a') (hr : allLex P md ops (LexC ops.size F) Q n s L' a') : allLex P md ops (LexC ops.size F) Q (n + 1) s L a:=by
 subst hN;subst ha;simp only [lexChk,zZ,yB] at hc;obtain ⟨⟨⟨⟨h1,h2⟩,h3⟩,h4⟩,h5⟩:=hc;subst h4;exact allLex_first hi (Region.noSelect_spec h1) n s L a (Region.free_spec hi h2) (by simpa using h3) hy hr
theorem lex_val (v : Value) (L' : Array Bool) (hi : ops[k]? = some o) (hN : o.dst = N) (hc : lexChk md ops L L' k = true) (hw : Region.wanted o (yielded ops a.tmps) = true) (h : ∀ s',s = none ∨ s' = s → ∀ d w,d k = false → F s' d w → ∃ w',(execOp a.eval o).run P w = .ok (.value v) w' ∧ F s' (upd d k) w')
 (ha : a.put N v = a') (hr : allLex P md ops (LexC ops.size F) Q n s L' a') : allLex P md ops (LexC ops.size F) Q (n + 1) s L a:=by
 refine lex_first L' hi hN hc (.inl ⟨hw,fun s hs L w hL hC=>?_⟩) ha hr;have hk : k < ops.size:=by simp only [lexChk,zZ,yH] at hc;exact hc.2
 obtain ⟨w',h1,h2⟩:=h s hs _ w hL hC.2;rw [h1];exact ⟨rfl,hC.next hk h2⟩
theorem lex_skip (L' : Array Bool) (hi : ops[k]? = some o) (hN : o.dst = N) (hc : lexChk md ops L L' k = true) (hw : Region.wanted o (yielded ops a.tmps) = true) (h : ∀ s',s = none ∨ s' = s → ∀ d w,d k = false → F s' d w → ∃ w',(execOp a.eval o).run P w = .ok .skip w' ∧ F s' (upd d k) w')
 (ha : a.put N undef = a') (hr : allLex P md ops (LexC ops.size F) Q n s L' a') : allLex P md ops (LexC ops.size F) Q (n + 1) s L a:=by
 refine lex_first L' hi hN hc (.inl ⟨hw,fun s hs L w hL hC=>?_⟩) ha hr;have hk : k < ops.size:=by simp only [lexChk,zZ,yH] at hc;exact hc.2
 obtain ⟨w',h1,h2⟩:=h s hs _ w hL hC.2;rw [h1];exact ⟨rfl,hC.next hk h2⟩
theorem lex_call (f : FuncId) (args : Array Value) (v : Value) (L' : Array Bool) (hi : ops[k]? = some o) (hN : o.dst = N) (hc : lexChk md ops L L' k = true) (hw : Region.wanted o (yielded ops a.tmps) = true) (h1 : ∀ w,(execOp a.eval o).run P w = .ok (.enter f args) w)
 (h : ∀ s',s = none ∨ s' = s → ∀ d w,d k = false → F s' d w → Calls P f args w fun e w'=>e = .returned v ∧ F s' (upd d k) w')
 (ha : a.put N v = a') (hr : allLex P md ops (LexC ops.size F) Q n s L' a') : allLex P md ops (LexC ops.size F) Q (n + 1) s L a:=by
 refine lex_first L' hi hN hc (.inl ⟨hw,fun s hs L w hL hC=>?_⟩) ha hr;have hk : k < ops.size:=by simp only [lexChk,zZ,yH] at hc;exact hc.2
 rw [h1];exact (h s hs _ w hL hC.2).mono fun e w' h=>⟨h.1,hC.next hk h.2⟩
theorem lex_ask (f : FuncId) (args : Array Value) (v : σ → Value) (L' : Array Bool) (hi : ops[k]? = some o) (hN : o.dst = N) (hc : (Region.ready md ops L == [k] && L.setIfInBounds k true == L' && decide (k < ops.size)) = true) (hw : Region.wanted o (yielded ops a.tmps) = true) (h1 : ∀ w,(execOp a.eval o).run P w = .ok (.enter f args) w)
 (h : ∀ d w,d k = false → F none d w → Calls P f args w fun e w'=>∃ t,e = .returned (v t) ∧ F (some t) (upd d k) w')
 (hr : ∀ t,allLex P md ops (LexC ops.size F) Q n (some t) L' (a.put N (v t))) : allLex P md ops (LexC ops.size F) Q (n + 1) none L a:=by
 subst hN;simp only [zZ,yB,yH] at hc;obtain ⟨⟨h3,h4⟩,h5⟩:=hc;subst h4;refine ⟨fun h=>(by rw [h] at h3;cases h3),fun j hj=>?_⟩;rw [h3,List.mem_singleton] at hj;subst hj;refine ⟨o,hi,.inr ⟨rfl,v,⟨hw,fun L w hL hC=>?_⟩,hr⟩⟩;rw [h1];exact (h _ w hL hC.2).mono fun e w' h=>by obtain ⟨t,h6,h7⟩:=h;exact ⟨t,h6,hC.next h5 h7⟩
theorem lex_norm {m : Nat} {C : Option σ → Array Bool → World → Prop} (ha : a = a') (h : allLex P md ops C Q m s L a') : allLex P md ops C Q m s L a:=ha ▸ h
theorem lex_done {C : Option σ → Array Bool → World → Prop} {m : Nat} (hc : (Region.ready md ops L == []) = true) (h : Q s L a) : allLex P md ops C Q m s L a:=by
 have hc':=eq_of_beq hc;cases m with
 | zero=>exact ⟨hc',h⟩
 | succ m=>exact ⟨fun _=>h,fun i hi=>by rw [hc'] at hi;cases hi⟩
end
theorem region_lex {id : Nat} {Q : Exit → Act → World → Prop} {a : Act} {w : World} (F : Option σ → (Nat → Bool) → World → Prop) (n : Nat) (L : Array Bool) (hm : P.follows .mixedOrders = true) (hn : ops.size = n) (hL : Array.replicate n false = L)
 (hF : F none (fun _=>false) (w.drewN 1))
 (h : allLex P .any ops (LexC ops.size F) (fun s L a'=>∀ w',LexC ops.size F s L w' → Q .normal a' w') n none L a) : (Code.region id ops true).wp P Q a w:=by
 subst hn;subst hL;have hC : LexC ops.size F none (Array.replicate ops.size false) (w.drewN 1):=by
  refine ⟨by simp,?_⟩;have : (fun j=>(Array.replicate ops.size false).getD j false) = fun _=>false:=by
   funext j;by_cases h : j < ops.size<;>simp [Array.getD,h]
  rw [this];exact hF
 exact wp_region_any hm (wpAny_allLex (Q:=fun s L a'=>∀ w',LexC ops.size F s L w' → Q .normal a' w') (fun s L a w' hw' h=>h w' hw') _ _ _ _ _ hC h)
end
end Go.Proofs.YtiminjibcafkaaaGreatDoor.X
end
