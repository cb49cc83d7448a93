/- A part of the proof. -/
import Derived.Test.YtiminjibcafkaaaGreatDoorTGJ9
import Derived.Test.YtiminjibcafkaaaGreatDoorTGTAJ4
import Derived.Test.YtiminjibcafkaaaGreatDoorTGTAJ5
import Derived.RangeFuncNested
import Derived.RangeFuncBound
import Derived.RangeFuncCalls
import Derived.RangeFuncLeaves
import Derived.RangeFuncBox
import Derived.Shelf.Abstract
import Derived.Shelf.RegionOpen
import Derived.OwnWalkIn
import Derived.TacticsInMore
import Derived.LoopNIn
import Derived.LoopIn
set_option linter.unusedSimpArgs false
set_option linter.unusedVariables false
namespace Go.Proofs.YtiminjibcafkaaaGreatDoor.X
open Go.RowKit Go.Shelf Go.Proofs.YtiminjibcafkaaaGreatDoorW.PrintWords Go.Proofs.YtiminjibcafkaaaGreatDoorW.PrintLast Go.Proofs.YtiminjibcafkaaaGreatDoorW.PrintMore
theorem oper_in {P : Program} {l n : Nat} {o : Oper} {a : Act} {w : World} {K : Act → World → Prop} {Q : Exit → Act → World → Prop} (hd : ∀ c,o.op ≠ .defer c) (h : Oper.wp P o a w K Q) : Oper.wpIn (Fence.wide.inRound l) n P o a w K Q:=by
 unfold Oper.wpIn;refine ⟨fun _ _=>trivial,?_⟩;rw [Fence.inRound_round,Oper.semAt_some l _ _ hd];unfold Oper.wp at h;generalize (execOp a.eval o).run P w = r at h;have hdep : ∀ m : Nat,((Fence.wide.inRound l).depth.isSome = true → 1 ≤ m):=fun m hm=>by simp [Fence.wide] at hm
 cases r with
 | ok x w' =>
  cases x with
  | value v=>exact h
  | skip=>exact h
  | defer d=>exact h
  | enter f args =>
   refine ⟨hdep _,CallsIn.inRound l (callsIn_wide.2 ?_)⟩;exact h
  | row row args =>
   refine ⟨hdep _,fun c cs _=>?_⟩;obtain ⟨v,w'',r,s⟩:=h c cs;exact ⟨v,w'',r,stepsIn_wide.2 s⟩
  | _=>exact h.elim
 | halt x w' =>
  cases x with
  | panic v=>exact h
  | _=>exact h.elim
theorem wpOp_in {P : Program} {l n : Nat} {ops : Array Oper} {Q : Exit → Act → World → Prop} {i : Nat} {K : Act → World → Prop} {a : Act} {w : World} (hq : ¬ LetsOut Q) (hd : ∀ (j : Nat) (o : Oper),ops[j]? = some o → ∀ c,o.op ≠ .defer c) (h : wpOp P ops Q i K a w) : wpOpIn (Fence.wide.inRound l) n P ops Q i K a w:=by
 unfold wpOpIn;unfold wpOp at h;split
 ·rename_i ho;simp only [ho] at h;exact h
 ·rename_i o ho;simp only [ho] at h;split
  ·rename_i hw;simp only [hw,if_true] at h;exact oper_in (hd _ _ ho) (h.resolve_right (fun x=>hq x.2))
  ·rename_i hw;simp only [hw] at h;exact ⟨fun _ _=>trivial,h⟩
theorem wpAny_in {P : Program} {l n : Nat} {md : Region.Mode} {ops : Array Oper} {Q : Exit → Act → World → Prop} (hq : ¬ LetsOut Q) (hd : ∀ (j : Nat) (o : Oper),ops[j]? = some o → ∀ c,o.op ≠ .defer c) : ∀ (fuel : Nat) (listed : Array Bool) (a : Act) (w : World),wpAny P md ops Q fuel listed a w → wpAnyIn (Fence.wide.inRound l) n P md ops Q fuel listed a w:=by
 intro fuel
 induction fuel with
 | zero=>intro listed a w h;exact h
 | succ fuel ih=>intro listed a w h;exact ⟨h.1,fun i hi=>wpOpIn_mono (fun a w h=>ih _ a w h) (wpOp_in hq hd (h.2 i hi))⟩
def noDefer (ops : Array Oper) : Bool:=ops.toList.all fun o=>match o.op with | .defer _=>false | _=>true
theorem noDefer_spec {ops : Array Oper} (h : noDefer ops = true) : ∀ (j : Nat) (o : Oper),ops[j]? = some o → ∀ c,o.op ≠ .defer c:=by
 intro j o ho c hc;unfold noDefer at h;rw [List.all_eq_true] at h;have:=h o (by rw [Array.mem_toList_iff];exact Array.mem_of_getElem? ho);rw [hc] at this;cases this
theorem region_in {P : Program} {l n id : Nat} {ops : Array Oper} {Q : Exit → Act → World → Prop} {a : Act} {w : World} (hm : P.follows .mixedOrders = true) (hq : ¬ LetsOut Q) (hd : noDefer ops = true) (h : wpAny P .any ops Q ops.size (Array.replicate ops.size false) a (w.drewN 1)) : (Code.region id ops true).wpIn (Fence.wide.inRound l) n P Q a w :=
 wpIn_region_any hm (wpAny_in hq (noDefer_spec hd) _ _ _ _ h)
theorem wpIn_hide {F : Fence} {n : Nat} {P : Program} {c : Code} {Q : Exit → Act → World → Prop} {a : Act} {w : World} (h : ∀ QQ : Exit → Act → World → Prop,Aside0 (Q = QQ) → c.wpIn F n P QQ a w) : c.wpIn F n P Q a w:=h Q ⟨rfl⟩
theorem bodyPostM_ret {F : Fence} {n : Nat} {P : Program} {fn : Func} {R : Ending → World → Prop} {a : Act} {w : World} {v : Value} (hd : a.defers = []) (hr : (results fn a.tmps).run P w = .ok v w) (h : R (.returned v) w) : bodyPostM F n P fn R .ret a w:=by
 show LeavesInM F n P fn a.tmps R a.defers .returning w;rw [hd];exact ⟨v,hr,h⟩
theorem R_append_in {P : Program} {ops : Array Oper} {rest : List Oper} {o : Oper} {a : Act} {Q : Exit → Act → World → Prop} {α : Type} {l n : Nat} (d : Kd α) {w0 W : World} (base : Nat) (hgd : o.guard = none) (s x : Operand) (t e : TypeId) (z : Value) (bytes : Nat)
 (ho : o.op = .call { callee:=.builtin .append,args:=#[s,x],argTypes:=#[t,t] })
 (ht : P.underlying t = some (.slice e)) (hinfo : (P.info? e).map (fun i=>(i.zero,i.size,i.bytes)) = some (some z,d.sz,bytes)) (hz : z.cells.size = d.sz) (hs0 : 0 < d.sz) (hb0 : 0 < bytes)
 (v : Value) (xs : List α) (p : α) (cs : List Value) (ok okp : Nat → Prop) (hs : a.eval s = v) (hx : a.eval x = .slice (some ⟨W.heap.size,0,none⟩) 1 1) (hp : d.M W base okp p cs) (hokp : ∀ k,okp k → ok k ∧ some k ≠ v.ownBlock) (hfresh : ∀ k,W.heap.size ≤ k → ok k)
 (HO : d.R e W base ok v xs) (HB : Below base w0 W) (hbase : base ≤ W.heap.size) (hl : (xs.length + 1) * bytes ≤ 140737488355328)
 (h : ∀ v1 w1,d.R e w1 base ok v1 (xs ++ [p]) → Below base w0 w1 → W.grownBy w1 v.ownBlock → (v1.ownBlock = v.ownBlock ∨ ∃ b,v1.ownBlock = some b ∧ W.heap.size ≤ b) → wpListIn (Fence.wide.inRound l) n P ops Q rest (a.put o.dst v1) w1) :
 wpListIn (Fence.wide.inRound l) n P ops Q (o :: rest) a (W.alloc (.cells cs.toArray e)):=by
 refine wpListIn_plain hgd fun K hK=>oper_in (by rw [ho];intro c hc;cases hc) ?_
 have hw : Region.wanted o (yielded ops a.tmps) = true:=by simp [Region.wanted,hgd]
 have:=Kd.R_append_step (P:=P) (ops:=ops) (o:=o) (a:=a) (Q:=Q) (Kc:=K) d (w0:=w0) (W:=W) base hw s x t e z bytes ho ht hinfo hz hs0 hb0 v xs p cs ok okp hs hx hp hokp hfresh HO HB hbase hl (fun v1 w1 h1 h2 h3 h4=>hK _ _ (h v1 w1 h1 h2 h3 h4));rwa [if_pos hw] at this
def KeptIt (n₀ B1 B2 : Nat) (W W' : World) : Prop:=Below n₀ W W' ∧ (∀ o,W.heap[B1]? = some o → W'.heap[B1]? = some o) ∧ ∀ o,W.heap[B2]? = some o → W'.heap[B2]? = some o
theorem KeptIt.trans {n₀ B1 B2 : Nat} {A B C : World} (h : KeptIt n₀ B1 B2 A B) (k : KeptIt n₀ B1 B2 B C) : KeptIt n₀ B1 B2 A C:=⟨h.1.trans k.1,fun o x=>k.2.1 o (h.2.1 o x),fun o x=>k.2.2 o (h.2.2 o x)⟩
theorem keptIt_b {n₀ B1 B2 : Nat} {w : World} (hn : n₀ ≤ w.heap.size) (h1 : B1 < w.heap.size) (h2 : B2 < w.heap.size) (W : World) (l : Nat) (o o' : Obj) (hl : w.heap.size ≤ l) (h : W.heap[l]? = some o) (hc : o.isCells = false) (hk : o.isWalk = false) : KeptIt n₀ B1 B2 W (W.putObj l o') :=
 ⟨belowK_b hn W l o o' hl h hc hk,fun x hx=>(World.putObj_heap_other (by omega)).trans hx,fun x hx=>(World.putObj_heap_other (by omega)).trans hx⟩
theorem blk_turn {W Y : World} {row : Option Nat} {g : Nat} {c : Array Value} {t : TypeId} {m : Nat × Nat} (h : W.heap[g]? = some (.cells c t m)) (hg : W.grownBy Y row) (hr : ∀ r,row = some r → ∃ o : Obj,W.heap[r]? = some o ∧ o.isCells = false) : Y.heap[g]? = some (.cells c t m):=by
 refine (hg.block g (Array.getElem?_eq_some_iff.1 h).1 (fun e=>?_)).trans h;obtain ⟨o,ho,hc⟩:=hr g e.symm;rw [h] at ho;cases ho;cases hc
theorem R_turn {α : Type} {d : Kd α} {e base : Nat} {ok : Nat → Prop} {W Y : World} {v : Value} {xs : List α} {row : Option Nat} (h : d.R e W base ok v xs) (hg : W.grownBy Y row) (hr : ∀ r,row = some r → ∃ o : Obj,W.heap[r]? = some o ∧ o.isCells = false) : d.R e Y base ok v xs:=by
 refine yD (Kd.R_grown (Kd.R_bound h) hg (fun k hk=>?_)) (fun _ hk=>hk.1);intro e';obtain ⟨_,_,_,q,_,cells,hc⟩:=hk;obtain ⟨o,ho,hcc⟩:=hr k e'.symm;rw [hc] at ho;cases ho;cases hcc
end Go.Proofs.YtiminjibcafkaaaGreatDoor.X
