/- Texts that this claim's law comes to, joined by wip/slim.py: Xfence, Xdue. -/
import Derived.Test.YtiminjibcafkaaaSFX0
import Derived.Test.YtiminjibcafkaaaSFJ8
import Derived.RangeFuncNested
import Derived.RangeFuncBound
import Derived.RangeFuncCalls
import Derived.RangeFuncLeaves
import Derived.RangeFuncBox
import Derived.Shelf.Abstract
import Derived.Shelf.RegionOpen
import Derived.OwnWalkIn
import Derived.TacticsInMore
import Derived.LoopNIn
import Derived.LoopIn
import Derived.Test.YtiminjibcafkaaaSFJ18
section
/- Words for a loop over a function: operations in a round, and what the loop's two sides keep. -/
namespace Go.Proofs.Ytiminjibcafkaaa.X
open Go.RowKit Go.Shelf Go.Proofs.YtiminjibcafkaaaW.PrintWords Go.Proofs.YtiminjibcafkaaaW.PrintLast Go.Proofs.YtiminjibcafkaaaW.PrintMore
set_option linter.unusedVariables false
/-- An operation that is no defer statement, in a round, at the fence that asks nothing. -/
theorem oper_in {P : Program} {l n : Nat} {o : Oper} {a : Act} {w : World} {K : Act → World → Prop} {Q : Exit → Act → World → Prop} (hd : ∀ c, o.op ≠ .defer c) (h : Oper.wp P o a w K Q) : Oper.wpIn (Fence.wide.inRound l) n P o a w K Q := by
  unfold Oper.wpIn
  refine ⟨fun _ _ => trivial, ?_⟩
  rw [Fence.inRound_round, Oper.semAt_some l _ _ hd]
  unfold Oper.wp at h
  generalize (execOp a.eval o).run P w = r at h
  have hdep : ∀ m : Nat, ((Fence.wide.inRound l).depth.isSome = true → 1 ≤ m) := fun m hm => by simp [Fence.wide] at hm
  cases r with
  | ok x w' =>
    cases x with
    | value v => exact h
    | skip => exact h
    | defer d => exact h
    | enter f args =>
      refine ⟨hdep _, CallsIn.inRound l (callsIn_wide.2 ?_)⟩
      exact h
    | row row args =>
      refine ⟨hdep _, fun c cs _ => ?_⟩
      obtain ⟨v, w'', r, s⟩ := h c cs
      exact ⟨v, w'', r, stepsIn_wide.2 s⟩
    | _ => exact h.elim
  | halt x w' =>
    cases x with
    | panic v => exact h
    | _ => exact h.elim
theorem wpOp_in {P : Program} {l n : Nat} {ops : Array Oper} {Q : Exit → Act → World → Prop} {i : Nat} {K : Act → World → Prop} {a : Act} {w : World} (hq : ¬ LetsOut Q) (hd : ∀ (j : Nat) (o : Oper), ops[j]? = some o → ∀ c, o.op ≠ .defer c) (h : wpOp P ops Q i K a w) : wpOpIn (Fence.wide.inRound l) n P ops Q i K a w := by
  unfold wpOpIn
  unfold wpOp at h
  split
  · rename_i ho
    simp only [ho] at h
    exact h
  · rename_i o ho
    simp only [ho] at h
    split
    · rename_i hw
      simp only [hw, if_true] at h
      exact oper_in (hd _ _ ho) (h.resolve_right (fun x => hq x.2))
    · rename_i hw
      simp only [hw] at h
      exact ⟨fun _ _ => trivial, h⟩
theorem wpAny_in {P : Program} {l n : Nat} {md : Region.Mode} {ops : Array Oper} {Q : Exit → Act → World → Prop} (hq : ¬ LetsOut Q) (hd : ∀ (j : Nat) (o : Oper), ops[j]? = some o → ∀ c, o.op ≠ .defer c) : ∀ (fuel : Nat) (listed : Array Bool) (a : Act) (w : World), wpAny P md ops Q fuel listed a w → wpAnyIn (Fence.wide.inRound l) n P md ops Q fuel listed a w := by
  intro fuel
  induction fuel with
  | zero => intro listed a w h; exact h
  | succ fuel ih => intro listed a w h; exact ⟨h.1, fun i hi => wpOpIn_mono (fun a w h => ih _ a w h) (wpOp_in hq hd (h.2 i hi))⟩
/-- No operation of a region is a defer statement. -/
def noDefer (ops : Array Oper) : Bool := ops.toList.all fun o => match o.op with | .defer _ => false | _ => true
theorem noDefer_spec {ops : Array Oper} (h : noDefer ops = true) : ∀ (j : Nat) (o : Oper), ops[j]? = some o → ∀ c, o.op ≠ .defer c := by
  intro j o ho c hc
  unfold noDefer at h
  rw [List.all_eq_true] at h
  have := h o (by rw [Array.mem_toList_iff]; exact Array.mem_of_getElem? ho)
  rw [hc] at this
  cases this
/-- A region that draws its order, in a round: by what is shown of it outside of rounds. -/
theorem region_in {P : Program} {l n id : Nat} {ops : Array Oper} {Q : Exit → Act → World → Prop} {a : Act} {w : World} (hm : P.follows .mixedOrders = true) (hq : ¬ LetsOut Q) (hd : noDefer ops = true) (h : wpAny P .any ops Q ops.size (Array.replicate ops.size false) a (w.drewN 1)) : (Code.region id ops true).wpIn (Fence.wide.inRound l) n P Q a w :=
  wpIn_region_any hm (wpAny_in hq (noDefer_spec hd) _ _ _ _ h)
/-- The post behind a letter. -/
theorem wpIn_hide {F : Fence} {n : Nat} {P : Program} {c : Code} {Q : Exit → Act → World → Prop} {a : Act} {w : World} (h : ∀ QQ : Exit → Act → World → Prop, Aside0 (Q = QQ) → c.wpIn F n P QQ a w) : c.wpIn F n P Q a w := h Q ⟨rfl⟩
theorem bodyPostM_ret {F : Fence} {n : Nat} {P : Program} {fn : Func} {R : Ending → World → Prop} {a : Act} {w : World} {v : Value} (hd : a.defers = []) (hr : (results fn a.tmps).run P w = .ok v w) (h : R (.returned v) w) : bodyPostM F n P fn R .ret a w := by
  show LeavesInM F n P fn a.tmps R a.defers .returning w
  rw [hd]
  exact ⟨v, hr, h⟩
/-- append(v, x) in a round. -/
theorem R_append_in {P : Program} {ops : Array Oper} {rest : List Oper} {o : Oper} {a : Act} {Q : Exit → Act → World → Prop} {α : Type} {l n : Nat} (d : Kd α) {w0 W : World} (base : Nat) (hgd : o.guard = none) (s x : Operand) (t e : TypeId) (z : Value) (bytes : Nat)
    (ho : o.op = .call { callee := .builtin .append, args := #[s, x], argTypes := #[t, t] })
    (ht : P.underlying t = some (.slice e)) (hinfo : (P.info? e).map (fun i => (i.zero, i.size, i.bytes)) = some (some z, d.sz, bytes)) (hz : z.cells.size = d.sz) (hs0 : 0 < d.sz) (hb0 : 0 < bytes)
    (v : Value) (xs : List α) (p : α) (cs : List Value) (ok okp : Nat → Prop) (hs : a.eval s = v) (hx : a.eval x = .slice (some ⟨W.heap.size, 0, none⟩) 1 1) (hp : d.M W base okp p cs) (hokp : ∀ k, okp k → ok k ∧ some k ≠ v.ownBlock) (hfresh : ∀ k, W.heap.size ≤ k → ok k)
    (HO : d.R e W base ok v xs) (HB : Below base w0 W) (hbase : base ≤ W.heap.size) (hl : (xs.length + 1) * bytes ≤ 140737488355328)
    (h : ∀ v1 w1, d.R e w1 base ok v1 (xs ++ [p]) → Below base w0 w1 → W.grownBy w1 v.ownBlock → (v1.ownBlock = v.ownBlock ∨ ∃ b, v1.ownBlock = some b ∧ W.heap.size ≤ b) → wpListIn (Fence.wide.inRound l) n P ops Q rest (a.put o.dst v1) w1) :
    wpListIn (Fence.wide.inRound l) n P ops Q (o :: rest) a (W.alloc (.cells cs.toArray e)) := by
  refine wpListIn_plain hgd fun K hK => oper_in (by rw [ho]; intro c hc; cases hc) ?_
  have hw : Region.wanted o (yielded ops a.tmps) = true := by simp [Region.wanted, hgd]
  have := Kd.R_append_step (P := P) (ops := ops) (o := o) (a := a) (Q := Q) (Kc := K) d (w0 := w0) (W := W) base hw s x t e z bytes ho ht hinfo hz hs0 hb0 v xs p cs ok okp hs hx hp hokp hfresh HO HB hbase hl (fun v1 w1 h1 h2 h3 h4 => hK _ _ (h v1 w1 h1 h2 h3 h4))
  rwa [if_pos hw] at this
/-- What an iterator over memory asks of a round: whatever lay below n₀ lies as it lay; and so do two blocks of its own. -/
def KeptIt (n₀ B1 B2 : Nat) (W W' : World) : Prop := Below n₀ W W' ∧ (∀ o, W.heap[B1]? = some o → W'.heap[B1]? = some o) ∧ ∀ o, W.heap[B2]? = some o → W'.heap[B2]? = some o
theorem KeptIt.refl (n₀ B1 B2 : Nat) (W : World) : KeptIt n₀ B1 B2 W W := ⟨Below.refl _ _, fun _ h => h, fun _ h => h⟩
theorem KeptIt.trans {n₀ B1 B2 : Nat} {A B C : World} (h : KeptIt n₀ B1 B2 A B) (k : KeptIt n₀ B1 B2 B C) : KeptIt n₀ B1 B2 A C := ⟨h.1.trans k.1, fun o x => k.2.1 o (h.2.1 o x), fun o x => k.2.2 o (h.2.2 o x)⟩
theorem keptIt_b {n₀ B1 B2 : Nat} {w : World} (hn : n₀ ≤ w.heap.size) (h1 : B1 < w.heap.size) (h2 : B2 < w.heap.size) (W : World) (l : Nat) (o o' : Obj) (hl : w.heap.size ≤ l) (h : W.heap[l]? = some o) (hc : o.isCells = false) (hk : o.isWalk = false) : KeptIt n₀ B1 B2 W (W.putObj l o') :=
  ⟨belowK_b hn W l o o' hl h hc hk, fun x hx => (World.putObj_heap_other (by omega)).trans hx, fun x hx => (World.putObj_heap_other (by omega)).trans hx⟩
/-- A block of cells abides the turn of a block that is none. -/
theorem blk_turn {W Y : World} {row : Option Nat} {g : Nat} {c : Array Value} {t : TypeId} {m : Nat × Nat} (h : W.heap[g]? = some (.cells c t m)) (hg : W.grownBy Y row) (hr : ∀ r, row = some r → ∃ o : Obj, W.heap[r]? = some o ∧ o.isCells = false) : Y.heap[g]? = some (.cells c t m) := by
  refine (hg.block g (Array.getElem?_eq_some_iff.1 h).1 (fun e => ?_)).trans h
  obtain ⟨o, ho, hc⟩ := hr g e.symm
  rw [h] at ho
  cases ho
  cases hc
/-- A row of the call's own abides it too. -/
theorem R_turn {α : Type} {d : Kd α} {e base : Nat} {ok : Nat → Prop} {W Y : World} {v : Value} {xs : List α} {row : Option Nat} (h : d.R e W base ok v xs) (hg : W.grownBy Y row) (hr : ∀ r, row = some r → ∃ o : Obj, W.heap[r]? = some o ∧ o.isCells = false) : d.R e Y base ok v xs := by
  refine Kd.R_mono (Kd.R_grown (Kd.R_bound h) hg (fun k hk => ?_)) (fun _ hk => hk.1)
  intro e'
  obtain ⟨_, _, _, q, _, cells, hc⟩ := hk
  obtain ⟨o, ho, hcc⟩ := hr k e'.symm
  rw [hc] at ho
  cases ho
  cases hcc
end Go.Proofs.Ytiminjibcafkaaa.X
end
section
/- What is due: the iterator. -/
namespace Go.Proofs.Ytiminjibcafkaaa.X
open Go.RowKit Go.Shelf Go.Proofs.YtiminjibcafkaaaW.PrintWords Go.Proofs.YtiminjibcafkaaaW.PrintLast Go.Proofs.YtiminjibcafkaaaW.PrintMore
set_option linter.unusedVariables false
set_option linter.unusedSimpArgs false
attribute [local go_sem] Oper.semAt_some
/-- Is an entry due? -/
def dueB (cur : Int) (kn : List S78) (x : S27) : Bool := decide (cur ≤ x.f0) && !(kn.any (inRun x.f1.f0 x.f1.f1))
def encE (x : S27) : Array Value := #[.agg #[.int .u8 x.f0, .int .u8 x.f1.f0, .int .u32 x.f1.f1, .int .u32 x.f1.f2, .int .i64 x.f2, .int .u8 x.f3, .int .u32 x.f4]]
theorem filter_take_prefix {α : Type} (p : α → Bool) (l : List α) (k : Nat) : (l.take k).filter p <+: l.filter p := List.IsPrefix.filter p (List.take_prefix k l)
theorem filter_take_succI {α : Type} (p : α → Bool) (l : List α) (k : Nat) (h : k < l.length) : (l.take (k + 1)).filter p = (l.take k).filter p ++ (if p l[k] = true then [l[k]] else []) := by
  rw [List.take_succ_eq_append_getElem h, List.filter_append]
  congr 1
  by_cases hp : p l[k] = true <;> simp [hp]
set_option maxRecDepth 100000 in
set_option maxHeartbeats 4000000 in
theorem due_iterG {α : Type} (val : α → S27) (k n : Nat) (hn : 1 ≤ n) (w0 : World) (B1 B2 : Nat) (tR tN : Nat) (cR cN : Array Value) (A : Option Addr) (c : Nat) (hs : List α) (held : List S27) (hmap : hs.map val = held) (cur : Int) (AK : Option Addr) (ck : Nat) (kn : List S78)
    (h5 : cR[5]? = some (.slice A held.length c)) (h4 : cN[4]? = some (.int .u8 cur)) (h6 : cN[6]? = some (.slice AK kn.length ck))
    (HR : Kd.C k27 w0 A held.length held) (HK : Kd.C k78 w0 AK kn.length kn) (hck : kn.length ≤ ck) (hkr : know_Right.f k kn = some true)
    (w : World) (hW : Below w0.heap.size w0 w) (hb1 : w.heap[B1]? = some (.cells cR tR (0, 0))) (hb2 : w.heap[B2]? = some (.cells cN tN (0, 0))) :
    SeqStopsK Fence.wide n Try.prog 67 #[.pointer (some ⟨B1, 0, none⟩), .pointer (some ⟨B2, 0, none⟩)] (fun x => encE (val x)) (KeptIt w0.heap.size B1 B2) (fun ys => ys = hs.filter (fun x => dueB cur kn (val x))) (fun pre => pre <+: hs.filter (fun x => dueB cur kn (val x))) (hs.filter (fun x => dueB cur kn (val x))).length w := fun lp J Jx W hWw hJ hJx hY h0 => by
  have hlen : held.length = hs.length := by rw [← hmap, List.length_map]
  have hmax : held.length ≤ 9223372036854775807 := HR.2.1
  have hu := Try.underlying27
  have HY := Aside0.mk hY
  have HJ := Aside0.mk hJ
  have HR0 := Aside0.mk HR
  have HK0 := Aside0.mk HK
  have HCK := Aside0.mk hck
  have HKR := Aside0.mk hkr
  have HB0 := Aside0.mk (hW.trans (hWw.mono hW.size))
  have hg1 := blk_below hb1 hWw
  have hg2 := blk_below hb2 hWw
  have HG1 := Aside0.mk hg1
  have HG2 := Aside0.mk hg2
  have HW0 := Aside0.mk (Nat.le_refl W.heap.size)
  have H5 := Aside0.mk h5
  have H4 := Aside0.mk h4
  have H6 := Aside0.mk h6
  have hJx' := Aside0.mk hJx
  have H0 := Aside0.mk h0
  have q5 : W.cell? ⟨B1, 5, none⟩ = some (.slice A held.length c) := (blk_cell hg1 5).trans h5
  clear hY hJ HR HK hck hkr hW hWw hg1 hg2 h5 h4 h6 hb1 hb2 hJx h0
  show CallsIn Fence.wide n Try.prog 67 #[.func (.yield lp) #[] #[], .pointer (some ⟨B1, 0, none⟩), .pointer (some ⟨B2, 0, none⟩)] W _
  refine callsIn_of_wp Try.func67 rfl trivial ?_ rfl
  simp only [Try.ntmps67, List.size_toArray, List.length_cons, List.length_nil, Nat.reduceAdd, Nat.reduceSub, Array.replicate_succ, Array.replicate_zero, List.push_toArray, List.append_toArray, List.nil_append, List.cons_append]
  gi_wp2_with fail
  gi_loopw [9] (fun s9 wr => ∃ kk : Nat, kk ≤ held.length ∧ s9 = .int .i64 kk ∧ Aside0 (J ((hs.take kk).filter (fun x => dueB cur kn (val x))) wr) ∧ Aside0 (Below w0.heap.size w0 wr) ∧ Aside0 (W.heap.size ≤ wr.heap.size) ∧ Aside0 (wr.heap[B1]? = some (.cells cR tR (0, 0))) ∧ Aside0 (wr.heap[B2]? = some (.cells cN tN (0, 0)))) (fun s9 _ => held.length - (intOf s9).toNat)
  case atStart => exact ⟨0, Nat.zero_le _, rfl, H0, HB0, HW0, HG1, HG2⟩
  case round =>
    obtain ⟨kk, hkk, rfl, HJk, HBk, HWk, HG1k, HG2k⟩ := hrel
    clear H0 HB0 HG1 HG2 q5
    by_cases hlt : kk < held.length
    · have hlh : kk < hs.length := by rw [← hlen]; exact hlt
      have hltz : (kk : Int) < (held.length : Int) := by omega
      have h0k : (0 : Int) ≤ (kk : Int) := by omega
      have hfs : (hs.take (kk + 1)).filter (fun x => dueB cur kn (val x)) = (hs.take kk).filter (fun x => dueB cur kn (val x)) ++ (if dueB cur kn (val hs[kk]) = true then [hs[kk]] else []) := filter_take_succI (fun x => dueB cur kn (val x)) hs kk hlh
      have hpre := filter_take_prefix (fun x => dueB cur kn (val x)) hs (kk + 1)
      obtain ⟨ax, rfl, p0, p1, p2, p3, p4, p5, p6⟩ := at_T27 (Kd.C_below HR0.out HBk.out) (kk : Int) h0k hltz
      rw [show rd_T27 held (kk : Int) = held.getD kk z27 from rfl] at p0 p1 p2 p3 p4 p5 p6
      simp only [Int.toNat_natCast] at p0 p1 p2 p3 p4 p5 p6
      have hgx : held.getD kk z27 = val hs[kk] := by subst hmap; simp [hlh]
      rw [hgx] at p0 p1 p2 p3 p4 p5 p6
      clear hgx
      generalize hs[kk] = XA at hfs p0 p1 p2 p3 p4 p5 p6
      generalize hval : val XA = X at hfs p0 p1 p2 p3 p4 p5 p6
      have HVAL := Aside0.mk hval
      clear hval hlh
      have HFS := Aside0.mk hfs
      have HPRE := Aside0.mk hpre
      clear hfs hpre
      have HE := Aside0.mk (heap_alloc_new wr (.cells #[.int .u8 X.f0, .int .u8 X.f1.f0, .int .u32 X.f1.f1, .int .u32 X.f1.f2, .int .i64 X.f2, .int .u8 X.f3, .int .u32 X.f4] 27))
      have HJe := Aside0.mk (HJ.out _ wr (wr.alloc (.cells #[.int .u8 X.f0, .int .u8 X.f1.f0, .int .u32 X.f1.f1, .int .u32 X.f1.f2, .int .i64 X.f2, .int .u8 X.f3, .int .u32 X.f4] 27)) none HJk.out (World.grownBy_alloc wr _ none) (fun r e => by cases e))
      have HBe := Aside0.mk (HBk.out.alloc HBk.out.size (.cells #[.int .u8 X.f0, .int .u8 X.f1.f0, .int .u32 X.f1.f1, .int .u32 X.f1.f2, .int .i64 X.f2, .int .u8 X.f3, .int .u32 X.f4] 27))
      have HWe := Aside0.mk (show W.heap.size ≤ (wr.alloc (.cells #[.int .u8 X.f0, .int .u8 X.f1.f0, .int .u32 X.f1.f1, .int .u32 X.f1.f2, .int .i64 X.f2, .int .u8 X.f3, .int .u32 X.f4] 27)).heap.size by have := HWk.out; simp; omega)
      have HG1e := Aside0.mk (blk_alloc HG1k.out (.cells #[.int .u8 X.f0, .int .u8 X.f1.f0, .int .u32 X.f1.f1, .int .u32 X.f1.f2, .int .i64 X.f2, .int .u8 X.f3, .int .u32 X.f4] 27))
      have HG2e := Aside0.mk (blk_alloc HG2k.out (.cells #[.int .u8 X.f0, .int .u8 X.f1.f0, .int .u32 X.f1.f1, .int .u32 X.f1.f2, .int .i64 X.f2, .int .u8 X.f3, .int .u32 X.f4] 27))
      have g4 : (wr.alloc (.cells #[.int .u8 X.f0, .int .u8 X.f1.f0, .int .u32 X.f1.f1, .int .u32 X.f1.f2, .int .i64 X.f2, .int .u8 X.f3, .int .u32 X.f4] 27)).cell? ⟨B2, 4, none⟩ = some (.int .u8 cur) := (blk_cell HG2e.out 4).trans H4.out
      have g6 : (wr.alloc (.cells #[.int .u8 X.f0, .int .u8 X.f1.f0, .int .u32 X.f1.f1, .int .u32 X.f1.f2, .int .i64 X.f2, .int .u8 X.f3, .int .u32 X.f4] 27)).cell? ⟨B2, 6, none⟩ = some (.slice AK kn.length ck) := (blk_cell HG2e.out 6).trans H6.out
      by_cases hcx : cur ≤ X.f0
      · have hcb : decide (X.f0 ≥ cur) = true := decide_eq_true hcx
        have hcb2 : decide (cur ≤ X.f0) = true := decide_eq_true hcx
        have hhas : know_Has.f k kn X.f1.f0 X.f1.f1 = some (kn.any (inRun X.f1.f0 X.f1.f1)) := by unfold know_Has.f; rw [HKR.out]; rfl
        have HHAS := Aside0.mk hhas
        have hde : dueB cur kn X = !(kn.any (inRun X.f1.f0 X.f1.f1)) := by unfold dueB; rw [hcb2]; rfl
        have HDE := Aside0.mk hde
        clear hhas hde
        generalize kn.any (inRun X.f1.f0 X.f1.f1) = ba at HHAS HDE
        gi_wp2_with fail
        refine ⟨trivial, ?_⟩
        refine (callsIn_wide.2 (know_Has.calls k _ _ kn _ _ ba _ (Kd.C_below HK0.out HBe.out) HCK.out HHAS.out)).mono ?_
        rintro ev w5 ⟨rfl, hx⟩
        have HEx := Aside0.mk (blk_below HE.out hx)
        have HJx := Aside0.mk (HJ.out _ _ w5 none HJe.out (grown_of_below hx none) (fun r e => by cases e))
        have HBx := Aside0.mk (below_step HBe.out hx)
        have HWx := Aside0.mk (Nat.le_trans HWe.out hx.size)
        have HG1x := Aside0.mk (blk_below HG1e.out hx)
        have HG2x := Aside0.mk (blk_below HG2e.out hx)
        clear hx HE HJe HBe HWe HG1e HG2e HJk HBk HWk HG1k HG2k g4 g6 p0 p1 p2 p3 p4 p5 p6
        obtain ⟨s0, s1, s2, s3, s4, s5, s6⟩ := cells7 HEx.out
        cases ba with
        | true =>
          gi_wp2_with fail
          refine ⟨fun _ h => (by cases h), ?_⟩
          gi_wp2_with fail
          go_roundw
          case rel =>
            refine ⟨kk + 1, by omega, by go_num, ?_, HBx, HWx, HG1x, HG2x⟩
            have h1 := HFS.out
            rw [HDE.out] at h1
            simp only [Bool.not_true, Bool.false_eq_true, if_false, List.append_nil] at h1
            rw [h1]
            exact HJx
          case measure => simp [intOf]; omega
        | false =>
          obtain ⟨fn, tmps, assign, body, hy, hR⟩ := HY.out _ XA w5 HJx.out (by
            have h1 := HFS.out
            have h2 := HPRE.out.length_le
            rw [HDE.out] at h1
            rw [h1] at h2
            simp at h2
            omega)
          rw [HVAL.out] at hy
          dsimp only [encE] at hy
          gi_wp2_with fail
          refine hR.mono ?_
          rintro ev W3 (⟨rfl, hJ3, hk3⟩ | ⟨rfl, hJx3⟩)
          · have hfs : (hs.take (kk + 1)).filter (fun x => dueB cur kn (val x)) = (hs.take kk).filter (fun x => dueB cur kn (val x)) ++ [XA] := by
              have h1 := HFS.out
              rw [HDE.out] at h1
              simpa using h1
            have HFS2 := Aside0.mk hfs
            clear hfs
            have HBy := Aside0.mk (HBx.out.trans hk3.1)
            have HWy := Aside0.mk (Nat.le_trans HWx.out hk3.1.size)
            have HG1y := Aside0.mk (hk3.2.1 _ HG1x.out)
            have HG2y := Aside0.mk (hk3.2.2 _ HG2x.out)
            have HJy := Aside0.mk hJ3
            clear hk3 hJ3
            gi_wp2_with fail
            go_roundw
            case rel =>
              refine ⟨kk + 1, by omega, by go_num, ?_, HBy, HWy, HG1y, HG2y⟩
              rw [HFS2.out]
              exact HJy
            case measure => simp [intOf]; omega
          · have hfs : (hs.take (kk + 1)).filter (fun x => dueB cur kn (val x)) = (hs.take kk).filter (fun x => dueB cur kn (val x)) ++ [XA] := by
              have h1 := HFS.out
              rw [HDE.out] at h1
              simpa using h1
            have HP := Aside0.mk (show (hs.take kk).filter (fun x => dueB cur kn (val x)) ++ [XA] <+: hs.filter (fun x => dueB cur kn (val x)) by rw [← hfs]; exact HPRE.out)
            clear hfs
            gi_wp2_with fail
            refine bodyPost_ret (results_none rfl _ _ _) rfl ?_
            exact ⟨⟨_, rfl⟩, .inr ⟨_, HP.out, hJx3⟩⟩
      · have hcb : decide (X.f0 ≥ cur) = false := decide_eq_false hcx
        have hcb2 : decide (cur ≤ X.f0) = false := decide_eq_false hcx
        have hde : dueB cur kn X = false := by unfold dueB; rw [hcb2]; rfl
        have HDE := Aside0.mk hde
        clear hde
        gi_wp2_with fail
        refine ⟨trivial, ?_⟩
        gi_wp2_with fail
        refine ⟨fun _ h => (by cases h), ?_⟩
        gi_wp2_with fail
        go_roundw
        case rel =>
          refine ⟨kk + 1, by omega, by go_num, ?_, HBe, HWe, HG1e, HG2e⟩
          have h1 := HFS.out
          rw [HDE.out] at h1
          simp only [Bool.false_eq_true, if_false, List.append_nil] at h1
          rw [h1]
          exact HJe
        case measure => simp [intOf]; omega
    · gi_wp2_with fail
      go_end0
      refine ⟨⟨_, rfl⟩, .inl ⟨_, rfl, ?_⟩⟩
      have h1 := HJk.out
      rw [List.take_of_length_le (by omega)] at h1
      exact h1
theorem due_iter (k n : Nat) (hn : 1 ≤ n) (w0 : World) (B1 B2 : Nat) (tR tN : Nat) (cR cN : Array Value) (A : Option Addr) (c : Nat) (held : List S27) (cur : Int) (AK : Option Addr) (ck : Nat) (kn : List S78)
    (h5 : cR[5]? = some (.slice A held.length c)) (h4 : cN[4]? = some (.int .u8 cur)) (h6 : cN[6]? = some (.slice AK kn.length ck))
    (HR : Kd.C k27 w0 A held.length held) (HK : Kd.C k78 w0 AK kn.length kn) (hck : kn.length ≤ ck) (hkr : know_Right.f k kn = some true)
    (w : World) (hW : Below w0.heap.size w0 w) (hb1 : w.heap[B1]? = some (.cells cR tR (0, 0))) (hb2 : w.heap[B2]? = some (.cells cN tN (0, 0))) :
    SeqStopsK Fence.wide n Try.prog 67 #[.pointer (some ⟨B1, 0, none⟩), .pointer (some ⟨B2, 0, none⟩)] encE (KeptIt w0.heap.size B1 B2) (fun ys => ys = held.filter (dueB cur kn)) (fun pre => pre <+: held.filter (dueB cur kn)) (held.filter (dueB cur kn)).length w :=
  due_iterG (fun x => x) k n hn w0 B1 B2 tR tN cR cN A c held held (List.map_id' _) cur AK ck kn h5 h4 h6 HR HK hck hkr w hW hb1 hb2
/-- What is due, collected. -/
theorem own_cell_ne {W : World} {g : Nat} {t e base size n : Nat} {c : Array Value} {v : Value} {xs : List Value} (h : W.heap[g]? = some (.cells c t (0, 0))) (hr : W.ownsRow base e size v n xs) (hte : t ≠ e) : some g ≠ v.ownBlock := by
  intro e'
  obtain ⟨cells, hc⟩ := own_typed hr g e'.symm
  rw [h] at hc
  cases hc
  exact hte rfl
set_option maxRecDepth 100000 in
set_option maxHeartbeats 4000000 in
theorem AppendSeq_due (k : Nat) (w0 : World) (B1 B2 : Nat) (tR tN : Nat) (cR cN : Array Value) (A : Option Addr) (c : Nat) (held : List S27) (cur : Int) (AK : Option Addr) (ck : Nat) (kn : List S78)
    (h5 : cR[5]? = some (.slice A held.length c)) (h4 : cN[4]? = some (.int .u8 cur)) (h6 : cN[6]? = some (.slice AK kn.length ck))
    (HR : Kd.C k27 w0 A held.length held) (HK : Kd.C k78 w0 AK kn.length kn) (hck : kn.length ≤ ck) (hkr : know_Right.f k kn = some true) (hlen : held.length ≤ 400000)
    (w : World) (hW : Below w0.heap.size w0 w) (hb1 : w.heap[B1]? = some (.cells cR tR (0, 0))) (hb2 : w.heap[B2]? = some (.cells cN tN (0, 0))) :
    Calls Try.prog 68 #[.slice none 0 0, .func (.func 67) #[] #[.pointer (some ⟨B1, 0, none⟩), .pointer (some ⟨B2, 0, none⟩)]] w
      fun e w' => ∃ v, e = .returned v ∧ Kd.R k27 27 w' w.heap.size (fun _ => True) v (held.filter (dueB cur kn)) ∧ Below w.heap.size w w' := by
  have hu := Try.underlying27
  have hN : (held.filter (dueB cur kn)).length ≤ 400000 := Nat.le_trans (List.length_filter_le _ _) hlen
  have hs := Aside0.mk (due_iter k 2 (by omega) w0 B1 B2 tR tN cR cN A c held cur AK ck kn h5 h4 h6 HR HK hck hkr (w.alloc (.cells #[.slice none 0 0] 22)) (hW.alloc hW.size _) (blk_alloc hb1 _) (blk_alloc hb2 _))
  have l1 : B1 < w.heap.size := blk_lt hb1
  have l2 : B2 < w.heap.size := blk_lt hb2
  have l0 : w0.heap.size ≤ w.heap.size := hW.size
  clear h5 h4 h6 HR HK hck hkr hlen hW hb1 hb2
  refine (callsIn_wide (n := 3)).1 ?_
  refine callsIn_of_wp_marks Try.func68 rfl trivial ?_ rfl
  simp only [Try.ntmps68, List.size_toArray, List.length_cons, List.length_nil, Nat.reduceAdd, Nat.reduceSub, Array.replicate_succ, Array.replicate_zero, List.push_toArray, List.append_toArray, List.nil_append, List.cons_append]
  gi_wp2
  have b0 := blk_new w (.cells #[.slice none 0 0] 22)
  have HBX := (Below.refl w.heap.size w).alloc (Nat.le_refl _) (.cells #[.slice none 0 0] 22)
  generalize hw1 : w.alloc (.cells #[.slice none 0 0] 22) = w1 at hs b0 HBX ⊢
  have hsz : w1.heap.size = w.heap.size + 1 := by rw [← hw1]; simp
  clear hw1
  refine wpIn_rangeFunc_ownH rfl (by omega) (gf := 67) (lb := #[.pointer (some ⟨B1, 0, none⟩), .pointer (some ⟨B2, 0, none⟩)]) rfl trivial (enters_of Try.func67 (by kernel_rfl) rfl)
    hs.out (fun h k => h.trans k) (keptIt_b (by omega) (by omega) (by omega)) (Below.refl _ _) (fun _ => rfl)
    (fun pre W => (∃ v, W.heap[w.heap.size]? = some (.cells #[v] 22 (0, 0)) ∧ Kd.R k27 27 W w.heap.size (fun _ => True) v pre) ∧ Below w.heap.size w W)
    (fun _ _ _ => False)
    (OwnFrom.and (fun s X Y row hh hg hr => by
      obtain ⟨v, h1, h2⟩ := hh
      exact ⟨v, blk_turn h1 hg (fun r e => (hr r e).2), R_turn h2 hg (fun r e => (hr r e).2)⟩) (ownFrom_below (Nat.le_refl _) (by omega)))
    (fun _ _ _ _ _ hh _ _ => hh)
    ⟨⟨_, b0, Kd.R_nil _ _ _ _ _⟩, HBX⟩
    (fun x a' W => ∃ Bx, w1.heap.size ≤ Bx ∧ W.heap[Bx]? = some (.cells #[.int .u8 x.f0, .int .u8 x.f1.f0, .int .u32 x.f1.f1, .int .u32 x.f1.f2, .int .i64 x.f2, .int .u8 x.f3, .int .u32 x.f4] 27 (0, 0)) ∧
      a' = { tmps := #[.slice none 0 0, .func (.func 67) #[] #[.pointer (some ⟨B1, 0, none⟩), .pointer (some ⟨B2, 0, none⟩)], .pointer (some ⟨w.heap.size, 0, none⟩), undef, .slice none 0 0, .pointer (some ⟨Bx, 0, none⟩), .func (.func 67) #[] #[.pointer (some ⟨B1, 0, none⟩), .pointer (some ⟨B2, 0, none⟩)], .agg #[.int .u8 x.f0, .int .u8 x.f1.f0, .int .u32 x.f1.f1, .int .u32 x.f1.f2, .int .i64 x.f2, .int .u8 x.f3, .int .u32 x.f4], undef, undef, undef, undef, undef], defers := [] })
    (fun x a' s X Y row hh hg hr => by
      obtain ⟨Bx, h1, h2, h3⟩ := hh
      exact ⟨Bx, h1, blk_turn h2 hg (fun r e => (hr r e).2), h3⟩)
    ?assign ?body ?done ?stop
  case assign =>
    rintro l pre x W K ⟨⟨v, hv, hR⟩, hB⟩ hK
    dsimp only [encE]
    gi_wp2
    have hsW := hB.size
    exact hK _ _ ((KeepsOthers.alloc _ _).from _) ⟨(Below.refl _ W).alloc (by omega) _, fun o h => blk_alloc h _, fun o h => blk_alloc h _⟩ ⟨⟨v, blk_alloc hv _, Kd.R_below hR ((Below.refl _ W).alloc (Nat.le_refl _) _)⟩, hB.alloc hB.size _⟩ ⟨W.heap.size, by have := blk_lt hv; omega, blk_new W _, rfl⟩
  case body =>
    rintro l pre x a' W hl hr ⟨⟨v, hv, hR⟩, hB⟩ ⟨Bx, hBx, bX, rfl⟩ hlt
    have hv0 := (blk_cell hv 0).trans (show _ = some v from rfl)
    obtain ⟨s0, s1, s2, s3, s4, s5, s6⟩ := cells7 bX
    have hsW := hB.size
    have hp := hlt
    gi_wp2_with (gi_at_builtin; refine R_append_in k27 (w0 := w) (W := W) w.heap.size rfl _ _ 22 27 _ 32 rfl Try.underlying22 info27 rfl (by decide) (by decide) v pre x [.int .u8 x.f0, .int .u8 x.f1.f0, .int .u32 x.f1.f1, .int .u32 x.f1.f2, .int .i64 x.f2, .int .u8 x.f3, .int .u32 x.f4] (fun _ => True) (fun _ => False) rfl rfl (k27_mkM _ _ _ x) (fun _ h => h.elim) (fun _ _ => trivial) hR hB hB.size (by omega) ?_; intro v1 w1' hR1 hB1 hg1 hat1; have hs1 := own_slice hR1.2.choose_spec.1; obtain ⟨A1, c1, rfl⟩ := hs1; have hv1 := blk_grown hv hg1 (own_cell_ne hv hR.2.choose_spec.1 (by decide)); have hv2 := blk_frozen hv1 0; have hv3 := (blk_cell hv1 0).trans (show _ = some v from rfl))
    have hR2 : Kd.R k27 27 w1' w.heap.size (fun _ => True) (.slice A1 (pre.length + 1) c1) (pre ++ [x]) := by simpa using hR1
    have hbase : ∀ j, v.ownBlock = some j → w.heap.size ≤ j := fun j e => Kd.R_base hR j e
    have hcells : ∀ (j : Nat) (o : Obj), v.ownBlock = some j → W.heap[j]? = some o → o.isCells = true := fun j o e ho => by
      obtain ⟨cells, hc⟩ := own_typed hR.2.choose_spec.1 j e
      rw [hc] at ho
      cases ho
      rfl
    have hold : ∀ (g : Nat) (o : Obj), g < w.heap.size → W.heap[g]? = some o → (w1'.setCell ⟨w.heap.size, 0, none⟩ (.slice A1 (pre.length + 1) c1)).heap[g]? = some o := fun g o hg ho => by
      rw [Below.heap_setCell _ _ _ _ (by show g ≠ w.heap.size; omega)]
      exact blk_grown ho hg1 (fun e => by have := hbase g e.symm; omega)
    have hbel : Below w.heap.size W (w1'.setCell ⟨w.heap.size, 0, none⟩ (.slice A1 (pre.length + 1) c1)) := (((Below.refl w.heap.size W).grown hg1 hsW hbase).setCell (p := ⟨w.heap.size, 0, none⟩) (Nat.le_refl _) _)
    have hR3 := Kd.R_mono (Kd.R_far (Kd.R_types hR2 hv1 (by decide)) (p := ⟨w.heap.size, 0, none⟩) (fun k hk => hk.2) (.slice A1 (pre.length + 1) c1)) (fun _ hk => hk.1)
    exact ⟨((KeepsOthers.of_grownBy hg1 hcells).trans (KeepsOthers.setCell _ _ _)).from _, ⟨hbel.mono l0, fun o ho => hold B1 o l1 ho, fun o ho => hold B2 o l2 ho⟩, ⟨_, blk_put hv1 0 _ rfl, hR3⟩, hB.trans hbel⟩
  case done =>
    rintro D ys W hD rfl ⟨⟨v, hv, hR⟩, hB⟩ hK
    have hv0 := (blk_cell hv 0).trans (show _ = some v from rfl)
    gi_wp2
    refine ⟨by simp, .inl ⟨_, _, rfl, run_takeDeferred hK, ?_⟩⟩
    exact ⟨_, results_tmp rfl _ _ _, v, rfl, R_turn hR (grownBy_putObj' W D _) (fun r e => by cases e; exact ⟨_, hK, rfl⟩), hB.trans (belowK_b (w := w) (Nat.le_refl _) W D _ _ (by omega) hK rfl rfl)⟩
  case stop =>
    rintro D cc pre W _ _ h _
    exact h.elim
set_option maxRecDepth 100000 in
set_option maxHeartbeats 4000000 in
theorem Collect_due (k : Nat) (w0 : World) (B1 B2 : Nat) (tR tN : Nat) (cR cN : Array Value) (A : Option Addr) (c : Nat) (held : List S27) (cur : Int) (AK : Option Addr) (ck : Nat) (kn : List S78)
    (h5 : cR[5]? = some (.slice A held.length c)) (h4 : cN[4]? = some (.int .u8 cur)) (h6 : cN[6]? = some (.slice AK kn.length ck))
    (HR : Kd.C k27 w0 A held.length held) (HK : Kd.C k78 w0 AK kn.length kn) (hck : kn.length ≤ ck) (hkr : know_Right.f k kn = some true) (hlen : held.length ≤ 400000)
    (w : World) (hW : Below w0.heap.size w0 w) (hb1 : w.heap[B1]? = some (.cells cR tR (0, 0))) (hb2 : w.heap[B2]? = some (.cells cN tN (0, 0))) :
    Calls Try.prog 51 #[.func (.func 67) #[] #[.pointer (some ⟨B1, 0, none⟩), .pointer (some ⟨B2, 0, none⟩)]] w
      fun e w' => ∃ v, e = .returned v ∧ Kd.R k27 27 w' w.heap.size (fun _ => True) v (held.filter (dueB cur kn)) ∧ Below w.heap.size w w' := by
  have HA := Aside0.mk (AppendSeq_due k w0 B1 B2 tR tN cR cN A c held cur AK ck kn h5 h4 h6 HR HK hck hkr hlen w hW hb1 hb2)
  clear h5 h4 h6 HR HK hck hkr hlen hW hb1 hb2
  go_enter Try.func51, Try.ntmps51
  go_wp2_with fail
  refine HA.out.mono ?_
  rintro e w1 ⟨v, rfl, hR, hB⟩
  have HR := Aside0.mk hR
  have HB := Aside0.mk hB
  clear hR hB
  go_wp2_with fail
  go_ret
  exact ⟨_, rfl, HR.out, HB.out⟩
set_option maxRecDepth 100000 in
set_option maxHeartbeats 4000000 in
theorem due_call (a0_0 a0_1 a0_2 a0_3 : Int) (A0_4 : Option Addr) (c0_4 : Nat) (l0_4 : List S78) (A0_5 : Option Addr) (c0_5 : Nat) (l0_5 : List S27) (a0_6 : Bool) (a0_7 a0_8 a0_9 a0_10 : Int) (A0_11 : Option Addr) (c0_11 : Nat) (l0_11 : List S78) (a0_12 : Int) (a1_0 a1_1 a1_2 a1_3 a1_4 a1_5 : Int) (A1_6 : Option Addr) (c1_6 : Nat) (l1_6 : List S78) (a1_7 : Int) (A1_8 : Option Addr) (c1_8 : Nat) (l1_8 : List S27) (a1_9 : Int) (a1_10 : Bool) (A1_11 : Option Addr) (c1_11 : Nat) (l1_11 : List S78) (w : World) :
    Calls Try.prog 49 #[.agg #[.int .u8 a0_0, .int .u8 a0_1, .int .u32 a0_2, .int .u32 a0_3, .slice A0_4 l0_4.length c0_4, .slice A0_5 l0_5.length c0_5, .bool a0_6, .int .u32 a0_7, .int .u8 a0_8, .int .u8 a0_9, .int .u32 a0_10, .slice A0_11 l0_11.length c0_11, .int .u32 a0_12], .agg #[.int .i64 a1_0, .int .u8 a1_1, .int .u8 a1_2, .int .u32 a1_3, .int .u8 a1_4, .int .u8 a1_5, .slice A1_6 l1_6.length c1_6, .int .u32 a1_7, .slice A1_8 l1_8.length c1_8, .int .u8 a1_9, .bool a1_10, .slice A1_11 l1_11.length c1_11]] w fun e w' => e = .returned (.func (.func 67) #[] #[.pointer (some ⟨w.heap.size, 0, none⟩), .pointer (some ⟨w.heap.size + 1, 0, none⟩)]) ∧ w' = (w.alloc (.cells #[.int .u8 a0_0, .int .u8 a0_1, .int .u32 a0_2, .int .u32 a0_3, .slice A0_4 l0_4.length c0_4, .slice A0_5 l0_5.length c0_5, .bool a0_6, .int .u32 a0_7, .int .u8 a0_8, .int .u8 a0_9, .int .u32 a0_10, .slice A0_11 l0_11.length c0_11, .int .u32 a0_12] 51)).alloc (.cells #[.int .i64 a1_0, .int .u8 a1_1, .int .u8 a1_2, .int .u32 a1_3, .int .u8 a1_4, .int .u8 a1_5, .slice A1_6 l1_6.length c1_6, .int .u32 a1_7, .slice A1_8 l1_8.length c1_8, .int .u8 a1_9, .bool a1_10, .slice A1_11 l1_11.length c1_11] 53) := by
  have hmf : ∀ (fn : Fn) (first cap : Array Value) (w : World), (Instr.makeFunc fn first cap).run Try.prog w = .ok (.func fn first cap) w := fun _ _ _ _ => rfl
  go_enter Try.func49, Try.ntmps49
  go_wp2
  go_ret
  exact ⟨rfl, rfl⟩
end Go.Proofs.Ytiminjibcafkaaa.X
end
