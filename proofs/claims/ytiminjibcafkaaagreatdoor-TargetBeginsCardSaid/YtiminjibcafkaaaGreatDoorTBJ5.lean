/- Texts that this claim's law comes to, joined by wip/slim.py: Xhcommon, Xfrz, Xreg, Xquiet, X14. -/
import Derived.Test.YtiminjibcafkaaaGreatDoorTBJ4
import Derived.Laws.CopyRow
import Derived.Deep.QuietTactic
import Derived.BigQuiet
section
-- MADE BY wip/prx.py (the kit's printer, with contracts proved by hand). Not trusted: Lean checks it.
namespace Go.Proofs.YtiminjibcafkaaaGreatDoor.X
open Go.RowKit Go.Proofs.YtiminjibcafkaaaGreatDoorW.PrintWords Go.Proofs.YtiminjibcafkaaaGreatDoorW.PrintLast Go.Proofs.YtiminjibcafkaaaGreatDoorW.PrintMore
attribute [local go_sem] max2_int min2_int max_two min_two max_three min_three max_four min_four   -- for this text's walks alone
set_option linter.unusedVariables false
set_option linter.unusedSimpArgs false
--EXT Derived.Laws.CopyRow 
/-! ### common: by hand -/
/-- The first place at which p holds, or -1. -/
def idxL {α : Type} (p : α → Bool) : List α → Nat → Int
 | [],_=>-1
 | x :: l,i=>if p x = true then (i : Int) else idxL p l (i + 1)
theorem idxL_hit {α : Type} (p : α → Bool) (z : α) : ∀ (l : List α) (i k : Nat),k < l.length → (∀ j,j < k → p (l.getD j z) = false) → p (l.getD k z) = true → idxL p l i = ((i + k : Nat) : Int):=by
 intro l
 induction l with
 | nil=>intro i k hk;simp at hk
 | cons x l ih =>
  intro i k hk hf ht
  cases k with
  | zero =>
   have h1 : p x = true:=by simpa using ht
   simp [idxL,h1]
  | succ k =>
   have h1 : p x = false:=by simpa using hf 0 (by omega)
   simp only [idxL,h1,Bool.false_eq_true,if_false]
   rw [ih (i + 1) k (by simpa using hk) (fun j hj=>by simpa using hf (j + 1) (by omega)) (by simpa using ht)]
   congr 1
   omega
theorem idxL_miss {α : Type} (p : α → Bool) (z : α) : ∀ (l : List α) (i : Nat),(∀ j,j < l.length → p (l.getD j z) = false) → idxL p l i = -1:=by
 intro l
 induction l with
 | nil=>intro i _;rfl
 | cons x l ih =>
  intro i hf
  have h1 : p x = false:=by simpa using hf 0 (by simp)
  simp only [idxL,h1,Bool.false_eq_true,if_false]
  exact ih (i + 1) (fun j hj=>by simpa using hf (j + 1) (by simpa using hj))
theorem idxL_any {α : Type} (p : α → Bool) : ∀ (l : List α) (i : Nat),decide (0 ≤ idxL p l i) = l.any p:=by
 intro l
 induction l with
 | nil=>intro i;rfl
 | cons x l ih =>
  intro i
  by_cases h : p x = true
  ·simp [idxL,h]
  ·simp only [Bool.not_eq_true] at h
   simp only [idxL,h,Bool.false_eq_true,if_false,ih,List.any_cons,Bool.false_or]
theorem idxL_find {α : Type} (p : α → Bool) (z : α) : ∀ (l : List α) (i : Nat),(∃ k,idxL p l i = ((i + k : Nat) : Int) ∧ k < l.length ∧ l.find? p = some (l.getD k z)) ∨ (idxL p l i = -1 ∧ l.find? p = none):=by
 intro l
 induction l with
 | nil=>intro i;exact .inr ⟨rfl,rfl⟩
 | cons x l ih =>
  intro i
  by_cases h : p x = true
  ·exact .inl ⟨0,by simp [idxL,h],by simp,by simp [h]⟩
  ·simp only [Bool.not_eq_true] at h
   rcases ih (i + 1) with ⟨k,e,hk,hf⟩ | ⟨e,hf⟩
   ·refine .inl ⟨k + 1,?_,by simpa using hk,?_⟩
    ·simp only [idxL,h,Bool.false_eq_true,if_false]
     rw [e];congr 1;omega
    ·rw [List.find?_cons,h,hf];simp
   ·exact .inr ⟨by simp only [idxL,h,Bool.false_eq_true,if_false];exact e,by rw [List.find?_cons,h];exact hf⟩
theorem blk_put3 {w : World} {g : Nat} {t : TypeId} {a0 a1 a2 : Value} (h : w.heap[g]? = some (.cells #[a0,a1,a2] t (0,0))) (v0 v1 v2 : Value) :
 (((w.setCell ⟨g,0,none⟩ v0).setCell ⟨g,1,none⟩ v1).setCell ⟨g,2,none⟩ v2).heap[g]? = some (.cells #[v0,v1,v2] t (0,0)):=by
 refine blk_put (cs:=#[v0,v1,a2]) ?_ 2 _ rfl
 refine blk_put (cs:=#[v0,a1,a2]) ?_ 1 _ rfl
 exact blk_put h 0 _ rfl
theorem below_put3 {B : Nat} {w0 w : World} {g : Nat} (h : Below B w0 w) (hg : B ≤ g) (v0 v1 v2 : Value) : Below B w0 (((w.setCell ⟨g,0,none⟩ v0).setCell ⟨g,1,none⟩ v1).setCell ⟨g,2,none⟩ v2):=by
 refine Below.setCell ?_ hg _
 refine Below.setCell ?_ hg _
 refine Below.setCell ?_ hg _
 exact h
theorem blk_put7 {w : World} {g : Nat} {t : TypeId} {a0 a1 a2 a3 a4 a5 a6 : Value} (h : w.heap[g]? = some (.cells #[a0,a1,a2,a3,a4,a5,a6] t (0,0))) (v0 v1 v2 v3 v4 v5 v6 : Value) :
 (((((((w.setCell ⟨g,0,none⟩ v0).setCell ⟨g,1,none⟩ v1).setCell ⟨g,2,none⟩ v2).setCell ⟨g,3,none⟩ v3).setCell ⟨g,4,none⟩ v4).setCell ⟨g,5,none⟩ v5).setCell ⟨g,6,none⟩ v6).heap[g]? = some (.cells #[v0,v1,v2,v3,v4,v5,v6] t (0,0)):=by
 refine blk_put (cs:=#[v0,v1,v2,v3,v4,v5,a6]) ?_ 6 _ rfl
 refine blk_put (cs:=#[v0,v1,v2,v3,v4,a5,a6]) ?_ 5 _ rfl
 refine blk_put (cs:=#[v0,v1,v2,v3,a4,a5,a6]) ?_ 4 _ rfl
 refine blk_put (cs:=#[v0,v1,v2,a3,a4,a5,a6]) ?_ 3 _ rfl
 refine blk_put (cs:=#[v0,v1,a2,a3,a4,a5,a6]) ?_ 2 _ rfl
 refine blk_put (cs:=#[v0,a1,a2,a3,a4,a5,a6]) ?_ 1 _ rfl
 exact blk_put h 0 _ rfl
theorem below_put7 {B : Nat} {w0 w : World} {g : Nat} (h : Below B w0 w) (hg : B ≤ g) (v0 v1 v2 v3 v4 v5 v6 : Value) : Below B w0 (((((((w.setCell ⟨g,0,none⟩ v0).setCell ⟨g,1,none⟩ v1).setCell ⟨g,2,none⟩ v2).setCell ⟨g,3,none⟩ v3).setCell ⟨g,4,none⟩ v4).setCell ⟨g,5,none⟩ v5).setCell ⟨g,6,none⟩ v6):=by
 refine Below.setCell ?_ hg _
 refine Below.setCell ?_ hg _
 refine Below.setCell ?_ hg _
 refine Below.setCell ?_ hg _
 refine Below.setCell ?_ hg _
 refine Below.setCell ?_ hg _
 refine Below.setCell ?_ hg _
 exact h
/-- Rows as their elements' cells, one behind the other. -/
theorem reps_get {α : Type} {R : α → List Value → Prop} {size : Nat} {ps : List α} {cs : List Value} (h : Reps R size ps cs) (enc : α → List Value) (henc : ∀ p c,R p c → c = enc p) (hs : 0 < size) (z : α) (j : Nat) (hj : j < ps.length * size) :
 cs[j]? = (enc (ps.getD (j / size) z))[j % size]?:=by
 have hd : j / size < ps.length:=by rw [Nat.div_lt_iff_lt_mul hs];exact hj
 have e:=henc _ _ (h.2 (j / size) _ (List.getElem?_eq_getElem hd))
 have hz : ps.getD (j / size) z = ps[j / size]:=by rw [List.getD_eq_getElem?_getD,List.getElem?_eq_getElem hd];rfl
 rw [hz,← e,List.getElem?_take,if_pos (Nat.mod_lt _ hs),List.getElem?_drop,Nat.mul_comm,Nat.div_add_mod]
theorem reps_mk {α : Type} {R : α → List Value → Prop} {size : Nat} {ps : List α} {cs : List Value} (enc : α → List Value) (hl : ∀ p,(enc p).length = size) (hR : ∀ p,R p (enc p)) (hs : 0 < size) (z : α) (hlen : cs.length = ps.length * size)
 (h : ∀ j,j < ps.length * size → cs[j]? = (enc (ps.getD (j / size) z))[j % size]?) : Reps R size ps cs:=by
 refine ⟨hlen,fun j p hp=>?_⟩
 have hjl : j < ps.length:=(List.getElem?_eq_some_iff.1 hp).1
 have hz : ps.getD j z = p:=by rw [List.getD_eq_getElem?_getD,hp];rfl
 have e : (cs.drop (j * size)).take size = enc p:=by
  apply List.ext_getElem?
  intro i
  rw [List.getElem?_take]
  by_cases hi : i < size
  ·rw [if_pos hi,List.getElem?_drop]
   have hb : j * size + i < ps.length * size:=by
    have : (j + 1) * size ≤ ps.length * size:=Nat.mul_le_mul_right _ hjl
    rw [Nat.add_mul,Nat.one_mul] at this
    omega
   have hq : (j * size + i) / size = j:=by rw [Nat.add_comm,Nat.add_mul_div_right _ _ hs,Nat.div_eq_of_lt hi,Nat.zero_add]
   have hm : (j * size + i) % size = i:=by rw [Nat.add_comm,Nat.add_mul_mod_self_right,Nat.mod_eq_of_lt hi]
   rw [h _ hb,hq,hm,hz]
  ·rw [if_neg hi,List.getElem?_eq_none (by rw [hl];omega)]
 rw [e]
 exact hR p
theorem run_copy_rowK {P : Program} (w : World) (dT sT ty elem : TypeId) (g o dLen dCap : Nat) (a : Addr) (sLen sCap : Nat) (cur : Array Value) (t : TypeId) (cs : List Value) (size m : Nat)
 (hu : P.underlying dT = some (.slice elem)) (hs : (P.info? elem).map (·.size) = some size)
 (hg : w.heap[g]? = some (.cells cur t (0,0))) (hm : Nat.min sLen dLen = m) (hn : cs.length = m * size)
 (hsrc : ∀ j v,cs[j]? = some v → w.cell? (a.add j) = some v) (hfit : o + cs.length ≤ cur.size) (h1 : ∀ v ∈ cs,v.oneCell' = true) :
 (Builtin.copy_ #[dT,sT] ty #[.slice (some ⟨g,o,none⟩) dLen dCap,.slice (some a) sLen sCap]).run P w =
  .ok (goInt m) (w.setRow g (cur.toList.take o ++ cs ++ cur.toList.drop (o + cs.length)).toArray):=by
 have hl:=run_loadCells_list (P:=P) w a cs hsrc
 have hst:=run_storeCells_at P g o t cs 0 cur w hg (by simpa using hfit) h1
 rw [hn] at hl
 cases hq : P.info? elem with
 | none=>simp [hq] at hs
 | some i =>
  have hi : i.size = size:=by simpa [hq] using hs
  simp [Builtin.copy_,run_underlying hu,Builtin.lenOf,Builtin.firstCells,sizeOf,typeInfo,hq,hi,hm,hl,hst]
theorem reps_take {α : Type} {R : α → List Value → Prop} {size : Nat} {ps : List α} {cs : List Value} (h : Reps R size ps cs) (i : Nat) : Reps R size (ps.take i) (cs.take (i * size)):=by
 refine ⟨?_,fun j p hj=>?_⟩
 ·rw [List.length_take,List.length_take,h.1]
  rcases Nat.le_total i ps.length with h1 | h1
  ·rw [Nat.min_eq_left h1,Nat.min_eq_left (Nat.mul_le_mul_right _ h1)]
  ·rw [Nat.min_eq_right h1,Nat.min_eq_right (Nat.mul_le_mul_right _ h1)]
 ·rw [List.getElem?_take] at hj
  split at hj
  ·rename_i hji
   have hle : j * size + size ≤ i * size:=by rw [← Nat.succ_mul];exact Nat.mul_le_mul_right _ hji
   rw [List.drop_take,List.take_take,Nat.min_eq_left (by omega)]
   exact h.2 j p hj
  ·cases hj
theorem reps_drop {α : Type} {R : α → List Value → Prop} {size : Nat} {ps : List α} {cs : List Value} (h : Reps R size ps cs) (i : Nat) : Reps R size (ps.drop i) (cs.drop (i * size)):=by
 refine ⟨?_,fun j p hj=>?_⟩
 ·rw [List.length_drop,List.length_drop,h.1,Nat.sub_mul]
 ·rw [List.getElem?_drop] at hj
  rw [List.drop_drop,← Nat.add_mul]
  exact h.2 (i + j) p hj
theorem wpList_copy_eq {P : Program} (w : World) {ops : Array Oper} {rest : List Oper} {o : Oper} {a : Act} {Q : Exit → Act → World → Prop} (hgd : o.guard = none) (d s : Operand) (t t' : TypeId)
 (ho : o.op = .call { callee:=.builtin .copy,args:=#[d,s],argTypes:=#[t,t'] }) (v u : Value) (hd : a.eval d = v) (hs : a.eval s = u) {v' : Value} {w' : World}
 (hr : (Builtin.copy_ #[t,t'] o.type #[v,u]).run P w = .ok v' w') (h : wpList P ops Q rest (a.put o.dst v') w') : wpList P ops Q (o :: rest) a w:=by
 refine wpList_plain hgd fun K hK=>?_
 unfold Oper.wp execOp
 simp only [ho,resolve,invoke,builtin,Sem.run_bind,Sem.run_pure,Result.andThen_ok,List.map_toArray,List.map_cons,List.map_nil,hd,hs,hr]
 exact hK _ _ h
theorem step_copy_eq {P : Program} {ops : Array Oper} {o : Oper} {a : Act} {w : World} {K : Act → World → Prop} {Q : Exit → Act → World → Prop} {E : Prop}
 (hg : o.guard = none) (d x : Operand) (dT sT : TypeId) (hop : o.op = Op.call { callee:=Callee.builtin Builtin.copy,args:=#[d,x],argTypes:=#[dT,sT] })
 (v u : Value) (hd : a.eval d = v) (hx : a.eval x = u) {v' : Value} {w' : World} (hr : (Builtin.copy_ #[dT,sT] o.type #[v,u]).run P w = .ok v' w') (hK : K (a.put o.dst v') w') :
 if Region.wanted o (yielded ops a.tmps) = true then Oper.wp P o a w K Q else E:=by
 have hw : Region.wanted o (yielded ops a.tmps) = true:=by simp [Region.wanted,hg]
 rw [if_pos hw]
 unfold Oper.wp
 simp [execOp,hop,resolve,invoke,builtin,hd,hx,hr,Result.andThen]
 exact hK
theorem reps_app {α : Type} {R : α → List Value → Prop} {size : Nat} {ps qs : List α} {cs ds : List Value} (h : Reps R size ps cs) (k : Reps R size qs ds) : Reps R size (ps ++ qs) (cs ++ ds):=by
 refine ⟨by rw [List.length_append,List.length_append,h.1,k.1,Nat.add_mul],fun j p hj=>?_⟩
 rcases Nat.lt_or_ge j ps.length with hl | hl
 ·rw [List.getElem?_append_left hl] at hj
  have hle : j * size + size ≤ cs.length:=by rw [h.1,← Nat.succ_mul];exact Nat.mul_le_mul_right _ hl
  rw [List.drop_append_of_le_length (by omega),List.take_append_of_le_length (by rw [List.length_drop];omega)]
  exact h.2 j p hj
 ·rw [List.getElem?_append_right hl] at hj
  have e : j * size = cs.length + (j - ps.length) * size:=by rw [h.1,← Nat.add_mul];congr 1;omega
  rw [e,← List.drop_drop,List.drop_left]
  exact k.2 _ p hj
theorem reps_ins {α : Type} {R : α → List Value → Prop} {size : Nat} {ps : List α} {cs c : List Value} {x : α} {i : Nat} (h : Reps R size ps cs) (hx : R x c) (hc : c.length = size) (hi : i ≤ ps.length) :
 Reps R size (ps.take i ++ x :: ps.drop i) (cs.take (i * size) ++ c ++ cs.drop (i * size)):=by
 rw [List.append_assoc]
 exact reps_app (reps_take h i) (Reps.front hx hc (reps_drop h i) rfl)
theorem cells2 {w : World} {g : Nat} {v0 v1 : Value} {t : TypeId} (h : w.heap[g]? = some (.cells #[v0,v1] t (0,0))) : w.cell? ⟨g,0,none⟩ = some v0 ∧ w.cell? ⟨g,1,none⟩ = some v1 :=
 ⟨(blk_cell h 0).trans rfl,(blk_cell h 1).trans rfl⟩
theorem cells3 {w : World} {g : Nat} {v0 v1 v2 : Value} {t : TypeId} (h : w.heap[g]? = some (.cells #[v0,v1,v2] t (0,0))) : w.cell? ⟨g,0,none⟩ = some v0 ∧ w.cell? ⟨g,1,none⟩ = some v1 ∧ w.cell? ⟨g,2,none⟩ = some v2 :=
 ⟨(blk_cell h 0).trans rfl,(blk_cell h 1).trans rfl,(blk_cell h 2).trans rfl⟩
theorem cells7 {w : World} {g : Nat} {v0 v1 v2 v3 v4 v5 v6 : Value} {t : TypeId} (h : w.heap[g]? = some (.cells #[v0,v1,v2,v3,v4,v5,v6] t (0,0))) : w.cell? ⟨g,0,none⟩ = some v0 ∧ w.cell? ⟨g,1,none⟩ = some v1 ∧ w.cell? ⟨g,2,none⟩ = some v2 ∧ w.cell? ⟨g,3,none⟩ = some v3 ∧ w.cell? ⟨g,4,none⟩ = some v4 ∧ w.cell? ⟨g,5,none⟩ = some v5 ∧ w.cell? ⟨g,6,none⟩ = some v6 :=
 ⟨(blk_cell h 0).trans rfl,(blk_cell h 1).trans rfl,(blk_cell h 2).trans rfl,(blk_cell h 3).trans rfl,(blk_cell h 4).trans rfl,(blk_cell h 5).trans rfl,(blk_cell h 6).trans rfl⟩
theorem cells12 {w : World} {g : Nat} {v0 v1 v2 v3 v4 v5 v6 v7 v8 v9 v10 v11 : Value} {t : TypeId} (h : w.heap[g]? = some (.cells #[v0,v1,v2,v3,v4,v5,v6,v7,v8,v9,v10,v11] t (0,0))) : w.cell? ⟨g,0,none⟩ = some v0 ∧ w.cell? ⟨g,1,none⟩ = some v1 ∧ w.cell? ⟨g,2,none⟩ = some v2 ∧ w.cell? ⟨g,3,none⟩ = some v3 ∧ w.cell? ⟨g,4,none⟩ = some v4 ∧ w.cell? ⟨g,5,none⟩ = some v5 ∧ w.cell? ⟨g,6,none⟩ = some v6 ∧ w.cell? ⟨g,7,none⟩ = some v7 ∧ w.cell? ⟨g,8,none⟩ = some v8 ∧ w.cell? ⟨g,9,none⟩ = some v9 ∧ w.cell? ⟨g,10,none⟩ = some v10 ∧ w.cell? ⟨g,11,none⟩ = some v11 :=
 ⟨(blk_cell h 0).trans rfl,(blk_cell h 1).trans rfl,(blk_cell h 2).trans rfl,(blk_cell h 3).trans rfl,(blk_cell h 4).trans rfl,(blk_cell h 5).trans rfl,(blk_cell h 6).trans rfl,(blk_cell h 7).trans rfl,(blk_cell h 8).trans rfl,(blk_cell h 9).trans rfl,(blk_cell h 10).trans rfl,(blk_cell h 11).trans rfl⟩
theorem cells13 {w : World} {g : Nat} {v0 v1 v2 v3 v4 v5 v6 v7 v8 v9 v10 v11 v12 : Value} {t : TypeId} (h : w.heap[g]? = some (.cells #[v0,v1,v2,v3,v4,v5,v6,v7,v8,v9,v10,v11,v12] t (0,0))) : w.cell? ⟨g,0,none⟩ = some v0 ∧ w.cell? ⟨g,1,none⟩ = some v1 ∧ w.cell? ⟨g,2,none⟩ = some v2 ∧ w.cell? ⟨g,3,none⟩ = some v3 ∧ w.cell? ⟨g,4,none⟩ = some v4 ∧ w.cell? ⟨g,5,none⟩ = some v5 ∧ w.cell? ⟨g,6,none⟩ = some v6 ∧ w.cell? ⟨g,7,none⟩ = some v7 ∧ w.cell? ⟨g,8,none⟩ = some v8 ∧ w.cell? ⟨g,9,none⟩ = some v9 ∧ w.cell? ⟨g,10,none⟩ = some v10 ∧ w.cell? ⟨g,11,none⟩ = some v11 ∧ w.cell? ⟨g,12,none⟩ = some v12 :=
 ⟨(blk_cell h 0).trans rfl,(blk_cell h 1).trans rfl,(blk_cell h 2).trans rfl,(blk_cell h 3).trans rfl,(blk_cell h 4).trans rfl,(blk_cell h 5).trans rfl,(blk_cell h 6).trans rfl,(blk_cell h 7).trans rfl,(blk_cell h 8).trans rfl,(blk_cell h 9).trans rfl,(blk_cell h 10).trans rfl,(blk_cell h 11).trans rfl,(blk_cell h 12).trans rfl⟩
end Go.Proofs.YtiminjibcafkaaaGreatDoor.X
end
section
/- The cells of a block are not frozen. -/
namespace Go.Proofs.YtiminjibcafkaaaGreatDoor.X
open Go.RowKit Go.Proofs.YtiminjibcafkaaaGreatDoorW.PrintWords Go.Proofs.YtiminjibcafkaaaGreatDoorW.PrintLast Go.Proofs.YtiminjibcafkaaaGreatDoorW.PrintMore
theorem frz13 {w : World} {g : Nat} {t : TypeId} {cs : Array Value} (h : w.heap[g]? = some (.cells cs t (0,0))) : w.frozen? ⟨g,0,none⟩ = false ∧ w.frozen? ⟨g,1,none⟩ = false ∧ w.frozen? ⟨g,2,none⟩ = false ∧ w.frozen? ⟨g,3,none⟩ = false ∧ w.frozen? ⟨g,4,none⟩ = false ∧ w.frozen? ⟨g,5,none⟩ = false ∧ w.frozen? ⟨g,6,none⟩ = false ∧ w.frozen? ⟨g,7,none⟩ = false ∧ w.frozen? ⟨g,8,none⟩ = false ∧ w.frozen? ⟨g,9,none⟩ = false ∧ w.frozen? ⟨g,10,none⟩ = false ∧ w.frozen? ⟨g,11,none⟩ = false ∧ w.frozen? ⟨g,12,none⟩ = false:=⟨blk_frozen h 0,blk_frozen h 1,blk_frozen h 2,blk_frozen h 3,blk_frozen h 4,blk_frozen h 5,blk_frozen h 6,blk_frozen h 7,blk_frozen h 8,blk_frozen h 9,blk_frozen h 10,blk_frozen h 11,blk_frozen h 12⟩
end Go.Proofs.YtiminjibcafkaaaGreatDoor.X
end
section
/- Steps of a region that draws its order, with what they ask found out. -/
namespace Go.Proofs.YtiminjibcafkaaaGreatDoor.X
open Go.RowKit Go.Proofs.YtiminjibcafkaaaGreatDoorW.PrintWords Go.Proofs.YtiminjibcafkaaaGreatDoorW.PrintLast Go.Proofs.YtiminjibcafkaaaGreatDoorW.PrintMore
section
variable {P : Program} {ops : Array Oper} {Q : Exit → Act → World → Prop} {md : Region.Mode} {S : World → Prop} {ds : List Nat} {T : Bool × List (List Nat × List Nat)} {B : List Nat} {oi : Oper} {v : Value} {fuel : Nat} {l l' : Array Bool} {a a' : Act} {w : World}
/-- pure_ and take_, norm_ of the print's words, with what they ask found out. -/
theorem pu (i : Nat) (N : Option Tmp) (HT : Aside0 (rtab md ops = T)) (hi : ops[i]? = some oi) (hN : oi.dst = N) (h : wpAnyLast P md ops Q S ds fuel l' a' w)
 (hw : Region.wanted oi (yielded ops a.tmps) = true:=by rfl) (_hl : l.setIfInBounds i true = l':=by simp only [List.setIfInBounds_toArray,List.set_cons_zero,List.set_cons_succ];rfl)
 (hc : anyT T l.toList l'.toList i = true:=by kernel_rfl) (hQ : ∀ c a w,Q (.panic c) (a.put oi.dst v) w → Q (.panic c) a w:=by exact fun _ _ _ h=>h)
 (hv : ∀ w',(execOp a.eval oi).run P w' = .ok (.value v) w':=by intro w';go_simp;with_reducible rfl)
 (ha : a.put N v = a':=by simp only [Act.put,List.setIfInBounds_toArray,List.set_cons_zero,List.set_cons_succ,i64_w,i32_w];rfl) : wpAnyLast P md ops Q S ds (fuel + 1) l a w :=
 pure_ l' hi hN (any_of HT.out hc) hQ (.inl ⟨hw,hv⟩) ha h
theorem sk (i : Nat) (N : Option Tmp) (HT : Aside0 (rtab md ops = T)) (hi : ops[i]? = some oi) (hN : oi.dst = N) (h : wpAnyLast P md ops Q S ds fuel l' a' w)
 (hw : Region.wanted oi (yielded ops a.tmps) = false:=by rfl) (_hl : l.setIfInBounds i true = l':=by simp only [List.setIfInBounds_toArray,List.set_cons_zero,List.set_cons_succ];rfl)
 (hc : anyT T l.toList l'.toList i = true:=by kernel_rfl) (hQ : ∀ c a w,Q (.panic c) (a.put oi.dst undef) w → Q (.panic c) a w:=by exact fun _ _ _ h=>h)
 (ha : a.put N undef = a':=by simp only [Act.put,List.setIfInBounds_toArray,List.set_cons_zero,List.set_cons_succ,i64_w,i32_w];rfl) : wpAnyLast P md ops Q S ds (fuel + 1) l a w :=
 pure_ l' hi hN (any_of HT.out hc) hQ (.inr ⟨hw,rfl⟩) ha h
theorem ta (i : Nat) (N : Option Tmp) (HT : Aside0 (rtab md ops = T)) (HW : Aside0 (waitsOk T.2 B = true)) (hS : S w) (hi : ops[i]? = some oi) (hN : oi.dst = N) (hv : ∀ w',S w' → (execOp a.eval oi).run P w' = .ok (.value v) w') (h : wpAnyLast P md ops Q S ds fuel l' a' w)
 (hw : Region.wanted oi (yielded ops a.tmps) = true:=by rfl) (_hl : l.setIfInBounds i true = l':=by simp only [List.setIfInBounds_toArray,List.set_cons_zero,List.set_cons_succ];rfl)
 (hc : takeW T B ds l.toList l'.toList i = true:=by kernel_rfl) (hQ : ∀ c a w,Q (.panic c) (a.put oi.dst v) w → Q (.panic c) a w:=by exact fun _ _ _ h=>h)
 (ha : a.put N v = a':=by simp only [Act.put,List.setIfInBounds_toArray,List.set_cons_zero,List.set_cons_succ,i64_w,i32_w];rfl) : wpAnyLast P md ops Q S ds (fuel + 1) l a w :=
 take_ l' hi hN (take_ofW HT.out HW.out hc) hQ (.inl ⟨hw,hv⟩) hS ha h
theorem no_ {a0 : Act} (N : Option Tmp) (h : wpAnyLast P md ops Q S ds fuel l a' w) (ha : a0.put N v = a':=by simp only [Act.put,List.setIfInBounds_toArray,List.set_cons_zero,List.set_cons_succ,i64_w,i32_w];rfl) : wpAnyLast P md ops Q S ds fuel l (a0.put N v) w:=norm_ ha h
end
theorem putg3 {w w1 : World} {g : Nat} {t : TypeId} {a0 a1 a2 v0 v1 v2 : Value} (hW : ((w.setCell ⟨g,0,none⟩ v0).setCell ⟨g,1,none⟩ v1).setCell ⟨g,2,none⟩ v2 = w1) (h : w.heap[g]? = some (.cells #[a0,a1,a2] t (0,0))) : w1.heap[g]? = some (.cells #[v0,v1,v2] t (0,0)):=hW ▸ blk_put3 h v0 v1 v2
theorem belg3 {w w1 w0 : World} {B g : Nat} {v0 v1 v2 : Value} (hW : ((w.setCell ⟨g,0,none⟩ v0).setCell ⟨g,1,none⟩ v1).setCell ⟨g,2,none⟩ v2 = w1) (h : Below B w0 w) (hg : B ≤ g) : Below B w0 w1:=hW ▸ below_put3 h hg v0 v1 v2
theorem putg7 {w w1 : World} {g : Nat} {t : TypeId} {a0 a1 a2 a3 a4 a5 a6 v0 v1 v2 v3 v4 v5 v6 : Value} (hW : ((((((w.setCell ⟨g,0,none⟩ v0).setCell ⟨g,1,none⟩ v1).setCell ⟨g,2,none⟩ v2).setCell ⟨g,3,none⟩ v3).setCell ⟨g,4,none⟩ v4).setCell ⟨g,5,none⟩ v5).setCell ⟨g,6,none⟩ v6 = w1) (h : w.heap[g]? = some (.cells #[a0,a1,a2,a3,a4,a5,a6] t (0,0))) : w1.heap[g]? = some (.cells #[v0,v1,v2,v3,v4,v5,v6] t (0,0)):=hW ▸ blk_put7 h v0 v1 v2 v3 v4 v5 v6
theorem belg7 {w w1 w0 : World} {B g : Nat} {v0 v1 v2 v3 v4 v5 v6 : Value} (hW : ((((((w.setCell ⟨g,0,none⟩ v0).setCell ⟨g,1,none⟩ v1).setCell ⟨g,2,none⟩ v2).setCell ⟨g,3,none⟩ v3).setCell ⟨g,4,none⟩ v4).setCell ⟨g,5,none⟩ v5).setCell ⟨g,6,none⟩ v6 = w1) (h : Below B w0 w) (hg : B ≤ g) : Below B w0 w1:=hW ▸ below_put7 h hg v0 v1 v2 v3 v4 v5 v6
end Go.Proofs.YtiminjibcafkaaaGreatDoor.X
end
section
/- Regions that draw their order, walked once in the text's order, in the class of worlds that leave what was: words for such walks. -/
namespace Go.Proofs.YtiminjibcafkaaaGreatDoor.X
open Go.RowKit Go.Proofs.YtiminjibcafkaaaGreatDoorW.PrintWords Go.Proofs.YtiminjibcafkaaaGreatDoorW.PrintLast Go.Proofs.YtiminjibcafkaaaGreatDoorW.PrintMore
set_option linter.unusedVariables false
/-- The worlds that leave what was below block B. -/
def Qc (B : Nat) (w0 : World) (w : World) : Prop:=Below B w0 w
theorem region_qc {P : Program} {id : Nat} {Q : Exit → Act → World → Prop} {a : Act} {w : World} {l : List Oper} (hm : P.follows .mixedOrders = true) (hB : Region.lexB .any l.toArray = true)
 (h : wpQuiet P l.toArray (Qc w.heap.size w) (fun a'=>∀ w',Below w.heap.size w w' → Q .normal a' w') l a) : (Code.region id l.toArray true).wp P Q a w :=
 wp_region_quiet (C:=Qc w.heap.size w) hm hB (by
  have h1 : ({ w with drawn:=w.drawn + 1 } : World) = w.drewN 1:=rfl
  show Below w.heap.size w _
  rw [h1]
  exact pw_below_drewN (Below.refl _ _) 1) (by simpa [Qc] using h)
theorem Qc.out {B : Nat} {w0 w : World} (h : Qc B w0 w) : Below B w0 w:=h
theorem Qc.cell {B : Nat} {w0 w : World} (h : Qc B w0 w) {b o : Nat} (hb : b < B) {v : Value} (hv : w0.cell? ⟨b,o,none⟩ = some v) : w.cell? ⟨b,o,none⟩ = some v:=(Below.cell (p:=⟨b,o,none⟩) h hb).trans hv
end Go.Proofs.YtiminjibcafkaaaGreatDoor.X
end
section
-- MADE BY wip/prx.py (the kit's printer, with contracts proved by hand). Not trusted: Lean checks it.
namespace Go.Proofs.YtiminjibcafkaaaGreatDoor.X
open Go.RowKit Go.Proofs.YtiminjibcafkaaaGreatDoorW.PrintWords Go.Proofs.YtiminjibcafkaaaGreatDoorW.PrintLast Go.Proofs.YtiminjibcafkaaaGreatDoorW.PrintMore
attribute [local go_sem] max2_int min2_int max_two min_two max_three min_three max_four min_four   -- for this text's walks alone
set_option linter.unusedVariables false
set_option linter.unusedSimpArgs false
/-! ### cmp_Or_int: function 106 -/
def cmp_Or_int.l0 : Nat → Int → List Int → Int → Int → Option (Int)
 | 0,_,_,_,_=>none
 | k + 1,x3,x6,x7,x8=>if x8 < x7 then (if 0 ≤ x8 then (if x8 < (x6.length : Int) then (if (rd x6 x8) = x3 then (cmp_Or_int.l0 k x3 x6 x7 (wrap64 (x8 + 1))) else (some (rd x6 x8))) else (none)) else (none)) else (some x3)
def cmp_Or_int.f (k : Nat) (l0 : List Int) : Option (Int):=cmp_Or_int.l0 k 0 l0 (l0.length : Int) 0
set_option maxHeartbeats 8000000 in
set_option maxRecDepth 100000 in
theorem cmp_Or_int.calls (k : Nat) (A0 : Option Addr) (c0 : Nat) (l0 : List Int) (r : Int) (w : World) (hr0 : Kd.C (Kd.int .i64) w A0 l0.length l0) (hc0 : l0.length ≤ c0) (h : cmp_Or_int.f k l0 = some r) :
 Calls Tryz.prog 106 #[.slice A0 l0.length c0] w fun e w'=>e = .returned (.int .i64 r) ∧ Drawn0 w w':=by
 have HR0:=Aside0.mk hr0
 have HC0:=Aside0.mk hc0
 clear hr0 hc0
 have H : (cmp_Or_int.l0 k 0 l0 (l0.length : Int) 0) = some r:=h
 clear h
 have H':=Aside0.mk H
 clear H
 go_enter Tryz.func106,Tryz.ntmps106
 go_wp2
 go_loopg [8] k (fun kq v8 w'=>∃ (x8_1 : Int),v8 = .int .i64 x8_1 ∧ Aside0 (cmp_Or_int.l0 kq 0 l0 (l0.length : Int) x8_1 = some r) ∧ Aside0 (kq ≤ k) ∧ Drawn0 w w')
 case atStart=>exact ⟨(0),(by first | rfl),H',⟨Nat.le_refl _⟩,by repeat (first | exact Drawn0.refl _)⟩
 case round =>
  clear H'
  obtain ⟨x8_1,rfl,HA,HK1,⟨m1,rfl⟩⟩:=hrel
  cases gk with
  | zero=>exact absurd HA.out (by simp [cmp_Or_int.l0])
  | succ k1 =>
   have H:=HA.out
   clear HA
   simp only [cmp_Or_int.l0] at H
   by_cases c2 : x8_1 < (l0.length : Int)
   ·rw [if_pos c2] at H
    have c2b0 : decide (x8_1 < (l0.length : Int)) = true:=decide_eq_true c2
    clear c2
    by_cases c3 : 0 ≤ x8_1
    ·rw [if_pos c3] at H
     have c3b0 : decide (0 ≤ x8_1) = true:=decide_eq_true c3
     clear c3
     by_cases c4 : x8_1 < (l0.length : Int)
     ·rw [if_pos c4] at H
      have c4b0 : decide (x8_1 < (l0.length : Int)) = true:=decide_eq_true c4
      clear c4
      by_cases c5 : (rd l0 x8_1) = 0
      ·rw [if_pos c5] at H
       have c5b0 : ((rd l0 x8_1) == 0) = true:=beq_iff_eq.mpr c5
       have c5b1 : ((rd l0 x8_1) != 0) = false:=bne_eq_false_iff_eq.mpr c5
       clear c5
       have H':=Aside0.mk H
       clear H
       have p176 : 0 ≤ (x8_1 : Int):=of_decide_eq_true (by (with_reducible assumption))
       have q176 : x8_1 < (l0.length : Int):=of_decide_eq_true (by (with_reducible assumption))
       obtain ⟨ad176,e176,hx176_0⟩:=Kd.at_int HR0.out x8_1 p176 q176
       cases e176
       replace p176:=eq_true p176
       replace q176:=eq_true q176
       go_wp2
       go_roundg k1
       case measure=>have:=HK1.out;omega
       case rel=>exact ⟨(wrap64 (x8_1 + 1)),(by first | rfl),H',⟨by have:=HK1.out;omega⟩,by repeat (first | exact Drawn0.refl _ | apply Drawn0.step)⟩
      ·rw [if_neg c5] at H
       have c5b0 : ((rd l0 x8_1) == 0) = false:=beq_eq_false_iff_ne.mpr c5
       have c5b1 : ((rd l0 x8_1) != 0) = true:=bne_iff_ne.mpr c5
       obtain rfl:=Option.some.inj H
       have p176 : 0 ≤ (x8_1 : Int):=of_decide_eq_true (by (with_reducible assumption))
       have q176 : x8_1 < (l0.length : Int):=of_decide_eq_true (by (with_reducible assumption))
       obtain ⟨ad176,e176,hx176_0⟩:=Kd.at_int HR0.out x8_1 p176 q176
       cases e176
       replace p176:=eq_true p176
       replace q176:=eq_true q176
       go_wp2
       go_ret
       exact ⟨by first | rfl,by repeat (first | exact Drawn0.refl _ | apply Drawn0.step)⟩
     ·rw [if_neg c4] at H
      exact absurd H (by simp)
    ·rw [if_neg c3] at H
     exact absurd H (by simp)
   ·rw [if_neg c2] at H
    have c2b0 : decide (x8_1 < (l0.length : Int)) = false:=decide_eq_false c2
    clear c2
    obtain rfl:=Option.some.inj H
    go_wp2
    go_ret
    exact ⟨by first | rfl,by repeat (first | exact Drawn0.refl _ | apply Drawn0.step)⟩
/-! ### cmp_isNaN_uint8: function 115 -/
def cmp_isNaN_uint8.f (a0 : Int) : Option (Bool):=some (a0 != a0)
set_option maxHeartbeats 8000000 in
set_option maxRecDepth 100000 in
theorem cmp_isNaN_uint8.calls (a0 : Int) (r : Bool) (w : World) (h : cmp_isNaN_uint8.f a0 = some r) :
 Calls Tryz.prog 115 #[.int .u8 a0] w fun e w'=>e = .returned (.bool r) ∧ Drawn0 w w':=by
 have H : (some (a0 != a0)) = some r:=h
 clear h
 obtain rfl:=Option.some.inj H
 go_enter Tryz.func115,Tryz.ntmps115
 go_wp2
 go_ret
 exact ⟨by first | rfl,by repeat (first | exact Drawn0.refl _)⟩
/-! ### cmp_Compare_uint8: function 100 -/
def cmp_Compare_uint8.f (a0 : Int) (a1 : Int) : Option (Int):=(cmp_isNaN_uint8.f a0).bind fun t177=>((cmp_isNaN_uint8.f a1).bind fun t178=>(if t177 = true then (if t178 = true then (some 0) else (some (-1))) else (if t178 = true then (some 1) else (if a0 < a1 then (some (-1)) else (if a0 > a1 then (some 1) else (some 0))))))
set_option maxHeartbeats 8000000 in
set_option maxRecDepth 100000 in
theorem cmp_Compare_uint8.calls (a0 : Int) (a1 : Int) (r : Int) (w : World) (h : cmp_Compare_uint8.f a0 a1 = some r) :
 Calls Tryz.prog 100 #[.int .u8 a0,.int .u8 a1] w fun e w'=>e = .returned (.int .i64 r) ∧ Drawn0 w w':=by
 have H : ((cmp_isNaN_uint8.f a0).bind fun t177=>((cmp_isNaN_uint8.f a1).bind fun t178=>(if t177 = true then (if t178 = true then (some 0) else (some (-1))) else (if t178 = true then (some 1) else (if a0 < a1 then (some (-1)) else (if a0 > a1 then (some 1) else (some 0))))))) = some r:=h
 clear h
 replace H:=Option.bind_eq_some_iff.mp H
 obtain ⟨t177,A30,H⟩:=H
 have A3:=Aside0.mk A30
 clear A30
 replace H:=Option.bind_eq_some_iff.mp H
 obtain ⟨t178,A40,H⟩:=H
 have A4:=Aside0.mk A40
 clear A40
 by_cases c5 : t177 = true
 ·subst c5
  rw [if_pos rfl] at H
  by_cases c6 : t178 = true
  ·subst c6
   rw [if_pos rfl] at H
   obtain rfl:=Option.some.inj H
   go_enter Tryz.func100,Tryz.ntmps100
   go_wp2_with (first | ((with_reducible refine gate_callee (f:=115) rfl ?_);refine goesL_ (some 8) rfl rfl Tryz.func115 (by kernel_rfl) rfl #[.int .u8 a0] rfl (by (try simp only [List.map_toArray,List.map_cons,List.map_nil]);first | rfl) ?_;(with_reducible refine (cmp_isNaN_uint8.calls a0 true _ A3.out).mono ?_);rintro e w' ⟨rfl,⟨nd,rfl⟩⟩;refine ⟨_,rfl,?_⟩) | ((with_reducible refine gate_callee (f:=115) rfl ?_);refine goesL_ (some 10) rfl rfl Tryz.func115 (by kernel_rfl) rfl #[.int .u8 a1] rfl (by (try simp only [List.map_toArray,List.map_cons,List.map_nil]);first | rfl) ?_;(with_reducible refine (cmp_isNaN_uint8.calls a1 true _ A4.out).mono ?_);rintro e w' ⟨rfl,⟨nd,rfl⟩⟩;refine ⟨_,rfl,?_⟩))
   go_ret
   exact ⟨by first | rfl,by repeat (first | exact Drawn0.refl _ | apply Drawn0.step)⟩
  ·replace c6:=Bool.eq_false_iff.mpr c6
   subst c6
   rw [if_neg (show ¬ (false = true) by decide)] at H
   obtain rfl:=Option.some.inj H
   go_enter Tryz.func100,Tryz.ntmps100
   go_wp2_with (first | ((with_reducible refine gate_callee (f:=115) rfl ?_);refine goesL_ (some 8) rfl rfl Tryz.func115 (by kernel_rfl) rfl #[.int .u8 a0] rfl (by (try simp only [List.map_toArray,List.map_cons,List.map_nil]);first | rfl) ?_;(with_reducible refine (cmp_isNaN_uint8.calls a0 true _ A3.out).mono ?_);rintro e w' ⟨rfl,⟨nd,rfl⟩⟩;refine ⟨_,rfl,?_⟩) | ((with_reducible refine gate_callee (f:=115) rfl ?_);refine goesL_ (some 10) rfl rfl Tryz.func115 (by kernel_rfl) rfl #[.int .u8 a1] rfl (by (try simp only [List.map_toArray,List.map_cons,List.map_nil]);first | rfl) ?_;(with_reducible refine (cmp_isNaN_uint8.calls a1 false _ A4.out).mono ?_);rintro e w' ⟨rfl,⟨nd,rfl⟩⟩;refine ⟨_,rfl,?_⟩))
   go_ret
   exact ⟨by first | rfl,by repeat (first | exact Drawn0.refl _ | apply Drawn0.step)⟩
 ·replace c5:=Bool.eq_false_iff.mpr c5
  subst c5
  rw [if_neg (show ¬ (false = true) by decide)] at H
  by_cases c7 : t178 = true
  ·subst c7
   rw [if_pos rfl] at H
   obtain rfl:=Option.some.inj H
   go_enter Tryz.func100,Tryz.ntmps100
   go_wp2_with (first | ((with_reducible refine gate_callee (f:=115) rfl ?_);refine goesL_ (some 8) rfl rfl Tryz.func115 (by kernel_rfl) rfl #[.int .u8 a0] rfl (by (try simp only [List.map_toArray,List.map_cons,List.map_nil]);first | rfl) ?_;(with_reducible refine (cmp_isNaN_uint8.calls a0 false _ A3.out).mono ?_);rintro e w' ⟨rfl,⟨nd,rfl⟩⟩;refine ⟨_,rfl,?_⟩) | ((with_reducible refine gate_callee (f:=115) rfl ?_);refine goesL_ (some 10) rfl rfl Tryz.func115 (by kernel_rfl) rfl #[.int .u8 a1] rfl (by (try simp only [List.map_toArray,List.map_cons,List.map_nil]);first | rfl) ?_;(with_reducible refine (cmp_isNaN_uint8.calls a1 true _ A4.out).mono ?_);rintro e w' ⟨rfl,⟨nd,rfl⟩⟩;refine ⟨_,rfl,?_⟩))
   go_ret
   exact ⟨by first | rfl,by repeat (first | exact Drawn0.refl _ | apply Drawn0.step)⟩
  ·replace c7:=Bool.eq_false_iff.mpr c7
   subst c7
   rw [if_neg (show ¬ (false = true) by decide)] at H
   by_cases c8 : a0 < a1
   ·rw [if_pos c8] at H
    have c8b0 : decide (a0 < a1) = true:=decide_eq_true c8
    clear c8
    obtain rfl:=Option.some.inj H
    go_enter Tryz.func100,Tryz.ntmps100
    go_wp2_with (first | ((with_reducible refine gate_callee (f:=115) rfl ?_);refine goesL_ (some 8) rfl rfl Tryz.func115 (by kernel_rfl) rfl #[.int .u8 a0] rfl (by (try simp only [List.map_toArray,List.map_cons,List.map_nil]);first | rfl) ?_;(with_reducible refine (cmp_isNaN_uint8.calls a0 false _ A3.out).mono ?_);rintro e w' ⟨rfl,⟨nd,rfl⟩⟩;refine ⟨_,rfl,?_⟩) | ((with_reducible refine gate_callee (f:=115) rfl ?_);refine goesL_ (some 10) rfl rfl Tryz.func115 (by kernel_rfl) rfl #[.int .u8 a1] rfl (by (try simp only [List.map_toArray,List.map_cons,List.map_nil]);first | rfl) ?_;(with_reducible refine (cmp_isNaN_uint8.calls a1 false _ A4.out).mono ?_);rintro e w' ⟨rfl,⟨nd,rfl⟩⟩;refine ⟨_,rfl,?_⟩))
    go_ret
    exact ⟨by first | rfl,by repeat (first | exact Drawn0.refl _ | apply Drawn0.step)⟩
   ·rw [if_neg c8] at H
    have c8b0 : decide (a0 < a1) = false:=decide_eq_false c8
    clear c8
    by_cases c9 : a0 > a1
    ·rw [if_pos c9] at H
     have c9b0 : decide (a1 < a0) = true:=decide_eq_true c9
     clear c9
     obtain rfl:=Option.some.inj H
     go_enter Tryz.func100,Tryz.ntmps100
     go_wp2_with (first | ((with_reducible refine gate_callee (f:=115) rfl ?_);refine goesL_ (some 8) rfl rfl Tryz.func115 (by kernel_rfl) rfl #[.int .u8 a0] rfl (by (try simp only [List.map_toArray,List.map_cons,List.map_nil]);first | rfl) ?_;(with_reducible refine (cmp_isNaN_uint8.calls a0 false _ A3.out).mono ?_);rintro e w' ⟨rfl,⟨nd,rfl⟩⟩;refine ⟨_,rfl,?_⟩) | ((with_reducible refine gate_callee (f:=115) rfl ?_);refine goesL_ (some 10) rfl rfl Tryz.func115 (by kernel_rfl) rfl #[.int .u8 a1] rfl (by (try simp only [List.map_toArray,List.map_cons,List.map_nil]);first | rfl) ?_;(with_reducible refine (cmp_isNaN_uint8.calls a1 false _ A4.out).mono ?_);rintro e w' ⟨rfl,⟨nd,rfl⟩⟩;refine ⟨_,rfl,?_⟩))
     go_ret
     exact ⟨by first | rfl,by repeat (first | exact Drawn0.refl _ | apply Drawn0.step)⟩
    ·rw [if_neg c9] at H
     have c9b0 : decide (a1 < a0) = false:=decide_eq_false c9
     clear c9
     obtain rfl:=Option.some.inj H
     go_enter Tryz.func100,Tryz.ntmps100
     go_wp2_with (first | ((with_reducible refine gate_callee (f:=115) rfl ?_);refine goesL_ (some 8) rfl rfl Tryz.func115 (by kernel_rfl) rfl #[.int .u8 a0] rfl (by (try simp only [List.map_toArray,List.map_cons,List.map_nil]);first | rfl) ?_;(with_reducible refine (cmp_isNaN_uint8.calls a0 false _ A3.out).mono ?_);rintro e w' ⟨rfl,⟨nd,rfl⟩⟩;refine ⟨_,rfl,?_⟩) | ((with_reducible refine gate_callee (f:=115) rfl ?_);refine goesL_ (some 10) rfl rfl Tryz.func115 (by kernel_rfl) rfl #[.int .u8 a1] rfl (by (try simp only [List.map_toArray,List.map_cons,List.map_nil]);first | rfl) ?_;(with_reducible refine (cmp_isNaN_uint8.calls a1 false _ A4.out).mono ?_);rintro e w' ⟨rfl,⟨nd,rfl⟩⟩;refine ⟨_,rfl,?_⟩))
     go_ret
     exact ⟨by first | rfl,by repeat (first | exact Drawn0.refl _ | apply Drawn0.step)⟩
/-! ### cmp_isNaN_uint32: function 120 -/
def cmp_isNaN_uint32.f (a0 : Int) : Option (Bool):=some (a0 != a0)
set_option maxHeartbeats 8000000 in
set_option maxRecDepth 100000 in
theorem cmp_isNaN_uint32.calls (a0 : Int) (r : Bool) (w : World) (h : cmp_isNaN_uint32.f a0 = some r) :
 Calls Tryz.prog 120 #[.int .u32 a0] w fun e w'=>e = .returned (.bool r) ∧ Drawn0 w w':=by
 have H : (some (a0 != a0)) = some r:=h
 clear h
 obtain rfl:=Option.some.inj H
 go_enter Tryz.func120,Tryz.ntmps120
 go_wp2
 go_ret
 exact ⟨by first | rfl,by repeat (first | exact Drawn0.refl _)⟩
/-! ### cmp_Compare_uint32: function 107 -/
def cmp_Compare_uint32.f (a0 : Int) (a1 : Int) : Option (Int):=(cmp_isNaN_uint32.f a0).bind fun t179=>((cmp_isNaN_uint32.f a1).bind fun t180=>(if t179 = true then (if t180 = true then (some 0) else (some (-1))) else (if t180 = true then (some 1) else (if a0 < a1 then (some (-1)) else (if a0 > a1 then (some 1) else (some 0))))))
set_option maxHeartbeats 8000000 in
set_option maxRecDepth 100000 in
theorem cmp_Compare_uint32.calls (a0 : Int) (a1 : Int) (r : Int) (w : World) (h : cmp_Compare_uint32.f a0 a1 = some r) :
 Calls Tryz.prog 107 #[.int .u32 a0,.int .u32 a1] w fun e w'=>e = .returned (.int .i64 r) ∧ Drawn0 w w':=by
 have H : ((cmp_isNaN_uint32.f a0).bind fun t179=>((cmp_isNaN_uint32.f a1).bind fun t180=>(if t179 = true then (if t180 = true then (some 0) else (some (-1))) else (if t180 = true then (some 1) else (if a0 < a1 then (some (-1)) else (if a0 > a1 then (some 1) else (some 0))))))) = some r:=h
 clear h
 replace H:=Option.bind_eq_some_iff.mp H
 obtain ⟨t179,A30,H⟩:=H
 have A3:=Aside0.mk A30
 clear A30
 replace H:=Option.bind_eq_some_iff.mp H
 obtain ⟨t180,A40,H⟩:=H
 have A4:=Aside0.mk A40
 clear A40
 by_cases c5 : t179 = true
 ·subst c5
  rw [if_pos rfl] at H
  by_cases c6 : t180 = true
  ·subst c6
   rw [if_pos rfl] at H
   obtain rfl:=Option.some.inj H
   go_enter Tryz.func107,Tryz.ntmps107
   go_wp2_with (first | ((with_reducible refine gate_callee (f:=120) rfl ?_);refine goesL_ (some 8) rfl rfl Tryz.func120 (by kernel_rfl) rfl #[.int .u32 a0] rfl (by (try simp only [List.map_toArray,List.map_cons,List.map_nil]);first | rfl) ?_;(with_reducible refine (cmp_isNaN_uint32.calls a0 true _ A3.out).mono ?_);rintro e w' ⟨rfl,⟨nd,rfl⟩⟩;refine ⟨_,rfl,?_⟩) | ((with_reducible refine gate_callee (f:=120) rfl ?_);refine goesL_ (some 10) rfl rfl Tryz.func120 (by kernel_rfl) rfl #[.int .u32 a1] rfl (by (try simp only [List.map_toArray,List.map_cons,List.map_nil]);first | rfl) ?_;(with_reducible refine (cmp_isNaN_uint32.calls a1 true _ A4.out).mono ?_);rintro e w' ⟨rfl,⟨nd,rfl⟩⟩;refine ⟨_,rfl,?_⟩))
   go_ret
   exact ⟨by first | rfl,by repeat (first | exact Drawn0.refl _ | apply Drawn0.step)⟩
  ·replace c6:=Bool.eq_false_iff.mpr c6
   subst c6
   rw [if_neg (show ¬ (false = true) by decide)] at H
   obtain rfl:=Option.some.inj H
   go_enter Tryz.func107,Tryz.ntmps107
   go_wp2_with (first | ((with_reducible refine gate_callee (f:=120) rfl ?_);refine goesL_ (some 8) rfl rfl Tryz.func120 (by kernel_rfl) rfl #[.int .u32 a0] rfl (by (try simp only [List.map_toArray,List.map_cons,List.map_nil]);first | rfl) ?_;(with_reducible refine (cmp_isNaN_uint32.calls a0 true _ A3.out).mono ?_);rintro e w' ⟨rfl,⟨nd,rfl⟩⟩;refine ⟨_,rfl,?_⟩) | ((with_reducible refine gate_callee (f:=120) rfl ?_);refine goesL_ (some 10) rfl rfl Tryz.func120 (by kernel_rfl) rfl #[.int .u32 a1] rfl (by (try simp only [List.map_toArray,List.map_cons,List.map_nil]);first | rfl) ?_;(with_reducible refine (cmp_isNaN_uint32.calls a1 false _ A4.out).mono ?_);rintro e w' ⟨rfl,⟨nd,rfl⟩⟩;refine ⟨_,rfl,?_⟩))
   go_ret
   exact ⟨by first | rfl,by repeat (first | exact Drawn0.refl _ | apply Drawn0.step)⟩
 ·replace c5:=Bool.eq_false_iff.mpr c5
  subst c5
  rw [if_neg (show ¬ (false = true) by decide)] at H
  by_cases c7 : t180 = true
  ·subst c7
   rw [if_pos rfl] at H
   obtain rfl:=Option.some.inj H
   go_enter Tryz.func107,Tryz.ntmps107
   go_wp2_with (first | ((with_reducible refine gate_callee (f:=120) rfl ?_);refine goesL_ (some 8) rfl rfl Tryz.func120 (by kernel_rfl) rfl #[.int .u32 a0] rfl (by (try simp only [List.map_toArray,List.map_cons,List.map_nil]);first | rfl) ?_;(with_reducible refine (cmp_isNaN_uint32.calls a0 false _ A3.out).mono ?_);rintro e w' ⟨rfl,⟨nd,rfl⟩⟩;refine ⟨_,rfl,?_⟩) | ((with_reducible refine gate_callee (f:=120) rfl ?_);refine goesL_ (some 10) rfl rfl Tryz.func120 (by kernel_rfl) rfl #[.int .u32 a1] rfl (by (try simp only [List.map_toArray,List.map_cons,List.map_nil]);first | rfl) ?_;(with_reducible refine (cmp_isNaN_uint32.calls a1 true _ A4.out).mono ?_);rintro e w' ⟨rfl,⟨nd,rfl⟩⟩;refine ⟨_,rfl,?_⟩))
   go_ret
   exact ⟨by first | rfl,by repeat (first | exact Drawn0.refl _ | apply Drawn0.step)⟩
  ·replace c7:=Bool.eq_false_iff.mpr c7
   subst c7
   rw [if_neg (show ¬ (false = true) by decide)] at H
   by_cases c8 : a0 < a1
   ·rw [if_pos c8] at H
    have c8b0 : decide (a0 < a1) = true:=decide_eq_true c8
    clear c8
    obtain rfl:=Option.some.inj H
    go_enter Tryz.func107,Tryz.ntmps107
    go_wp2_with (first | ((with_reducible refine gate_callee (f:=120) rfl ?_);refine goesL_ (some 8) rfl rfl Tryz.func120 (by kernel_rfl) rfl #[.int .u32 a0] rfl (by (try simp only [List.map_toArray,List.map_cons,List.map_nil]);first | rfl) ?_;(with_reducible refine (cmp_isNaN_uint32.calls a0 false _ A3.out).mono ?_);rintro e w' ⟨rfl,⟨nd,rfl⟩⟩;refine ⟨_,rfl,?_⟩) | ((with_reducible refine gate_callee (f:=120) rfl ?_);refine goesL_ (some 10) rfl rfl Tryz.func120 (by kernel_rfl) rfl #[.int .u32 a1] rfl (by (try simp only [List.map_toArray,List.map_cons,List.map_nil]);first | rfl) ?_;(with_reducible refine (cmp_isNaN_uint32.calls a1 false _ A4.out).mono ?_);rintro e w' ⟨rfl,⟨nd,rfl⟩⟩;refine ⟨_,rfl,?_⟩))
    go_ret
    exact ⟨by first | rfl,by repeat (first | exact Drawn0.refl _ | apply Drawn0.step)⟩
   ·rw [if_neg c8] at H
    have c8b0 : decide (a0 < a1) = false:=decide_eq_false c8
    clear c8
    by_cases c9 : a0 > a1
    ·rw [if_pos c9] at H
     have c9b0 : decide (a1 < a0) = true:=decide_eq_true c9
     clear c9
     obtain rfl:=Option.some.inj H
     go_enter Tryz.func107,Tryz.ntmps107
     go_wp2_with (first | ((with_reducible refine gate_callee (f:=120) rfl ?_);refine goesL_ (some 8) rfl rfl Tryz.func120 (by kernel_rfl) rfl #[.int .u32 a0] rfl (by (try simp only [List.map_toArray,List.map_cons,List.map_nil]);first | rfl) ?_;(with_reducible refine (cmp_isNaN_uint32.calls a0 false _ A3.out).mono ?_);rintro e w' ⟨rfl,⟨nd,rfl⟩⟩;refine ⟨_,rfl,?_⟩) | ((with_reducible refine gate_callee (f:=120) rfl ?_);refine goesL_ (some 10) rfl rfl Tryz.func120 (by kernel_rfl) rfl #[.int .u32 a1] rfl (by (try simp only [List.map_toArray,List.map_cons,List.map_nil]);first | rfl) ?_;(with_reducible refine (cmp_isNaN_uint32.calls a1 false _ A4.out).mono ?_);rintro e w' ⟨rfl,⟨nd,rfl⟩⟩;refine ⟨_,rfl,?_⟩))
     go_ret
     exact ⟨by first | rfl,by repeat (first | exact Drawn0.refl _ | apply Drawn0.step)⟩
    ·rw [if_neg c9] at H
     have c9b0 : decide (a1 < a0) = false:=decide_eq_false c9
     clear c9
     obtain rfl:=Option.some.inj H
     go_enter Tryz.func107,Tryz.ntmps107
     go_wp2_with (first | ((with_reducible refine gate_callee (f:=120) rfl ?_);refine goesL_ (some 8) rfl rfl Tryz.func120 (by kernel_rfl) rfl #[.int .u32 a0] rfl (by (try simp only [List.map_toArray,List.map_cons,List.map_nil]);first | rfl) ?_;(with_reducible refine (cmp_isNaN_uint32.calls a0 false _ A3.out).mono ?_);rintro e w' ⟨rfl,⟨nd,rfl⟩⟩;refine ⟨_,rfl,?_⟩) | ((with_reducible refine gate_callee (f:=120) rfl ?_);refine goesL_ (some 10) rfl rfl Tryz.func120 (by kernel_rfl) rfl #[.int .u32 a1] rfl (by (try simp only [List.map_toArray,List.map_cons,List.map_nil]);first | rfl) ?_;(with_reducible refine (cmp_isNaN_uint32.calls a1 false _ A4.out).mono ?_);rintro e w' ⟨rfl,⟨nd,rfl⟩⟩;refine ⟨_,rfl,?_⟩))
     go_ret
     exact ⟨by first | rfl,by repeat (first | exact Drawn0.refl _ | apply Drawn0.step)⟩
end Go.Proofs.YtiminjibcafkaaaGreatDoor.X
end
