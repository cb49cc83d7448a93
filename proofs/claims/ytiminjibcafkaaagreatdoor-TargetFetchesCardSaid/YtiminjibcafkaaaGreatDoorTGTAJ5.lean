/- Texts that this claim's law comes to, joined by wip/slim.py: Xhcommon, Xfrz, Xreg, Xquiet, X17, Xonrow, X3. -/
import Derived.Test.YtiminjibcafkaaaGreatDoorTGTAJ4
import Derived.Laws.CopyRow
import Derived.Deep.QuietTactic
import Derived.BigQuiet
set_option linter.unusedSimpArgs false
set_option linter.unusedVariables false
section
namespace Go.Proofs.YtiminjibcafkaaaGreatDoor.X
open RowKit YtiminjibcafkaaaGreatDoorW.PrintWords YtiminjibcafkaaaGreatDoorW.PrintLast YtiminjibcafkaaaGreatDoorW.PrintMore
attribute [local go_sem] max2_int min2_int max_two min_two max_three min_three max_four min_four
def idxL {α : Type} (p : α → Bool) : List α → Nat → Int
 | [],_=>-1
 | x :: l,i=>if p x = true then (i : Int) else idxL p l (i + 1)
theorem idxL_hit {α : Type} (p : α → Bool) (z : α) : ∀ (l : List α) (i k : Nat),k < l.length → (∀ j,j < k → p (l.getD j z) = false) → p (l.getD k z) = true → idxL p l i = ((i + k : Nat) : Int):=by
 intro l
 induction l with
 | nil=>intro i k hk;simp at hk
 | cons x l ih =>
  intro i k hk hf ht;cases k with
  | zero =>
   have h1 : p x = true:=by simpa using ht
   simp [idxL,h1]
  | succ k =>
   have h1 : p x = false:=by simpa using hf 0 (by omega)
   simp only [idxL,h1,yC,if_false];rw [ih (i + 1) k (by simpa using hk) (fun j hj=>by simpa using hf (j + 1) (by omega)) (by simpa using ht)];congr 1;omega
theorem idxL_miss {α : Type} (p : α → Bool) (z : α) : ∀ (l : List α) (i : Nat),(∀ j,j < l.length → p (l.getD j z) = false) → idxL p l i = -1:=by
 intro l
 induction l with
 | nil=>intro i _;rfl
 | cons x l ih =>
  intro i hf;have h1 : p x = false:=by simpa using hf 0 (by simp)
  simp only [idxL,h1,yC,if_false];exact ih (i + 1) (fun j hj=>by simpa using hf (j + 1) (by simpa using hj))
theorem idxL_any {α : Type} (p : α → Bool) : ∀ (l : List α) (i : Nat),decide (0 ≤ idxL p l i) = l.any p:=by
 intro l
 induction l with
 | nil=>intro i;rfl
 | cons x l ih =>
  intro i;by_cases h : p x = true
  ·simp [idxL,h]
  ·simp only [Bool.not_eq_true] at h;simp only [idxL,h,yC,if_false,ih,List.any_cons,Bool.false_or]
theorem idxL_find {α : Type} (p : α → Bool) (z : α) : ∀ (l : List α) (i : Nat),(∃ k,idxL p l i = ((i + k : Nat) : Int) ∧ k < l.length ∧ l.find? p = some (l.getD k z)) ∨ (idxL p l i = -1 ∧ l.find? p = none):=by
 intro l
 induction l with
 | nil=>intro i;exact .inr ⟨rfl,rfl⟩
 | cons x l ih =>
  intro i;by_cases h : p x = true
  ·exact .inl ⟨0,by simp [idxL,h],by simp,by simp [h]⟩
  ·simp only [Bool.not_eq_true] at h;rcases ih (i + 1) with ⟨k,e,hk,hf⟩ | ⟨e,hf⟩
   ·refine .inl ⟨k + 1,?_,by simpa using hk,?_⟩
    ·simp only [idxL,h,yC,if_false];rw [e];congr 1;omega
    ·rw [List.find?_cons,h,hf];simp
   ·exact .inr ⟨by simp only [idxL,h,yC,if_false];exact e,by rw [List.find?_cons,h];exact hf⟩
theorem blk_put3 {w : World} {g : Nat} {t : TypeId} {a0 a1 a2 : Value} (h : w.heap[g]? = some (.cells #[a0,a1,a2] t (0,0))) (v0 v1 v2 : Value) :
 (((w.setCell ⟨g,0,none⟩ v0).setCell ⟨g,1,none⟩ v1).setCell ⟨g,2,none⟩ v2).heap[g]? = some (.cells #[v0,v1,v2] t (0,0)):=by
 refine blk_put (cs:=#[v0,v1,a2]) ?_ 2 _ rfl;refine blk_put (cs:=#[v0,a1,a2]) ?_ 1 _ rfl;exact blk_put h 0 _ rfl
theorem below_put3 {B : Nat} {w0 w : World} {g : Nat} (h : Below B w0 w) (hg : B ≤ g) (v0 v1 v2 : Value) : Below B w0 (((w.setCell ⟨g,0,none⟩ v0).setCell ⟨g,1,none⟩ v1).setCell ⟨g,2,none⟩ v2):=by
 refine Below.setCell ?_ hg _;refine Below.setCell ?_ hg _;refine Below.setCell ?_ hg _;exact h
theorem blk_put7 {w : World} {g : Nat} {t : TypeId} {a0 a1 a2 a3 a4 a5 a6 : Value} (h : w.heap[g]? = some (.cells #[a0,a1,a2,a3,a4,a5,a6] t (0,0))) (v0 v1 v2 v3 v4 v5 v6 : Value) :
 (((((((w.setCell ⟨g,0,none⟩ v0).setCell ⟨g,1,none⟩ v1).setCell ⟨g,2,none⟩ v2).setCell ⟨g,3,none⟩ v3).setCell ⟨g,4,none⟩ v4).setCell ⟨g,5,none⟩ v5).setCell ⟨g,6,none⟩ v6).heap[g]? = some (.cells #[v0,v1,v2,v3,v4,v5,v6] t (0,0)):=by
 refine blk_put (cs:=#[v0,v1,v2,v3,v4,v5,a6]) ?_ 6 _ rfl;refine blk_put (cs:=#[v0,v1,v2,v3,v4,a5,a6]) ?_ 5 _ rfl;refine blk_put (cs:=#[v0,v1,v2,v3,a4,a5,a6]) ?_ 4 _ rfl;refine blk_put (cs:=#[v0,v1,v2,a3,a4,a5,a6]) ?_ 3 _ rfl;refine blk_put (cs:=#[v0,v1,a2,a3,a4,a5,a6]) ?_ 2 _ rfl;refine blk_put (cs:=#[v0,a1,a2,a3,a4,a5,a6]) ?_ 1 _ rfl;exact blk_put h 0 _ rfl
theorem below_put7 {B : Nat} {w0 w : World} {g : Nat} (h : Below B w0 w) (hg : B ≤ g) (v0 v1 v2 v3 v4 v5 v6 : Value) : Below B w0 (((((((w.setCell ⟨g,0,none⟩ v0).setCell ⟨g,1,none⟩ v1).setCell ⟨g,2,none⟩ v2).setCell ⟨g,3,none⟩ v3).setCell ⟨g,4,none⟩ v4).setCell ⟨g,5,none⟩ v5).setCell ⟨g,6,none⟩ v6):=by
 refine Below.setCell ?_ hg _;refine Below.setCell ?_ hg _;refine Below.setCell ?_ hg _;refine Below.setCell ?_ hg _;refine Below.setCell ?_ hg _;refine Below.setCell ?_ hg _;refine Below.setCell ?_ hg _;exact h
theorem reps_get {α : Type} {R : α → List Value → Prop} {size : Nat} {ps : List α} {cs : List Value} (h : Reps R size ps cs) (enc : α → List Value) (henc : ∀ p c,R p c → c = enc p) (hs : 0 < size) (z : α) (j : Nat) (hj : j < ps.length * size) :
 cs[j]? = (enc (ps.getD (j / size) z))[j % size]?:=by
 have hd : j / size < ps.length:=by rw [Nat.div_lt_iff_lt_mul hs];exact hj
 have e:=henc _ _ (h.2 (j / size) _ (zO hd));have hz : ps.getD (j / size) z = ps[j / size]:=by rw [yG,zO hd];rfl
 rw [hz,← e,List.getElem?_take,if_pos (Nat.mod_lt _ hs),List.getElem?_drop,Nat.mul_comm,Nat.div_add_mod]
theorem reps_mk {α : Type} {R : α → List Value → Prop} {size : Nat} {ps : List α} {cs : List Value} (enc : α → List Value) (hl : ∀ p,(enc p).length = size) (hR : ∀ p,R p (enc p)) (hs : 0 < size) (z : α) (hlen : cs.length = ps.length * size)
 (h : ∀ j,j < ps.length * size → cs[j]? = (enc (ps.getD (j / size) z))[j % size]?) : Reps R size ps cs:=by
 refine ⟨hlen,fun j p hp=>?_⟩;have hjl : j < ps.length:=(List.getElem?_eq_some_iff.1 hp).1;have hz : ps.getD j z = p:=by rw [yG,hp];rfl
 have e : (cs.drop (j * size)).take size = enc p:=by
  apply List.ext_getElem?;intro i;rw [List.getElem?_take];by_cases hi : i < size
  ·rw [if_pos hi,List.getElem?_drop];have hb : j * size + i < ps.length * size:=by
    have : (j + 1) * size ≤ ps.length * size:=Nat.mul_le_mul_right _ hjl;rw [Nat.add_mul,Nat.one_mul] at this;omega
   have hq : (j * size + i) / size = j:=by rw [Nat.add_comm,Nat.add_mul_div_right _ _ hs,Nat.div_eq_of_lt hi,Nat.zero_add]
   have hm : (j * size + i) % size = i:=by rw [Nat.add_comm,Nat.add_mul_mod_self_right,Nat.mod_eq_of_lt hi]
   rw [h _ hb,hq,hm,hz]
  ·rw [if_neg hi,List.getElem?_eq_none (by rw [hl];omega)]
 rw [e];exact hR p
theorem run_copy_rowK {P : Program} (w : World) (dT sT ty elem : TypeId) (g o dLen dCap : Nat) (a : Addr) (sLen sCap : Nat) (cur : Array Value) (t : TypeId) (cs : List Value) (size m : Nat)
 (hu : P.underlying dT = some (.slice elem)) (hs : (P.info? elem).map (·.size) = some size)
 (hg : w.heap[g]? = some (.cells cur t (0,0))) (hm : Nat.min sLen dLen = m) (hn : cs.length = m * size)
 (hsrc : ∀ j v,cs[j]? = some v → w.cell? (a.add j) = some v) (hfit : o + cs.length ≤ cur.size) (h1 : ∀ v ∈ cs,v.oneCell' = true) :
 (Builtin.copy_ #[dT,sT] ty #[.slice (some ⟨g,o,none⟩) dLen dCap,.slice (some a) sLen sCap]).run P w =
  .ok (goInt m) (w.setRow g (cur.toList.take o ++ cs ++ cur.toList.drop (o + cs.length)).toArray):=by
 have hl:=run_loadCells_list (P:=P) w a cs hsrc;have hst:=run_storeCells_at P g o t cs 0 cur w hg (by simpa using hfit) h1;rw [hn] at hl;cases hq : P.info? elem with
 | none=>simp [hq] at hs
 | some i =>
  have hi : i.size = size:=by simpa [hq] using hs
  simp [Builtin.copy_,run_underlying hu,Builtin.lenOf,Builtin.firstCells,sizeOf,typeInfo,hq,hi,hm,hl,hst]
theorem reps_take {α : Type} {R : α → List Value → Prop} {size : Nat} {ps : List α} {cs : List Value} (h : Reps R size ps cs) (i : Nat) : Reps R size (ps.take i) (cs.take (i * size)):=by
 refine ⟨?_,fun j p hj=>?_⟩
 ·rw [List.length_take,List.length_take,h.1];rcases Nat.le_total i ps.length with h1 | h1
  ·rw [Nat.min_eq_left h1,Nat.min_eq_left (Nat.mul_le_mul_right _ h1)]
  ·rw [Nat.min_eq_right h1,Nat.min_eq_right (Nat.mul_le_mul_right _ h1)]
 ·rw [List.getElem?_take] at hj;split at hj
  ·rename_i hji;have hle : j * size + size ≤ i * size:=by rw [← Nat.succ_mul];exact Nat.mul_le_mul_right _ hji
   rw [List.drop_take,List.take_take,Nat.min_eq_left (by omega)];exact h.2 j p hj
  ·cases hj
theorem reps_drop {α : Type} {R : α → List Value → Prop} {size : Nat} {ps : List α} {cs : List Value} (h : Reps R size ps cs) (i : Nat) : Reps R size (ps.drop i) (cs.drop (i * size)):=by
 refine ⟨?_,fun j p hj=>?_⟩
 ·rw [List.length_drop,List.length_drop,h.1,Nat.sub_mul]
 ·rw [List.getElem?_drop] at hj;rw [List.drop_drop,← Nat.add_mul];exact h.2 (i + j) p hj
theorem wpList_copy_eq {P : Program} (w : World) {ops : Array Oper} {rest : List Oper} {o : Oper} {a : Act} {Q : Exit → Act → World → Prop} (hgd : o.guard = none) (d s : Operand) (t t' : TypeId)
 (ho : o.op = .call { callee:=.builtin .copy,args:=#[d,s],argTypes:=#[t,t'] }) (v u : Value) (hd : a.eval d = v) (hs : a.eval s = u) {v' : Value} {w' : World}
 (hr : (Builtin.copy_ #[t,t'] o.type #[v,u]).run P w = .ok v' w') (h : wpList P ops Q rest (a.put o.dst v') w') : wpList P ops Q (o :: rest) a w:=by
 refine wpList_plain hgd fun K hK=>?_
 unfold Oper.wp execOp;simp only [ho,resolve,invoke,builtin,Sem.run_bind,Sem.run_pure,Result.andThen_ok,zN,zT,zY,hd,hs,hr];exact hK _ _ h
theorem step_copy_eq {P : Program} {ops : Array Oper} {o : Oper} {a : Act} {w : World} {K : Act → World → Prop} {Q : Exit → Act → World → Prop} {E : Prop}
 (hg : o.guard = none) (d x : Operand) (dT sT : TypeId) (hop : o.op = Op.call { callee:=Callee.builtin Builtin.copy,args:=#[d,x],argTypes:=#[dT,sT] })
 (v u : Value) (hd : a.eval d = v) (hx : a.eval x = u) {v' : Value} {w' : World} (hr : (Builtin.copy_ #[dT,sT] o.type #[v,u]).run P w = .ok v' w') (hK : K (a.put o.dst v') w') :
 if Region.wanted o (yielded ops a.tmps) = true then Oper.wp P o a w K Q else E:=by
 have hw : Region.wanted o (yielded ops a.tmps) = true:=by simp [Region.wanted,hg]
 rw [if_pos hw];unfold Oper.wp;simp [execOp,hop,resolve,invoke,builtin,hd,hx,hr,Result.andThen];exact hK
theorem reps_app {α : Type} {R : α → List Value → Prop} {size : Nat} {ps qs : List α} {cs ds : List Value} (h : Reps R size ps cs) (k : Reps R size qs ds) : Reps R size (ps ++ qs) (cs ++ ds):=by
 refine ⟨by rw [List.length_append,List.length_append,h.1,k.1,Nat.add_mul],fun j p hj=>?_⟩;rcases Nat.lt_or_ge j ps.length with hl | hl
 ·rw [List.getElem?_append_left hl] at hj;have hle : j * size + size ≤ cs.length:=by rw [h.1,← Nat.succ_mul];exact Nat.mul_le_mul_right _ hl
  rw [List.drop_append_of_le_length (by omega),List.take_append_of_le_length (by rw [List.length_drop];omega)];exact h.2 j p hj
 ·rw [List.getElem?_append_right hl] at hj;have e : j * size = cs.length + (j - ps.length) * size:=by rw [h.1,← Nat.add_mul];congr 1;omega
  rw [e,← List.drop_drop,List.drop_left];exact k.2 _ p hj
theorem reps_ins {α : Type} {R : α → List Value → Prop} {size : Nat} {ps : List α} {cs c : List Value} {x : α} {i : Nat} (h : Reps R size ps cs) (hx : R x c) (hc : c.length = size) (hi : i ≤ ps.length) :
 Reps R size (ps.take i ++ x :: ps.drop i) (cs.take (i * size) ++ c ++ cs.drop (i * size)):=by
 rw [List.append_assoc];exact reps_app (reps_take h i) (Reps.front hx hc (reps_drop h i) rfl)
theorem cells2 {w : World} {g : Nat} {v0 v1 : Value} {t : TypeId} (h : w.heap[g]? = some (.cells #[v0,v1] t (0,0))) : w.cell? ⟨g,0,none⟩ = some v0 ∧ w.cell? ⟨g,1,none⟩ = some v1 :=
 ⟨(zI h 0).trans rfl,(zI h 1).trans rfl⟩
theorem cells3 {w : World} {g : Nat} {v0 v1 v2 : Value} {t : TypeId} (h : w.heap[g]? = some (.cells #[v0,v1,v2] t (0,0))) : w.cell? ⟨g,0,none⟩ = some v0 ∧ w.cell? ⟨g,1,none⟩ = some v1 ∧ w.cell? ⟨g,2,none⟩ = some v2 :=
 ⟨(zI h 0).trans rfl,(zI h 1).trans rfl,(zI h 2).trans rfl⟩
theorem cells7 {w : World} {g : Nat} {v0 v1 v2 v3 v4 v5 v6 : Value} {t : TypeId} (h : w.heap[g]? = some (.cells #[v0,v1,v2,v3,v4,v5,v6] t (0,0))) : w.cell? ⟨g,0,none⟩ = some v0 ∧ w.cell? ⟨g,1,none⟩ = some v1 ∧ w.cell? ⟨g,2,none⟩ = some v2 ∧ w.cell? ⟨g,3,none⟩ = some v3 ∧ w.cell? ⟨g,4,none⟩ = some v4 ∧ w.cell? ⟨g,5,none⟩ = some v5 ∧ w.cell? ⟨g,6,none⟩ = some v6 :=
 ⟨(zI h 0).trans rfl,(zI h 1).trans rfl,(zI h 2).trans rfl,(zI h 3).trans rfl,(zI h 4).trans rfl,(zI h 5).trans rfl,(zI h 6).trans rfl⟩
theorem cells12 {w : World} {g : Nat} {v0 v1 v2 v3 v4 v5 v6 v7 v8 v9 v10 v11 : Value} {t : TypeId} (h : w.heap[g]? = some (.cells #[v0,v1,v2,v3,v4,v5,v6,v7,v8,v9,v10,v11] t (0,0))) : w.cell? ⟨g,0,none⟩ = some v0 ∧ w.cell? ⟨g,1,none⟩ = some v1 ∧ w.cell? ⟨g,2,none⟩ = some v2 ∧ w.cell? ⟨g,3,none⟩ = some v3 ∧ w.cell? ⟨g,4,none⟩ = some v4 ∧ w.cell? ⟨g,5,none⟩ = some v5 ∧ w.cell? ⟨g,6,none⟩ = some v6 ∧ w.cell? ⟨g,7,none⟩ = some v7 ∧ w.cell? ⟨g,8,none⟩ = some v8 ∧ w.cell? ⟨g,9,none⟩ = some v9 ∧ w.cell? ⟨g,10,none⟩ = some v10 ∧ w.cell? ⟨g,11,none⟩ = some v11 :=
 ⟨(zI h 0).trans rfl,(zI h 1).trans rfl,(zI h 2).trans rfl,(zI h 3).trans rfl,(zI h 4).trans rfl,(zI h 5).trans rfl,(zI h 6).trans rfl,(zI h 7).trans rfl,(zI h 8).trans rfl,(zI h 9).trans rfl,(zI h 10).trans rfl,(zI h 11).trans rfl⟩
theorem cells13 {w : World} {g : Nat} {v0 v1 v2 v3 v4 v5 v6 v7 v8 v9 v10 v11 v12 : Value} {t : TypeId} (h : w.heap[g]? = some (.cells #[v0,v1,v2,v3,v4,v5,v6,v7,v8,v9,v10,v11,v12] t (0,0))) : w.cell? ⟨g,0,none⟩ = some v0 ∧ w.cell? ⟨g,1,none⟩ = some v1 ∧ w.cell? ⟨g,2,none⟩ = some v2 ∧ w.cell? ⟨g,3,none⟩ = some v3 ∧ w.cell? ⟨g,4,none⟩ = some v4 ∧ w.cell? ⟨g,5,none⟩ = some v5 ∧ w.cell? ⟨g,6,none⟩ = some v6 ∧ w.cell? ⟨g,7,none⟩ = some v7 ∧ w.cell? ⟨g,8,none⟩ = some v8 ∧ w.cell? ⟨g,9,none⟩ = some v9 ∧ w.cell? ⟨g,10,none⟩ = some v10 ∧ w.cell? ⟨g,11,none⟩ = some v11 ∧ w.cell? ⟨g,12,none⟩ = some v12 :=
 ⟨(zI h 0).trans rfl,(zI h 1).trans rfl,(zI h 2).trans rfl,(zI h 3).trans rfl,(zI h 4).trans rfl,(zI h 5).trans rfl,(zI h 6).trans rfl,(zI h 7).trans rfl,(zI h 8).trans rfl,(zI h 9).trans rfl,(zI h 10).trans rfl,(zI h 11).trans rfl,(zI h 12).trans rfl⟩
end Go.Proofs.YtiminjibcafkaaaGreatDoor.X
end
section
namespace Go.Proofs.YtiminjibcafkaaaGreatDoor.X
open RowKit YtiminjibcafkaaaGreatDoorW.PrintWords YtiminjibcafkaaaGreatDoorW.PrintLast YtiminjibcafkaaaGreatDoorW.PrintMore
theorem frz13 {w : World} {g : Nat} {t : TypeId} {cs : Array Value} (h : w.heap[g]? = some (.cells cs t (0,0))) : w.frozen? ⟨g,0,none⟩ = false ∧ w.frozen? ⟨g,1,none⟩ = false ∧ w.frozen? ⟨g,2,none⟩ = false ∧ w.frozen? ⟨g,3,none⟩ = false ∧ w.frozen? ⟨g,4,none⟩ = false ∧ w.frozen? ⟨g,5,none⟩ = false ∧ w.frozen? ⟨g,6,none⟩ = false ∧ w.frozen? ⟨g,7,none⟩ = false ∧ w.frozen? ⟨g,8,none⟩ = false ∧ w.frozen? ⟨g,9,none⟩ = false ∧ w.frozen? ⟨g,10,none⟩ = false ∧ w.frozen? ⟨g,11,none⟩ = false ∧ w.frozen? ⟨g,12,none⟩ = false:=⟨yA h 0,yA h 1,yA h 2,yA h 3,yA h 4,yA h 5,yA h 6,yA h 7,yA h 8,yA h 9,yA h 10,yA h 11,yA h 12⟩
section
variable {P : Program} {ops : Array Oper} {Q : Exit → Act → World → Prop} {md : Region.Mode} {S : World → Prop} {ds : List Nat} {T : Bool × List (List Nat × List Nat)} {B : List Nat} {oi : Oper} {v : Value} {fuel : Nat} {l l' : Array Bool} {a a' : Act} {w : World}
theorem pu (i : Nat) (N : Option Tmp) (HT : Aside0 (rtab md ops = T)) (hi : ops[i]? = some oi) (hN : oi.dst = N) (h : wpAnyLast P md ops Q S ds fuel l' a' w)
 (hw : Region.wanted oi (yielded ops a.tmps) = true:=by rfl) (_hl : l.setIfInBounds i true = l':=by simp only [zK,zP,zQ];rfl)
 (hc : anyT T l.toList l'.toList i = true:=by kernel_rfl) (hQ : ∀ c a w,Q (.panic c) (a.put oi.dst v) w → Q (.panic c) a w:=by exact fun _ _ _ h=>h)
 (hv : ∀ w',(execOp a.eval oi).run P w' = .ok (.value v) w':=by intro w';go_simp;with_reducible rfl)
 (ha : a.put N v = a':=by simp only [Act.put,zK,zP,zQ,i64_w,i32_w];rfl) : wpAnyLast P md ops Q S ds (fuel + 1) l a w :=
 pure_ l' hi hN (any_of HT.out hc) hQ (.inl ⟨hw,hv⟩) ha h
theorem sk (i : Nat) (N : Option Tmp) (HT : Aside0 (rtab md ops = T)) (hi : ops[i]? = some oi) (hN : oi.dst = N) (h : wpAnyLast P md ops Q S ds fuel l' a' w)
 (hw : Region.wanted oi (yielded ops a.tmps) = false:=by rfl) (_hl : l.setIfInBounds i true = l':=by simp only [zK,zP,zQ];rfl)
 (hc : anyT T l.toList l'.toList i = true:=by kernel_rfl) (hQ : ∀ c a w,Q (.panic c) (a.put oi.dst undef) w → Q (.panic c) a w:=by exact fun _ _ _ h=>h)
 (ha : a.put N undef = a':=by simp only [Act.put,zK,zP,zQ,i64_w,i32_w];rfl) : wpAnyLast P md ops Q S ds (fuel + 1) l a w :=
 pure_ l' hi hN (any_of HT.out hc) hQ (.inr ⟨hw,rfl⟩) ha h
theorem ta (i : Nat) (N : Option Tmp) (HT : Aside0 (rtab md ops = T)) (HW : Aside0 (waitsOk T.2 B = true)) (hS : S w) (hi : ops[i]? = some oi) (hN : oi.dst = N) (hv : ∀ w',S w' → (execOp a.eval oi).run P w' = .ok (.value v) w') (h : wpAnyLast P md ops Q S ds fuel l' a' w)
 (hw : Region.wanted oi (yielded ops a.tmps) = true:=by rfl) (_hl : l.setIfInBounds i true = l':=by simp only [zK,zP,zQ];rfl)
 (hc : takeW T B ds l.toList l'.toList i = true:=by kernel_rfl) (hQ : ∀ c a w,Q (.panic c) (a.put oi.dst v) w → Q (.panic c) a w:=by exact fun _ _ _ h=>h)
 (ha : a.put N v = a':=by simp only [Act.put,zK,zP,zQ,i64_w,i32_w];rfl) : wpAnyLast P md ops Q S ds (fuel + 1) l a w :=
 take_ l' hi hN (take_ofW HT.out HW.out hc) hQ (.inl ⟨hw,hv⟩) hS ha h
theorem no_ {a0 : Act} (N : Option Tmp) (h : wpAnyLast P md ops Q S ds fuel l a' w) (ha : a0.put N v = a':=by simp only [Act.put,zK,zP,zQ,i64_w,i32_w];rfl) : wpAnyLast P md ops Q S ds fuel l (a0.put N v) w:=norm_ ha h
end
theorem putg3 {w w1 : World} {g : Nat} {t : TypeId} {a0 a1 a2 v0 v1 v2 : Value} (hW : ((w.setCell ⟨g,0,none⟩ v0).setCell ⟨g,1,none⟩ v1).setCell ⟨g,2,none⟩ v2 = w1) (h : w.heap[g]? = some (.cells #[a0,a1,a2] t (0,0))) : w1.heap[g]? = some (.cells #[v0,v1,v2] t (0,0)):=hW ▸ blk_put3 h v0 v1 v2
theorem belg3 {w w1 w0 : World} {B g : Nat} {v0 v1 v2 : Value} (hW : ((w.setCell ⟨g,0,none⟩ v0).setCell ⟨g,1,none⟩ v1).setCell ⟨g,2,none⟩ v2 = w1) (h : Below B w0 w) (hg : B ≤ g) : Below B w0 w1:=hW ▸ below_put3 h hg v0 v1 v2
theorem putg7 {w w1 : World} {g : Nat} {t : TypeId} {a0 a1 a2 a3 a4 a5 a6 v0 v1 v2 v3 v4 v5 v6 : Value} (hW : ((((((w.setCell ⟨g,0,none⟩ v0).setCell ⟨g,1,none⟩ v1).setCell ⟨g,2,none⟩ v2).setCell ⟨g,3,none⟩ v3).setCell ⟨g,4,none⟩ v4).setCell ⟨g,5,none⟩ v5).setCell ⟨g,6,none⟩ v6 = w1) (h : w.heap[g]? = some (.cells #[a0,a1,a2,a3,a4,a5,a6] t (0,0))) : w1.heap[g]? = some (.cells #[v0,v1,v2,v3,v4,v5,v6] t (0,0)):=hW ▸ blk_put7 h v0 v1 v2 v3 v4 v5 v6
theorem belg7 {w w1 w0 : World} {B g : Nat} {v0 v1 v2 v3 v4 v5 v6 : Value} (hW : ((((((w.setCell ⟨g,0,none⟩ v0).setCell ⟨g,1,none⟩ v1).setCell ⟨g,2,none⟩ v2).setCell ⟨g,3,none⟩ v3).setCell ⟨g,4,none⟩ v4).setCell ⟨g,5,none⟩ v5).setCell ⟨g,6,none⟩ v6 = w1) (h : Below B w0 w) (hg : B ≤ g) : Below B w0 w1:=hW ▸ below_put7 h hg v0 v1 v2 v3 v4 v5 v6
def Qc (B : Nat) (w0 : World) (w : World) : Prop:=Below B w0 w
theorem region_qc {P : Program} {id : Nat} {Q : Exit → Act → World → Prop} {a : Act} {w : World} {l : List Oper} (hm : P.follows .mixedOrders = true) (hB : Region.lexB .any l.toArray = true)
 (h : wpQuiet P l.toArray (Qc w.heap.size w) (fun a'=>∀ w',Below w.heap.size w w' → Q .normal a' w') l a) : (Code.region id l.toArray true).wp P Q a w :=
 wp_region_quiet (C:=Qc w.heap.size w) hm hB (by
  have h1 : ({ w with drawn:=w.drawn + 1 } : World) = w.drewN 1:=rfl;show Below w.heap.size w _;rw [h1];exact pw_below_drewN (zS _ _) 1) (by simpa [Qc] using h)
theorem Qc.out {B : Nat} {w0 w : World} (h : Qc B w0 w) : Below B w0 w:=h
theorem Qc.cell {B : Nat} {w0 w : World} (h : Qc B w0 w) {b o : Nat} (hb : b < B) {v : Value} (hv : w0.cell? ⟨b,o,none⟩ = some v) : w.cell? ⟨b,o,none⟩ = some v:=(Below.cell (p:=⟨b,o,none⟩) h hb).trans hv
end Go.Proofs.YtiminjibcafkaaaGreatDoor.X
end
section
namespace Go.Proofs.YtiminjibcafkaaaGreatDoor.X
open RowKit YtiminjibcafkaaaGreatDoorW.PrintWords YtiminjibcafkaaaGreatDoorW.PrintLast YtiminjibcafkaaaGreatDoorW.PrintMore
attribute [local go_sem] max2_int min2_int max_two min_two max_three min_three max_four min_four
def item_Cmp.f (k : Nat) (a0_0 : Int) (a0_1 : Int) (a0_2 : Int) (a1_0 : Int) (a1_1 : Int) (a1_2 : Int) : Option (Int):=(cmp_Compare_uint32.f a0_2 a1_2).bind fun t218=>((cmp_Compare_uint8.f a0_0 a1_0).bind fun t219=>((cmp_Compare_uint32.f a0_1 a1_1).bind fun t220=>((cmp_Or_int.f k (([t218,t219,t220] : List Int))).bind fun t224=>(some t224))))
def item_Cmp.T1 : Bool × List (List Nat × List Nat):=(true,[([],[]),([0],[0]),([],[]),([2],[2]),([1,3],[1,3]),([],[]),([5],[5]),([],[]),([7],[7]),([6,8,4],[6,8]),([],[]),([10],[10]),([],[]),([12],[12]),([11,13,9],[11,13]),([4,9,14],[4,9,14]),([15,14],[15]),([16,16,0,1,2,3,4,5,6,7,8,9,10,11,12,13,14,15,16],[16])])
def item_Cmp.B1 : List Nat:=[0,1,0,4,15,0,32,0,128,511,0,1024,0,4096,16383,32767,65535,131071]
theorem item_Cmp.tab1 : rtab .any (opsOf Tryz.f103 1) = item_Cmp.T1:=by kernel_rfl
theorem item_Cmp.bits1 : waitsOk item_Cmp.T1.2 item_Cmp.B1 = true:=by kernel_rfl
set_option maxHeartbeats 8000000 in
set_option maxRecDepth 100000 in
theorem item_Cmp.calls (k : Nat) (a0_0 : Int) (a0_1 : Int) (a0_2 : Int) (a1_0 : Int) (a1_1 : Int) (a1_2 : Int) (r : Int) (w : World) (h : item_Cmp.f k a0_0 a0_1 a0_2 a1_0 a1_1 a1_2 = some r) :
 Calls Tryz.prog 103 #[.agg #[.int .u8 a0_0,.int .u32 a0_1,.int .u32 a0_2],.agg #[.int .u8 a1_0,.int .u32 a1_1,.int .u32 a1_2]] w fun e w'=>e = .returned (.int .i64 r) ∧ Below w.heap.size w w':=by
 have hu60:=Tryz.underlying60;have HB:=zA (zS w.heap.size w);have H : ((cmp_Compare_uint32.f a0_2 a1_2).bind fun t218=>((cmp_Compare_uint8.f a0_0 a1_0).bind fun t219=>((cmp_Compare_uint32.f a0_1 a1_1).bind fun t220=>((cmp_Or_int.f k (([t218,t219,t220] : List Int))).bind fun t224=>(some t224))))) = some r:=h;clear h;replace H:=zJ.mp H;obtain ⟨t218,A30,H⟩:=H;have A3:=zA A30;clear A30;replace H:=zJ.mp H;obtain ⟨t219,A40,H⟩:=H;have A4:=zA A40;clear A40;replace H:=zJ.mp H;obtain ⟨t220,A50,H⟩:=H;have A5:=zA A50;clear A50;obtain ⟨y221,hy221⟩ : ∃ y_ : List Int,y_ = (([t218,t219,t220] : List Int)):=⟨_,rfl⟩
 replace H : ((cmp_Or_int.f k y221).bind fun t224=>(some t224)) = some r:=by (rw [hy221];with_reducible exact H)
 have Ny221:=zA hy221;clear hy221;replace H:=zJ.mp H;obtain ⟨t224,A60,H⟩:=H;have A6:=zA A60;clear A60;obtain rfl:=zH H;go_enter Tryz.func103,Tryz.ntmps103
 try go_wp2_with (first | ((with_reducible refine gate_dst (N:=2) rfl ?_);refine box_event ?hg (N:=2) ?hd (cs:=#[.int .u8 a0_0,.int .u32 a0_1,.int .u32 a0_2]) (t:=60) ?hr ?_;(case hd=>rfl);(case hg=>rfl);(case hr=>(go_simp;done));intro gb216 hg w7 hbox hb;have n0_:=zA (zG HB.out hb);have n1_:=zA (hbox);have n2_:=zA ((by rw [hg];exact (zX HB.out) : w.heap.size ≤ gb216));have n3_:=zA ((by rw [hg];exact (zX HB.out) : w.heap.size ≤ gb216));clear HB;have HB:=n0_;have BK216:=n1_;have GW216:=n2_;have GE216:=n3_;clear n0_ n1_ n2_ n3_ hb hbox hg) | ((with_reducible refine gate_dst (N:=3) rfl ?_);refine box_event ?hg (N:=3) ?hd (cs:=#[.int .u8 a1_0,.int .u32 a1_1,.int .u32 a1_2]) (t:=60) ?hr ?_;(case hd=>rfl);(case hg=>rfl);(case hr=>(go_simp;done));intro gb217 hg w8 hbox hb;have n0_:=zA (zC BK216.out hb);have n1_:=zA (zG HB.out hb);have n2_:=zA (hbox);have n3_:=zA ((by rw [hg];exact (zX HB.out) : w.heap.size ≤ gb217));have n4_:=zA ((by rw [hg];exact (zX HB.out) : w.heap.size ≤ gb217));have n5_:=zA ((by rw [hg];exact Nat.ne_of_lt (blk_lt (g:=gb216) (o:=.cells #[.int .u8 a0_0,.int .u32 a0_1,.int .u32 a0_2] 60 (0,0)) BK216.out) : gb216 ≠ gb217));have n6_:=zA ((by rw [hg];exact Nat.ne_of_gt (blk_lt (g:=gb216) (o:=.cells #[.int .u8 a0_0,.int .u32 a0_1,.int .u32 a0_2] 60 (0,0)) BK216.out) : gb217 ≠ gb216));clear BK216 HB;have BK216:=n0_;have HB:=n1_;have BK217:=n2_;have GW217:=n3_;have GE217:=n4_;have NB216_217:=n5_;have NB217_216:=n6_;clear n0_ n1_ n2_ n3_ n4_ n5_ n6_ hb hbox hg))
 replace BK216:=zA (blk_drew BK216.out);replace BK217:=zA (blk_drew BK217.out);replace HB:=zA (yI HB.out);refine start_ (n:=18) (S:=fun w'=>w'.cell? ⟨gb216,0,none⟩ = some (.int .u8 a0_0) ∧ w'.cell? ⟨gb216,1,none⟩ = some (.int .u32 a0_1) ∧ w'.cell? ⟨gb216,2,none⟩ = some (.int .u32 a0_2) ∧ w'.cell? ⟨gb217,0,none⟩ = some (.int .u8 a1_0) ∧ w'.cell? ⟨gb217,1,none⟩ = some (.int .u32 a1_1) ∧ w'.cell? ⟨gb217,2,none⟩ = some (.int .u32 a1_2)) (ds:=[]) #[false,false,false,false,false,false,false,false,false,false,false,false,false,false,false,false,false,false] (by kernel_rfl) rfl rfl ⟨(zI BK216.out 0).trans rfl,(zI BK216.out 1).trans rfl,(zI BK216.out 2).trans rfl,(zI BK217.out 0).trans rfl,(zI BK217.out 1).trans rfl,(zI BK217.out 2).trans rfl⟩ (fun hHeld=>?_);refine with_tabW item_Cmp.tab1 item_Cmp.bits1 (fun HT_ HW_=>?_);generalize w8.drew = w9 at BK216 BK217 HB hHeld ⊢;refine pu 0 (some 5) HT_ rfl rfl ?_;refine pu 2 (some 7) HT_ rfl rfl ?_;refine pu 5 (some 10) HT_ rfl rfl ?_;refine pu 7 (some 12) HT_ rfl rfl ?_;refine pu 10 (some 15) HT_ rfl rfl ?_;refine pu 12 (some 17) HT_ rfl rfl ?_;refine ta 1 (some 6) HT_ HW_ hHeld rfl rfl (by rintro w' ⟨s0,s1,s2,s3,s4,s5⟩;go_simp;with_reducible rfl) ?_;refine ta 3 (some 8) HT_ HW_ hHeld rfl rfl (by rintro w' ⟨s0,s1,s2,s3,s4,s5⟩;go_simp;with_reducible rfl) ?_;refine ta 6 (some 11) HT_ HW_ hHeld rfl rfl (by rintro w' ⟨s0,s1,s2,s3,s4,s5⟩;go_simp;with_reducible rfl) ?_;refine ta 8 (some 13) HT_ HW_ hHeld rfl rfl (by rintro w' ⟨s0,s1,s2,s3,s4,s5⟩;go_simp;with_reducible rfl) ?_;refine ta 11 (some 16) HT_ HW_ hHeld rfl rfl (by rintro w' ⟨s0,s1,s2,s3,s4,s5⟩;go_simp;with_reducible rfl) ?_;refine ta 13 (some 18) HT_ HW_ hHeld rfl rfl (by rintro w' ⟨s0,s1,s2,s3,s4,s5⟩;go_simp;with_reducible rfl) ?_;refine one_ (i:=4) (N:=some 9) #[true,true,true,true,true,true,true,true,true,false,true,true,true,true,false,false,false,false] rfl rfl (one_of HT_.out (by kernel_rfl)) (by decide) (fun K hK=>?_);refine goes_ Tryz.func107 (by kernel_rfl) rfl #[.int .u32 a0_2,.int .u32 a1_2] (by rfl) rfl rfl (by (try simp only [zN,zT,zY]);first | rfl) ?_
 with_reducible refine (cmp_Compare_uint32.calls a0_2 a1_2 t218 _ A3.out).mono ?_
 rintro e w' ⟨rfl,⟨nd,rfl⟩⟩;refine ⟨_,rfl,?_⟩;refine hK.out _ _ ⟨(zI BK216.out 0).trans rfl,(zI BK216.out 1).trans rfl,(zI BK216.out 2).trans rfl,(zI BK217.out 0).trans rfl,(zI BK217.out 1).trans rfl,(zI BK217.out 2).trans rfl⟩ (fun hHeld=>?_);clear hK K;refine no_ (some 9) ?_;refine one_ (i:=9) (N:=some 14) #[true,true,true,true,true,true,true,true,true,true,true,true,true,true,false,false,false,false] rfl rfl (one_of HT_.out (by kernel_rfl)) (by decide) (fun K hK=>?_);refine goes_ Tryz.func100 (by kernel_rfl) rfl #[.int .u8 a0_0,.int .u8 a1_0] (by rfl) rfl rfl (by (try simp only [zN,zT,zY]);first | rfl) ?_
 with_reducible refine (cmp_Compare_uint8.calls a0_0 a1_0 t219 _ A4.out).mono ?_
 rintro e w' ⟨rfl,⟨nd,rfl⟩⟩;refine ⟨_,rfl,?_⟩;refine hK.out _ _ ⟨(zI BK216.out 0).trans rfl,(zI BK216.out 1).trans rfl,(zI BK216.out 2).trans rfl,(zI BK217.out 0).trans rfl,(zI BK217.out 1).trans rfl,(zI BK217.out 2).trans rfl⟩ (fun hHeld=>?_);clear hK K;refine no_ (some 14) ?_;refine one_ (i:=14) (N:=some 19) #[true,true,true,true,true,true,true,true,true,true,true,true,true,true,true,false,false,false] rfl rfl (one_of HT_.out (by kernel_rfl)) (by decide) (fun K hK=>?_);refine goes_ Tryz.func107 (by kernel_rfl) rfl #[.int .u32 a0_1,.int .u32 a1_1] (by rfl) rfl rfl (by (try simp only [zN,zT,zY]);first | rfl) ?_
 with_reducible refine (cmp_Compare_uint32.calls a0_1 a1_1 t220 _ A5.out).mono ?_
 rintro e w' ⟨rfl,⟨nd,rfl⟩⟩;refine ⟨_,rfl,?_⟩;refine hK.out _ _ ⟨(zI BK216.out 0).trans rfl,(zI BK216.out 1).trans rfl,(zI BK216.out 2).trans rfl,(zI BK217.out 0).trans rfl,(zI BK217.out 1).trans rfl,(zI BK217.out 2).trans rfl⟩ (fun hHeld=>?_);clear hK K;refine no_ (some 19) ?_;refine one_ (i:=15) (N:=some 20) #[true,true,true,true,true,true,true,true,true,true,true,true,true,true,true,true,false,false] rfl rfl (one_of HT_.out (by kernel_rfl)) (by decide) (fun K hK=>?_);refine Kd.R_lit_step (Kd.int .i64) _ 3 ?hg (N:=20) ?hd (xs:=([t218,t219,t220] : List Int)) (inner:=[.int .i64 t218,.int .i64 t219,.int .i64 t220]) (ok:=fun _=>True) (okp:=fun _=>True) ?hr ?hp (fun _ hk=>hk) trivial (zS _ _) (zM _) (by simp) ?_;(case hd=>rfl);(case hg=>rfl);(case hr=>(go_simp;done));(case hp=>exact (Reps.one (show Kd.M (Kd.int .i64) _ _ _ t218 [.int .i64 t218] from rfl) (Reps.one (show Kd.M (Kd.int .i64) _ _ _ t219 [.int .i64 t219] from rfl) (Reps.one (show Kd.M (Kd.int .i64) _ _ _ t220 [.int .i64 t220] from rfl) (Reps.none _ _)))));intro v222 w10 ho11 hb hg_ hnew_;clear hg_ hnew_;(first | rw [← Ny221.out] at ho11);have n0_:=zA (yK ho11 (zX (by repeat ((with_reducible first | exact HB.out | apply pw_below_drewN)))));have n1_:=zA (zC (g:=gb216) (o:=.cells #[.int .u8 a0_0,.int .u32 a0_1,.int .u32 a0_2] 60 (0,0)) (by (with_reducible repeat (first | refine blk_drewN ?_ _));exact BK216.out) hb);have n2_:=zA (zC (g:=gb217) (o:=.cells #[.int .u8 a1_0,.int .u32 a1_1,.int .u32 a1_2] 60 (0,0)) (by (with_reducible repeat (first | refine blk_drewN ?_ _));exact BK217.out) hb);have n3_:=zA (zG (by repeat ((with_reducible first | exact HB.out | apply pw_below_drewN))) hb);clear BK216 BK217 HB;have HO223:=n0_;have BK216:=n1_;have BK217:=n2_;have HB:=n3_;clear n0_ n1_ n2_ n3_ hb ho11;obtain ⟨Ao12,co12,eo12⟩:=yJ HO223.out;(first | subst eo12);refine hK.out _ _ ⟨(zI BK216.out 0).trans rfl,(zI BK216.out 1).trans rfl,(zI BK216.out 2).trans rfl,(zI BK217.out 0).trans rfl,(zI BK217.out 1).trans rfl,(zI BK217.out 2).trans rfl⟩ (fun hHeld=>?_);clear hK K;refine no_ (some 20) ?_;refine one_ (i:=16) (N:=some 21) #[true,true,true,true,true,true,true,true,true,true,true,true,true,true,true,true,true,false] rfl rfl (one_of HT_.out (by kernel_rfl)) (by decide) (fun K hK=>?_);refine goes_ Tryz.func106 (by kernel_rfl) rfl #[.slice Ao12 y221.length co12] (by rfl) rfl rfl (by (try simp only [zN,zT,zY]);first | rfl) ?_
 with_reducible refine (cmp_Or_int.calls k _ _ y221 t224 _ ?side1 ?side2 A6.out).mono ?_
 (case side1=>repeat (first | exact (Kd.R_reads' HO223.out).2.2));(case side2=>exact (Kd.R_reads' HO223.out).2.1);rintro e w' ⟨rfl,⟨nd,rfl⟩⟩;refine ⟨_,rfl,?_⟩;refine hK.out _ _ ⟨(zI BK216.out 0).trans rfl,(zI BK216.out 1).trans rfl,(zI BK216.out 2).trans rfl,(zI BK217.out 0).trans rfl,(zI BK217.out 1).trans rfl,(zI BK217.out 2).trans rfl⟩ (fun hHeld=>?_);clear hK K;refine no_ (some 21) ?_;refine pu 17 (some 4) HT_ rfl rfl ?_;refine done_ (done_of HT_.out (by kernel_rfl)) ?_
 try go_wp2
 go_ret;exact ⟨by rfl,by repeat ((with_reducible first | exact HB.out | apply pw_below_drewN))⟩
end Go.Proofs.YtiminjibcafkaaaGreatDoor.X
end
section
namespace Go.Proofs.YtiminjibcafkaaaGreatDoor.X
open RowKit YtiminjibcafkaaaGreatDoorW.PrintWords YtiminjibcafkaaaGreatDoorW.PrintLast YtiminjibcafkaaaGreatDoorW.PrintMore
structure On {α : Type} (d : Kd α) (w : World) (S : Nat → Prop) (A : Option Addr) (c : Nat) (l : List α) : Prop where
 len : l.length ≤ c
 row : d.C w A l.length l
 off : ∀ ad,A = some ad → 0 < l.length → S ad.block
section
variable {α : Type} {d : Kd α} {w w1 : World} {S S' : Nat → Prop} {A : Option Addr} {c : Nat} {l : List α}
theorem On.mono (h : On d w S A c l) (hs : ∀ k,S k → S' k) : On d w S' A c l:=⟨h.len,h.row,fun ad e n=>hs _ (h.off ad e n)⟩
theorem On.below (h : On d w S A c l) (hb : Below w.heap.size w w1) : On d w1 S A c l:=⟨h.len,zL h.row hb,h.off⟩
theorem On.nil : On d w S none 0 ([] : List α):=⟨zM _,⟨rfl,by simp,fun h=>absurd h (Nat.lt_irrefl 0)⟩,fun ad e=>by cases e⟩
theorem On.lt (hsz : 0 < d.sz) (h : On d w S A c l) : On d w (fun k=>S k ∧ k < w.heap.size) A c l:=by
 refine ⟨h.len,h.row,fun ad e hn=>⟨h.off ad e hn,?_⟩⟩;obtain ⟨h1,h2,h3⟩:=h.row;obtain ⟨ad',e',hc⟩:=h3 hn;rw [e] at e';cases e';obtain ⟨cs,a,b,f⟩:=hc 0 _ (zO hn);have h0 : 0 < cs.length:=by omega
 have:=zB w _ (f 0 _ (zO h0));rwa [add_block] at this
theorem On.far (hK : ∀ (w w1 : World) x cs,d.K w x cs → d.K w1 x cs) (h : On d w S A c l) {p : Addr} (hS : ∀ k,S k → k ≠ p.block) (u : Value) : On d (w.setCell p u) S A c l:=by
 refine ⟨h.len,?_,h.off⟩;obtain ⟨h1,h2,h3⟩:=h.row;refine ⟨h1,h2,fun hn=>?_⟩;obtain ⟨ad,e,hc⟩:=h3 hn;refine ⟨ad,e,fun j p' hj=>?_⟩;obtain ⟨cs,a,b,f⟩:=hc j p' hj;exact ⟨cs,a,hK _ _ _ _ b,fun i u' hu=>(cell_far (by rw [add_block];exact hS _ (h.off ad e (by omega))) u).trans (f i u' hu)⟩
theorem On.of_R {e base : Nat} {ok : Nat → Prop} {n : Nat} (h : d.R e w base ok (.slice A n c) l) (hS : ∀ k,ok k → base ≤ k → S k) : On d w S A c l:=by
 obtain ⟨A',c',hv,h1,h2⟩:=Kd.R_reads h;injection hv with e1 e2 e3;subst e1;subst e3;refine ⟨h1,h2,fun ad he hn=>?_⟩;subst he;have hb : (Value.slice (some ad) n c).ownBlock = some ad.block:=rfl;exact hS _ (h.1 _ hb) (Kd.R_base h _ hb)
end
theorem flatK_Run (w w1 : World) (x : S67) (cs : List Value) (h : Kd.K k67 w x cs) : Kd.K k67 w1 x cs:=h
theorem flatK_Entry (w w1 : World) (x : S62) (cs : List Value) (h : Kd.K k62 w x cs) : Kd.K k62 w1 x cs:=h
def put_ (w : World) (g : Nat) : Nat → List Value → World
 | _,[]=>w
 | i,v :: l=>put_ (w.setCell ⟨g,i,none⟩ v) g (i + 1) l
theorem put_far (g g' : Nat) (h : g' ≠ g) : ∀ (l : List Value) (w : World) (i : Nat),(put_ w g i l).heap[g']? = w.heap[g']?
 | [],w,i=>rfl
 | v :: l,w,i=>(put_far g g' h l _ _).trans (Below.heap_setCell w ⟨g,i,none⟩ v g' h)
theorem put_size (g : Nat) : ∀ (l : List Value) (w : World) (i : Nat),(put_ w g i l).heap.size = w.heap.size
 | [],w,i=>rfl
 | v :: l,w,i=>(put_size g l _ _).trans (by simp [World.setCell])
theorem put_below {B : Nat} {w0 : World} (g : Nat) (hg : B ≤ g) : ∀ (l : List Value) (w : World) (i : Nat),Below B w0 w → Below B w0 (put_ w g i l)
 | [],w,i,h=>h
 | v :: l,w,i,h=>put_below g hg l _ _ (h.setCell (p:=⟨g,i,none⟩) hg v)
theorem put_lit {t : TypeId} (g : Nat) : ∀ (l pre old post : List Value) (w : World),old.length = l.length → w.heap[g]? = some (.cells (pre ++ old ++ post).toArray t (0,0)) → (put_ w g pre.length l).heap[g]? = some (.cells (pre ++ l ++ post).toArray t (0,0))
 | [],pre,old,post,w,hl,h=>by
  have : old = []:=List.eq_nil_of_length_eq_zero hl;subst this;exact h
 | v :: l,pre,[],post,w,hl,h=>by simp at hl
 | v :: l,pre,o :: old,post,w,hl,h=>by
  have h1:=blk_set h pre.length v;have h2:=put_lit (t:=t) g l (pre ++ [v]) old post (w.setCell ⟨g,pre.length,none⟩ v) (by simpa using hl) (by
   rw [h1];simp)
  simp only [List.length_append,List.length_cons,List.length_nil,Nat.zero_add,List.append_assoc,List.cons_append,List.nil_append] at h2;simp only [List.append_assoc,List.cons_append];exact h2
theorem On.put {α : Type} {d : Kd α} {S : Nat → Prop} {A : Option Addr} {c : Nat} {xs : List α} (hK : ∀ (w w1 : World) x cs,d.K w x cs → d.K w1 x cs) (g : Nat) (hS : ∀ k,S k → k ≠ g) : ∀ (l : List Value) (w : World) (i : Nat),On d w S A c xs → On d (put_ w g i l) S A c xs
 | [],w,i,h=>h
 | v :: l,w,i,h=>On.put hK g hS l _ _ (h.far hK (p:=⟨g,i,none⟩) hS v)
theorem On.drewN {α : Type} {d : Kd α} {S : Nat → Prop} {A : Option Addr} {c : Nat} {l : List α} {w : World} (h : On d w S A c l) (n : Nat) : On d (w.drewN n) S A c l:=h.below ⟨rfl,rfl,rfl,zM _,fun _ _=>rfl⟩
section
variable {w w1 : World} {g g' : Nat}
theorem far_ {lo : Nat} {l : List Value} {x : Option Obj} (hw : w1 = put_ w g lo l) (hn : g' ≠ g) (h : w.heap[g']? = x) : w1.heap[g']? = x:=by rw [hw,put_far _ _ hn];exact h
theorem bel_ {B lo : Nat} {l : List Value} {w0 : World} (hw : w1 = put_ w g lo l) (hg : B ≤ g) (h : Below B w0 w) : Below B w0 w1:=hw ▸ put_below g hg l w lo h
theorem siz_ {n lo : Nat} {l : List Value} (hw : w1 = put_ w g lo l) (h : n ≤ w.heap.size) : n ≤ w1.heap.size:=by rw [hw,put_size];exact h
theorem On.puts {α : Type} {d : Kd α} {S : Nat → Prop} {A : Option Addr} {c lo : Nat} {xs : List α} {l : List Value} (h : On d w S A c xs) (hw : w1 = put_ w g lo l) (hK : ∀ (w w1 : World) x cs,d.K w x cs → d.K w1 x cs) (hS : ∀ k,S k → k ≠ g) : On d w1 S A c xs:=hw ▸ On.put hK g hS l w lo h
theorem keep_ {w2 : World} {o : Obj} (h : w1.heap[g]? = w.heap[g]?) (B : w.heap[g]? = some o) (hx : Below w1.heap.size w1 w2) : w2.heap[g]? = w.heap[g]?:=(zC (h.trans B) hx).trans B.symm
theorem keepi_ {w2 : World} {o o' : Obj} {c : Prop} [Decidable c] (h : w1.heap[g]? = if c then some o' else w.heap[g]?) (B : w.heap[g]? = some o) (hx : Below w1.heap.size w1 w2) : w2.heap[g]? = if c then some o' else w.heap[g]?:=by
 by_cases hc : c
 ·rw [if_pos hc] at h ⊢;exact zC h hx
 ·rw [if_neg hc] at h ⊢;exact keep_ h B hx
end
theorem al1_0 {w w1 : World} {o0 : Obj} (h : w.alloc o0 = w1) : w1.heap[w.heap.size]? = some o0:=by subst h;exact yL w o0
theorem al1B {w w1 : World} {o0 : Obj} (h : w.alloc o0 = w1) : Below w.heap.size w w1:=h ▸ (zS _ w).alloc (zM _) o0
theorem al2_0 {w w1 : World} {o0 o1 : Obj} (h : (w.alloc o0).alloc o1 = w1) : w1.heap[w.heap.size]? = some o0:=by subst h;exact yE (yL w o0) o1
theorem al2_1 {w w1 : World} {o0 o1 : Obj} (h : (w.alloc o0).alloc o1 = w1) : w1.heap[w.heap.size + 1]? = some o1:=by subst h;simpa using yL (w.alloc o0) o1
theorem al2B {w w1 : World} {o0 o1 : Obj} (h : (w.alloc o0).alloc o1 = w1) : Below w.heap.size w w1:=h ▸ ((zS _ w).alloc (zM _) o0).alloc (by simp;try omega) o1
theorem al3_0 {w w1 : World} {o0 o1 o2 : Obj} (h : ((w.alloc o0).alloc o1).alloc o2 = w1) : w1.heap[w.heap.size]? = some o0:=by subst h;exact yE (yE (yL w o0) o1) o2
theorem al3_1 {w w1 : World} {o0 o1 o2 : Obj} (h : ((w.alloc o0).alloc o1).alloc o2 = w1) : w1.heap[w.heap.size + 1]? = some o1:=by subst h;simpa using yE (yL (w.alloc o0) o1) o2
theorem al3_2 {w w1 : World} {o0 o1 o2 : Obj} (h : ((w.alloc o0).alloc o1).alloc o2 = w1) : w1.heap[w.heap.size + 1 + 1]? = some o2:=by subst h;simpa using yL ((w.alloc o0).alloc o1) o2
theorem al3B {w w1 : World} {o0 o1 o2 : Obj} (h : ((w.alloc o0).alloc o1).alloc o2 = w1) : Below w.heap.size w w1:=h ▸ (((zS _ w).alloc (zM _) o0).alloc (by simp;try omega) o1).alloc (by simp;try omega) o2
theorem al4B {w w1 : World} {o0 o1 o2 o3 : Obj} (h : (((w.alloc o0).alloc o1).alloc o2).alloc o3 = w1) : Below w.heap.size w w1:=h ▸ ((((zS _ w).alloc (zM _) o0).alloc (by simp;try omega) o1).alloc (by simp;try omega) o2).alloc (by simp;try omega) o3
theorem own13_0_13 {w w1 : World} {g : Nat} {t : TypeId} {o0 o1 o2 o3 o4 o5 o6 o7 o8 o9 o10 o11 o12 v0 v1 v2 v3 v4 v5 v6 v7 v8 v9 v10 v11 v12 : Value} (hw : w1 = put_ w g 0 [v0,v1,v2,v3,v4,v5,v6,v7,v8,v9,v10,v11,v12]) (h : w.heap[g]? = some (.cells #[o0,o1,o2,o3,o4,o5,o6,o7,o8,o9,o10,o11,o12] t (0,0))) : w1.heap[g]? = some (.cells #[v0,v1,v2,v3,v4,v5,v6,v7,v8,v9,v10,v11,v12] t (0,0)):=hw ▸ put_lit g [v0,v1,v2,v3,v4,v5,v6,v7,v8,v9,v10,v11,v12] [] [o0,o1,o2,o3,o4,o5,o6,o7,o8,o9,o10,o11,o12] [] w rfl h
theorem own12_0_12 {w w1 : World} {g : Nat} {t : TypeId} {o0 o1 o2 o3 o4 o5 o6 o7 o8 o9 o10 o11 v0 v1 v2 v3 v4 v5 v6 v7 v8 v9 v10 v11 : Value} (hw : w1 = put_ w g 0 [v0,v1,v2,v3,v4,v5,v6,v7,v8,v9,v10,v11]) (h : w.heap[g]? = some (.cells #[o0,o1,o2,o3,o4,o5,o6,o7,o8,o9,o10,o11] t (0,0))) : w1.heap[g]? = some (.cells #[v0,v1,v2,v3,v4,v5,v6,v7,v8,v9,v10,v11] t (0,0)):=hw ▸ put_lit g [v0,v1,v2,v3,v4,v5,v6,v7,v8,v9,v10,v11] [] [o0,o1,o2,o3,o4,o5,o6,o7,o8,o9,o10,o11] [] w rfl h
theorem own13_6_7 {w w1 : World} {g : Nat} {t : TypeId} {o0 o1 o2 o3 o4 o5 o6 o7 o8 o9 o10 o11 o12 v0 v1 v2 v3 v4 v5 v6 : Value} (hw : w1 = put_ w g 6 [v0,v1,v2,v3,v4,v5,v6]) (h : w.heap[g]? = some (.cells #[o0,o1,o2,o3,o4,o5,o6,o7,o8,o9,o10,o11,o12] t (0,0))) : w1.heap[g]? = some (.cells #[o0,o1,o2,o3,o4,o5,v0,v1,v2,v3,v4,v5,v6] t (0,0)):=hw ▸ put_lit g [v0,v1,v2,v3,v4,v5,v6] [o0,o1,o2,o3,o4,o5] [o6,o7,o8,o9,o10,o11,o12] [] w rfl h
theorem own7_0_7 {w w1 : World} {g : Nat} {t : TypeId} {o0 o1 o2 o3 o4 o5 o6 v0 v1 v2 v3 v4 v5 v6 : Value} (hw : w1 = put_ w g 0 [v0,v1,v2,v3,v4,v5,v6]) (h : w.heap[g]? = some (.cells #[o0,o1,o2,o3,o4,o5,o6] t (0,0))) : w1.heap[g]? = some (.cells #[v0,v1,v2,v3,v4,v5,v6] t (0,0)):=hw ▸ put_lit g [v0,v1,v2,v3,v4,v5,v6] [] [o0,o1,o2,o3,o4,o5,o6] [] w rfl h
theorem own13_4_1 {w w1 : World} {g : Nat} {t : TypeId} {o0 o1 o2 o3 o4 o5 o6 o7 o8 o9 o10 o11 o12 v0 : Value} (hw : w1 = put_ w g 4 [v0]) (h : w.heap[g]? = some (.cells #[o0,o1,o2,o3,o4,o5,o6,o7,o8,o9,o10,o11,o12] t (0,0))) : w1.heap[g]? = some (.cells #[o0,o1,o2,o3,v0,o5,o6,o7,o8,o9,o10,o11,o12] t (0,0)):=hw ▸ put_lit g [v0] [o0,o1,o2,o3] [o4] [o5,o6,o7,o8,o9,o10,o11,o12] w rfl h
theorem own13_5_1 {w w1 : World} {g : Nat} {t : TypeId} {o0 o1 o2 o3 o4 o5 o6 o7 o8 o9 o10 o11 o12 v0 : Value} (hw : w1 = put_ w g 5 [v0]) (h : w.heap[g]? = some (.cells #[o0,o1,o2,o3,o4,o5,o6,o7,o8,o9,o10,o11,o12] t (0,0))) : w1.heap[g]? = some (.cells #[o0,o1,o2,o3,o4,v0,o6,o7,o8,o9,o10,o11,o12] t (0,0)):=hw ▸ put_lit g [v0] [o0,o1,o2,o3,o4] [o5] [o6,o7,o8,o9,o10,o11,o12] w rfl h
theorem own13_9_1 {w w1 : World} {g : Nat} {t : TypeId} {o0 o1 o2 o3 o4 o5 o6 o7 o8 o9 o10 o11 o12 v0 : Value} (hw : w1 = put_ w g 9 [v0]) (h : w.heap[g]? = some (.cells #[o0,o1,o2,o3,o4,o5,o6,o7,o8,o9,o10,o11,o12] t (0,0))) : w1.heap[g]? = some (.cells #[o0,o1,o2,o3,o4,o5,o6,o7,o8,v0,o10,o11,o12] t (0,0)):=hw ▸ put_lit g [v0] [o0,o1,o2,o3,o4,o5,o6,o7,o8] [o9] [o10,o11,o12] w rfl h
theorem own1_0_1 {w w1 : World} {g : Nat} {t : TypeId} {o v : Value} (hw : w1 = put_ w g 0 [v]) (h : w.heap[g]? = some (.cells #[o] t (0,0))) : w1.heap[g]? = some (.cells #[v] t (0,0)):=hw ▸ put_lit g [v] [] [o] [] w rfl h
theorem al5B {w w1 : World} {o0 o1 o2 o3 o4 : Obj} (h : ((((w.alloc o0).alloc o1).alloc o2).alloc o3).alloc o4 = w1) : Below w.heap.size w w1:=h ▸ (((((zS _ w).alloc (zM _) o0).alloc (by simp;try omega) o1).alloc (by simp;try omega) o2).alloc (by simp;try omega) o3).alloc (by simp;try omega) o4
theorem al6_0 {w w1 : World} {o0 o1 o2 o3 o4 o5 : Obj} (h : (((((w.alloc o0).alloc o1).alloc o2).alloc o3).alloc o4).alloc o5 = w1) : w1.heap[w.heap.size]? = some o0:=by subst h;exact yE (yE (yE (yE (yE (yL w o0) o1) o2) o3) o4) o5
theorem al6_1 {w w1 : World} {o0 o1 o2 o3 o4 o5 : Obj} (h : (((((w.alloc o0).alloc o1).alloc o2).alloc o3).alloc o4).alloc o5 = w1) : w1.heap[w.heap.size + 1]? = some o1:=by subst h;simpa using yE (yE (yE (yE (yL (w.alloc o0) o1) o2) o3) o4) o5
theorem al6_2 {w w1 : World} {o0 o1 o2 o3 o4 o5 : Obj} (h : (((((w.alloc o0).alloc o1).alloc o2).alloc o3).alloc o4).alloc o5 = w1) : w1.heap[w.heap.size + 1 + 1]? = some o2:=by subst h;simpa using yE (yE (yE (yL ((w.alloc o0).alloc o1) o2) o3) o4) o5
theorem al6_3 {w w1 : World} {o0 o1 o2 o3 o4 o5 : Obj} (h : (((((w.alloc o0).alloc o1).alloc o2).alloc o3).alloc o4).alloc o5 = w1) : w1.heap[w.heap.size + 1 + 1 + 1]? = some o3:=by subst h;simpa using yE (yE (yL (((w.alloc o0).alloc o1).alloc o2) o3) o4) o5
theorem al6_4 {w w1 : World} {o0 o1 o2 o3 o4 o5 : Obj} (h : (((((w.alloc o0).alloc o1).alloc o2).alloc o3).alloc o4).alloc o5 = w1) : w1.heap[w.heap.size + 1 + 1 + 1 + 1]? = some o4:=by subst h;simpa using yE (yL ((((w.alloc o0).alloc o1).alloc o2).alloc o3) o4) o5
theorem al6_5 {w w1 : World} {o0 o1 o2 o3 o4 o5 : Obj} (h : (((((w.alloc o0).alloc o1).alloc o2).alloc o3).alloc o4).alloc o5 = w1) : w1.heap[w.heap.size + 1 + 1 + 1 + 1 + 1]? = some o5:=by subst h;simpa using yL (((((w.alloc o0).alloc o1).alloc o2).alloc o3).alloc o4) o5
theorem al6B {w w1 : World} {o0 o1 o2 o3 o4 o5 : Obj} (h : (((((w.alloc o0).alloc o1).alloc o2).alloc o3).alloc o4).alloc o5 = w1) : Below w.heap.size w w1:=h ▸ ((((((zS _ w).alloc (zM _) o0).alloc (by simp;try omega) o1).alloc (by simp;try omega) o2).alloc (by simp;try omega) o3).alloc (by simp;try omega) o4).alloc (by simp;try omega) o5
theorem R_puts {α : Type} {d : Kd α} {e base : Nat} {ok : Nat → Prop} {v : Value} {xs : List α} {g : Nat} (hok : ∀ k,ok k → k ≠ g) : ∀ (l : List Value) (lo : Nat) {w w1 : World},d.R e w base ok v xs → w1 = put_ w g lo l → d.R e w1 base ok v xs
 | [],lo,w,w1,h,hw=>by subst hw;exact h
 | u :: l,lo,w,w1,h,hw=>R_puts hok l (lo + 1) (Kd.R_far h (p:=⟨g,lo,none⟩) hok u) hw
end Go.Proofs.YtiminjibcafkaaaGreatDoor.X
end
section
namespace Go.Proofs.YtiminjibcafkaaaGreatDoor.X
open RowKit YtiminjibcafkaaaGreatDoorW.PrintWords YtiminjibcafkaaaGreatDoorW.PrintLast YtiminjibcafkaaaGreatDoorW.PrintMore
attribute [local go_sem] max2_int min2_int max_two min_two max_three min_three max_four min_four
theorem eqA67 (d : Nat) (w : World) (x0 y0 : Int) (x1 y1 : Int) (x2 y2 : Int) :
 (Op.equalIn (d + 2) 67 (.agg #[.int .u8 x0,.int .u32 x1,.int .u32 x2]) (.agg #[.int .u8 y0,.int .u32 y1,.int .u32 y2])).run Tryz.prog w = .ok (x0 == y0 && (x1 == y1 && (x2 == y2))) w:=by
 refine eqA_of Tryz.underlying67 (by kernel_rfl) ?_;refine eqf_cons (by rfl) (by go_simp;rfl) (by go_simp;rfl) (by go_simp) ?_;refine eqf_cons (by rfl) (by go_simp;rfl) (by go_simp;rfl) (by go_simp) ?_;exact eqf_last (by rfl) (by go_simp;rfl) (by go_simp;rfl) (by go_simp)
end Go.Proofs.YtiminjibcafkaaaGreatDoor.X
end
