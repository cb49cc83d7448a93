-- MADE BY wip/prx.py (the kit's printer, with contracts proved by hand). Not trusted: Lean checks it.
import Derived.Test.YtiminjibcafkaaaANX0
import Derived.Laws.CopyRow
namespace Go.Proofs.Ytiminjibcafkaaa.X
open Go.RowKit Go.Proofs.YtiminjibcafkaaaW.PrintWords Go.Proofs.YtiminjibcafkaaaW.PrintLast Go.Proofs.YtiminjibcafkaaaW.PrintMore
attribute [local go_sem] max2_int min2_int max_two min_two max_three min_three max_four min_four   -- for this text's walks alone
set_option linter.unusedVariables false
set_option linter.unusedSimpArgs false
--EXT Derived.Laws.CopyRow 
/-! ### common: by hand -/
/-- Rows as their elements' cells, one behind the other. -/
theorem reps_get {α : Type} {R : α → List Value → Prop} {size : Nat} {ps : List α} {cs : List Value} (h : Reps R size ps cs) (enc : α → List Value) (henc : ∀ p c, R p c → c = enc p) (hs : 0 < size) (z : α) (j : Nat) (hj : j < ps.length * size) :
    cs[j]? = (enc (ps.getD (j / size) z))[j % size]? := by
  have hd : j / size < ps.length := by rw [Nat.div_lt_iff_lt_mul hs]; exact hj
  have e := henc _ _ (h.2 (j / size) _ (List.getElem?_eq_getElem hd))
  have hz : ps.getD (j / size) z = ps[j / size] := by rw [List.getD_eq_getElem?_getD, List.getElem?_eq_getElem hd]; rfl
  rw [hz, ← e, List.getElem?_take, if_pos (Nat.mod_lt _ hs), List.getElem?_drop, Nat.mul_comm, Nat.div_add_mod]
theorem run_copy_rowK {P : Program} (w : World) (dT sT ty elem : TypeId) (g o dLen dCap : Nat) (a : Addr) (sLen sCap : Nat) (cur : Array Value) (t : TypeId) (cs : List Value) (size m : Nat)
    (hu : P.underlying dT = some (.slice elem)) (hs : (P.info? elem).map (·.size) = some size)
    (hg : w.heap[g]? = some (.cells cur t (0, 0))) (hm : Nat.min sLen dLen = m) (hn : cs.length = m * size)
    (hsrc : ∀ j v, cs[j]? = some v → w.cell? (a.add j) = some v) (hfit : o + cs.length ≤ cur.size) (h1 : ∀ v ∈ cs, v.oneCell' = true) :
    (Builtin.copy_ #[dT, sT] ty #[.slice (some ⟨g, o, none⟩) dLen dCap, .slice (some a) sLen sCap]).run P w =
      .ok (goInt m) (w.setRow g (cur.toList.take o ++ cs ++ cur.toList.drop (o + cs.length)).toArray) := by
  have hl := run_loadCells_list (P := P) w a cs hsrc
  have hst := run_storeCells_at P g o t cs 0 cur w hg (by simpa using hfit) h1
  rw [hn] at hl
  cases hq : P.info? elem with
  | none => simp [hq] at hs
  | some i =>
    have hi : i.size = size := by simpa [hq] using hs
    simp [Builtin.copy_, run_underlying hu, Builtin.lenOf, Builtin.firstCells, sizeOf, typeInfo, hq, hi, hm, hl, hst]
theorem reps_take {α : Type} {R : α → List Value → Prop} {size : Nat} {ps : List α} {cs : List Value} (h : Reps R size ps cs) (i : Nat) : Reps R size (ps.take i) (cs.take (i * size)) := by
  refine ⟨?_, fun j p hj => ?_⟩
  · rw [List.length_take, List.length_take, h.1]
    rcases Nat.le_total i ps.length with h1 | h1
    · rw [Nat.min_eq_left h1, Nat.min_eq_left (Nat.mul_le_mul_right _ h1)]
    · rw [Nat.min_eq_right h1, Nat.min_eq_right (Nat.mul_le_mul_right _ h1)]
  · rw [List.getElem?_take] at hj
    split at hj
    · rename_i hji
      have hle : j * size + size ≤ i * size := by rw [← Nat.succ_mul]; exact Nat.mul_le_mul_right _ hji
      rw [List.drop_take, List.take_take, Nat.min_eq_left (by omega)]
      exact h.2 j p hj
    · cases hj
theorem reps_drop {α : Type} {R : α → List Value → Prop} {size : Nat} {ps : List α} {cs : List Value} (h : Reps R size ps cs) (i : Nat) : Reps R size (ps.drop i) (cs.drop (i * size)) := by
  refine ⟨?_, fun j p hj => ?_⟩
  · rw [List.length_drop, List.length_drop, h.1, Nat.sub_mul]
  · rw [List.getElem?_drop] at hj
    rw [List.drop_drop, ← Nat.add_mul]
    exact h.2 (i + j) p hj
theorem wpList_copy_eq {P : Program} (w : World) {ops : Array Oper} {rest : List Oper} {o : Oper} {a : Act} {Q : Exit → Act → World → Prop} (hgd : o.guard = none) (d s : Operand) (t t' : TypeId)
    (ho : o.op = .call { callee := .builtin .copy, args := #[d, s], argTypes := #[t, t'] }) (v u : Value) (hd : a.eval d = v) (hs : a.eval s = u) {v' : Value} {w' : World}
    (hr : (Builtin.copy_ #[t, t'] o.type #[v, u]).run P w = .ok v' w') (h : wpList P ops Q rest (a.put o.dst v') w') : wpList P ops Q (o :: rest) a w := by
  refine wpList_plain hgd fun K hK => ?_
  unfold Oper.wp execOp
  simp only [ho, resolve, invoke, builtin, Sem.run_bind, Sem.run_pure, Result.andThen_ok, List.map_toArray, List.map_cons, List.map_nil, hd, hs, hr]
  exact hK _ _ h
theorem step_copy_eq {P : Program} {ops : Array Oper} {o : Oper} {a : Act} {w : World} {K : Act → World → Prop} {Q : Exit → Act → World → Prop} {E : Prop}
    (hg : o.guard = none) (d x : Operand) (dT sT : TypeId) (hop : o.op = Op.call { callee := Callee.builtin Builtin.copy, args := #[d, x], argTypes := #[dT, sT] })
    (v u : Value) (hd : a.eval d = v) (hx : a.eval x = u) {v' : Value} {w' : World} (hr : (Builtin.copy_ #[dT, sT] o.type #[v, u]).run P w = .ok v' w') (hK : K (a.put o.dst v') w') :
    if Region.wanted o (yielded ops a.tmps) = true then Oper.wp P o a w K Q else E := by
  have hw : Region.wanted o (yielded ops a.tmps) = true := by simp [Region.wanted, hg]
  rw [if_pos hw]
  unfold Oper.wp
  simp [execOp, hop, resolve, invoke, builtin, hd, hx, hr, Result.andThen]
  exact hK
theorem reps_app {α : Type} {R : α → List Value → Prop} {size : Nat} {ps qs : List α} {cs ds : List Value} (h : Reps R size ps cs) (k : Reps R size qs ds) : Reps R size (ps ++ qs) (cs ++ ds) := by
  refine ⟨by rw [List.length_append, List.length_append, h.1, k.1, Nat.add_mul], fun j p hj => ?_⟩
  rcases Nat.lt_or_ge j ps.length with hl | hl
  · rw [List.getElem?_append_left hl] at hj
    have hle : j * size + size ≤ cs.length := by rw [h.1, ← Nat.succ_mul]; exact Nat.mul_le_mul_right _ hl
    rw [List.drop_append_of_le_length (by omega), List.take_append_of_le_length (by rw [List.length_drop]; omega)]
    exact h.2 j p hj
  · rw [List.getElem?_append_right hl] at hj
    have e : j * size = cs.length + (j - ps.length) * size := by rw [h.1, ← Nat.add_mul]; congr 1; omega
    rw [e, ← List.drop_drop, List.drop_left]
    exact k.2 _ p hj
theorem reps_ins {α : Type} {R : α → List Value → Prop} {size : Nat} {ps : List α} {cs c : List Value} {x : α} {i : Nat} (h : Reps R size ps cs) (hx : R x c) (hc : c.length = size) (hi : i ≤ ps.length) :
    Reps R size (ps.take i ++ x :: ps.drop i) (cs.take (i * size) ++ c ++ cs.drop (i * size)) := by
  rw [List.append_assoc]
  exact reps_app (reps_take h i) (Reps.front hx hc (reps_drop h i) rfl)
theorem field_Entry_Kind (a b c d e f g : Int) (w : World) : (Instr.field 27 (.agg #[.int .u8 a, .int .u8 b, .int .u32 c, .int .u32 d, .int .i64 e, .int .u8 f, .int .u32 g]) 2).run Try.prog w = .ok (.int .i64 e) w := by kernel_rfl
theorem cells7 {w : World} {g : Nat} {v0 v1 v2 v3 v4 v5 v6 : Value} {t : TypeId} (h : w.heap[g]? = some (.cells #[v0, v1, v2, v3, v4, v5, v6] t (0, 0))) : w.cell? ⟨g, 0, none⟩ = some v0 ∧ w.cell? ⟨g, 1, none⟩ = some v1 ∧ w.cell? ⟨g, 2, none⟩ = some v2 ∧ w.cell? ⟨g, 3, none⟩ = some v3 ∧ w.cell? ⟨g, 4, none⟩ = some v4 ∧ w.cell? ⟨g, 5, none⟩ = some v5 ∧ w.cell? ⟨g, 6, none⟩ = some v6 :=
  ⟨(blk_cell h 0).trans rfl, (blk_cell h 1).trans rfl, (blk_cell h 2).trans rfl, (blk_cell h 3).trans rfl, (blk_cell h 4).trans rfl, (blk_cell h 5).trans rfl, (blk_cell h 6).trans rfl⟩
end Go.Proofs.Ytiminjibcafkaaa.X
