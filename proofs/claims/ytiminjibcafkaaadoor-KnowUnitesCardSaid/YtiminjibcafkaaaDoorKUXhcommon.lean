-- MADE BY wip/prx.py (the kit's printer, with contracts proved by hand). Not trusted: Lean checks it.
import Derived.Test.YtiminjibcafkaaaDoorKUJ7
import Derived.Laws.CopyRow
namespace Go.Proofs.YtiminjibcafkaaaDoor.X
open Go.RowKit Go.Proofs.YtiminjibcafkaaaDoorW.PrintWords Go.Proofs.YtiminjibcafkaaaDoorW.PrintLast Go.Proofs.YtiminjibcafkaaaDoorW.PrintMore
attribute [local go_sem] max2_int min2_int max_two min_two max_three min_three max_four min_four   -- for this text's walks alone
set_option linter.unusedVariables false
set_option linter.unusedSimpArgs false
--EXT Derived.Laws.CopyRow 
/-! ### common: by hand -/
/-- The first place at which p holds, or -1. -/
def idxL {α : Type} (p : α → Bool) : List α → Nat → Int
  | [], _ => -1
  | x :: l, i => if p x = true then (i : Int) else idxL p l (i + 1)
theorem idxL_hit {α : Type} (p : α → Bool) (z : α) : ∀ (l : List α) (i k : Nat), k < l.length → (∀ j, j < k → p (l.getD j z) = false) → p (l.getD k z) = true → idxL p l i = ((i + k : Nat) : Int) := by
  intro l
  induction l with
  | nil => intro i k hk; simp at hk
  | cons x l ih =>
    intro i k hk hf ht
    cases k with
    | zero =>
      have h1 : p x = true := by simpa using ht
      simp [idxL, h1]
    | succ k =>
      have h1 : p x = false := by simpa using hf 0 (by omega)
      simp only [idxL, h1, Bool.false_eq_true, if_false]
      rw [ih (i + 1) k (by simpa using hk) (fun j hj => by simpa using hf (j + 1) (by omega)) (by simpa using ht)]
      congr 1
      omega
theorem idxL_miss {α : Type} (p : α → Bool) (z : α) : ∀ (l : List α) (i : Nat), (∀ j, j < l.length → p (l.getD j z) = false) → idxL p l i = -1 := by
  intro l
  induction l with
  | nil => intro i _; rfl
  | cons x l ih =>
    intro i hf
    have h1 : p x = false := by simpa using hf 0 (by simp)
    simp only [idxL, h1, Bool.false_eq_true, if_false]
    exact ih (i + 1) (fun j hj => by simpa using hf (j + 1) (by simpa using hj))
theorem idxL_any {α : Type} (p : α → Bool) : ∀ (l : List α) (i : Nat), decide (0 ≤ idxL p l i) = l.any p := by
  intro l
  induction l with
  | nil => intro i; rfl
  | cons x l ih =>
    intro i
    by_cases h : p x = true
    · simp [idxL, h]
    · simp only [Bool.not_eq_true] at h
      simp only [idxL, h, Bool.false_eq_true, if_false, ih, List.any_cons, Bool.false_or]
/-- Rows as their elements' cells, one behind the other. -/
theorem reps_get {α : Type} {R : α → List Value → Prop} {size : Nat} {ps : List α} {cs : List Value} (h : Reps R size ps cs) (enc : α → List Value) (henc : ∀ p c, R p c → c = enc p) (hs : 0 < size) (z : α) (j : Nat) (hj : j < ps.length * size) :
    cs[j]? = (enc (ps.getD (j / size) z))[j % size]? := by
  have hd : j / size < ps.length := by rw [Nat.div_lt_iff_lt_mul hs]; exact hj
  have e := henc _ _ (h.2 (j / size) _ (List.getElem?_eq_getElem hd))
  have hz : ps.getD (j / size) z = ps[j / size] := by rw [List.getD_eq_getElem?_getD, List.getElem?_eq_getElem hd]; rfl
  rw [hz, ← e, List.getElem?_take, if_pos (Nat.mod_lt _ hs), List.getElem?_drop, Nat.mul_comm, Nat.div_add_mod]
theorem reps_mk {α : Type} {R : α → List Value → Prop} {size : Nat} {ps : List α} {cs : List Value} (enc : α → List Value) (hl : ∀ p, (enc p).length = size) (hR : ∀ p, R p (enc p)) (hs : 0 < size) (z : α) (hlen : cs.length = ps.length * size)
    (h : ∀ j, j < ps.length * size → cs[j]? = (enc (ps.getD (j / size) z))[j % size]?) : Reps R size ps cs := by
  refine ⟨hlen, fun j p hp => ?_⟩
  have hjl : j < ps.length := (List.getElem?_eq_some_iff.1 hp).1
  have hz : ps.getD j z = p := by rw [List.getD_eq_getElem?_getD, hp]; rfl
  have e : (cs.drop (j * size)).take size = enc p := by
    apply List.ext_getElem?
    intro i
    rw [List.getElem?_take]
    by_cases hi : i < size
    · rw [if_pos hi, List.getElem?_drop]
      have hb : j * size + i < ps.length * size := by
        have : (j + 1) * size ≤ ps.length * size := Nat.mul_le_mul_right _ hjl
        rw [Nat.add_mul, Nat.one_mul] at this
        omega
      have hq : (j * size + i) / size = j := by rw [Nat.add_comm, Nat.add_mul_div_right _ _ hs, Nat.div_eq_of_lt hi, Nat.zero_add]
      have hm : (j * size + i) % size = i := by rw [Nat.add_comm, Nat.add_mul_mod_self_right, Nat.mod_eq_of_lt hi]
      rw [h _ hb, hq, hm, hz]
    · rw [if_neg hi, List.getElem?_eq_none (by rw [hl]; omega)]
  rw [e]
  exact hR p
theorem reps_take {α : Type} {R : α → List Value → Prop} {size : Nat} {ps : List α} {cs : List Value} (h : Reps R size ps cs) (i : Nat) : Reps R size (ps.take i) (cs.take (i * size)) := by
  refine ⟨?_, fun j p hj => ?_⟩
  · rw [List.length_take, List.length_take, h.1]
    rcases Nat.le_total i ps.length with h1 | h1
    · rw [Nat.min_eq_left h1, Nat.min_eq_left (Nat.mul_le_mul_right _ h1)]
    · rw [Nat.min_eq_right h1, Nat.min_eq_right (Nat.mul_le_mul_right _ h1)]
  · rw [List.getElem?_take] at hj
    split at hj
    · rename_i hji
      have hle : j * size + size ≤ i * size := by rw [← Nat.succ_mul]; exact Nat.mul_le_mul_right _ hji
      rw [List.drop_take, List.take_take, Nat.min_eq_left (by omega)]
      exact h.2 j p hj
    · cases hj
theorem cells2 {w : World} {g : Nat} {v0 v1 : Value} {t : TypeId} (h : w.heap[g]? = some (.cells #[v0, v1] t (0, 0))) : w.cell? ⟨g, 0, none⟩ = some v0 ∧ w.cell? ⟨g, 1, none⟩ = some v1 :=
  ⟨(blk_cell h 0).trans rfl, (blk_cell h 1).trans rfl⟩
end Go.Proofs.YtiminjibcafkaaaDoor.X
