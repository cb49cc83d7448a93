/- Texts that this claim's law comes to, joined by wip/slim.py: Xpureitem, Xpureitem2, Xpuretake, Xpureany. -/
import Derived.Test.YtiminjibcafkaaaANXop
import Derived.Test.YtiminjibcafkaaaANX4
import Derived.Test.YtiminjibcafkaaaANX7
import Derived.KernelRfl
import Derived.Test.YtiminjibcafkaaaANJ9
import Derived.Test.YtiminjibcafkaaaANX5
import Derived.Test.YtiminjibcafkaaaANX9
import Derived.Test.YtiminjibcafkaaaANX10
import Derived.Test.YtiminjibcafkaaaANJ20
import Derived.Test.YtiminjibcafkaaaANX6
section
/- What the functions of layer 2 compute, in plain Lean. -/
namespace Go.Proofs.Ytiminjibcafkaaa.X
open Go.RowKit Go.Proofs.YtiminjibcafkaaaW.PrintWords Go.Proofs.YtiminjibcafkaaaW.PrintLast Go.Proofs.YtiminjibcafkaaaW.PrintMore
set_option linter.unusedVariables false
def c3 (x y z : Int) : Int := if x < y then -1 else if y < x then 1 else z
theorem Compare8_is (x y : Int) : cmp_Compare_uint8.f x y = some (c3 x y 0) := by
  unfold cmp_Compare_uint8.f cmp_isNaN_uint8.f c3
  simp
  split <;> simp_all
  split <;> simp_all
theorem Compare32_is (x y : Int) : cmp_Compare_uint32.f x y = some (c3 x y 0) := by
  unfold cmp_Compare_uint32.f cmp_isNaN_uint32.f c3
  simp
  split <;> simp_all
  split <;> simp_all
/-- Versions in their order: by stamp, by replica, by number. -/
def cmpV (a b : S25) : Int := c3 a.f2 b.f2 (c3 a.f0 b.f0 (c3 a.f1 b.f1 0))
theorem c3_neg (x y z : Int) : c3 x y z < 0 ↔ x < y ∨ (x = y ∧ z < 0) := by unfold c3; repeat' split <;> omega
theorem c3_zero (x y z : Int) : c3 x y z = 0 ↔ x = y ∧ z = 0 := by unfold c3; repeat' split <;> omega
theorem cmpV_neg (a b : S25) : cmpV a b < 0 ↔ a.f2 < b.f2 ∨ (a.f2 = b.f2 ∧ (a.f0 < b.f0 ∨ (a.f0 = b.f0 ∧ a.f1 < b.f1))) := by unfold cmpV; simp only [c3_neg]; omega
theorem cmpV_zero (a b : S25) : cmpV a b = 0 ↔ a.f2 = b.f2 ∧ a.f0 = b.f0 ∧ a.f1 = b.f1 := by unfold cmpV; simp [c3_zero]
/-- Is the first version less than the second? -/
def lessV (a b : S25) : Bool := decide (cmpV a b < 0)
theorem Less_is (a b : S25) : tidingsref02_Less.f a.f0 a.f1 a.f2 b.f0 b.f1 b.f2 = some (lessV a b) := by
  unfold tidingsref02_Less.f lessV cmpV c3
  repeat' split
  all_goals first | rfl | (simp; omega) | omega
theorem awake02 : tidingslaw02_awake.f 60 = some true := by kernel_rfl
end Go.Proofs.Ytiminjibcafkaaa.X
end
section
/- What the functions of layer 2 compute, in plain Lean: entries and lists that are right, filters, ghosts, and what is found. -/
namespace Go.Proofs.Ytiminjibcafkaaa.X
open Go.RowKit Go.Proofs.YtiminjibcafkaaaW.PrintWords Go.Proofs.YtiminjibcafkaaaW.PrintLast Go.Proofs.YtiminjibcafkaaaW.PrintMore
set_option linter.unusedVariables false
set_option linter.unusedSimpArgs false
theorem wrap64_nat (n : Nat) (h : n ≤ 4611686018427387904) : wrap64 ((n : Int) + 1) = ((n + 1 : Nat) : Int) := by unfold wrap64; omega
theorem wrap64_nat_pred (n : Nat) (h0 : 0 < n) (h : n ≤ 4611686018427387904) : wrap64 ((n : Int) - 1) = ((n - 1 : Nat) : Int) := by unfold wrap64; omega
theorem rd_nat (l : List S27) (i : Nat) : rd_T27 l (i : Int) = l.getD i z27 := rfl
theorem beqd (a b : Int) : (a == b) = decide (a = b) := rfl
theorem getD_mem {α : Type} (l : List α) (i : Nat) (z : α) (h : i < l.length) : l.getD i z ∈ l := by
  rw [List.getD_eq_getElem?_getD, List.getElem?_eq_getElem h]; exact List.getElem_mem h
def rv (v : S25) : Bool := decide (v.f0 < 8) && (decide (1 ≤ v.f1) && decide (1 ≤ v.f2))
theorem RightVer_is (v : S25) : item_RightVer.f v.f0 v.f1 v.f2 = some (rv v) := by
  unfold item_RightVer.f rv
  by_cases h1 : v.f0 < 8 <;> by_cases h2 : v.f1 ≥ 1 <;> simp [h1, h2]
  all_goals (try simp [show (1 : Int) ≤ v.f1 from h2])
  all_goals omega
theorem RightVer_is' (v : S25) : tidingsref02_RightVer.f v.f0 v.f1 v.f2 = some (rv v) := by
  unfold tidingsref02_RightVer.f rv
  by_cases h1 : v.f0 < 8 <;> by_cases h2 : v.f1 > 0
  · have h3 : (1 : Int) ≤ v.f1 := by omega
    simp [h1, h2, h3]
    omega
  · have h3 : ¬ (1 : Int) ≤ v.f1 := by omega
    simp [h1, h2, h3]
  · simp [h1]
  · simp [h1]
/-- Is an entry right? -/
def rightE (x : S27) : Bool := rv x.f1 && (decide (x.f0 < 64) && (if x.f2 = 1 then decide (x.f3 = x.f4 % 8) else if x.f2 = 2 then decide (x.f3 < 8) && decide (x.f4 = 0) else decide (x.f2 = 3) && (decide (x.f3 = 0) && decide (x.f4 = 0))))
theorem entry_is (x : S27) (h : Ok_Entry x) : item_entry.f x.f0 x.f1.f0 x.f1.f1 x.f1.f2 x.f2 x.f3 x.f4 = some (rightE x) := by
  obtain ⟨h0, h1, h2, h3, h4⟩ := h
  unfold In8 at h0 h3
  unfold In32 at h4
  have e1 : x.f3 % 4294967296 = x.f3 := by omega
  have e2 : Int.tmod x.f4 8 = x.f4 % 8 := Int.tmod_eq_emod_of_nonneg (by omega)
  unfold item_entry.f rightE
  rw [e1, e2, RightVer_is]
  clear e1 e2
  simp only [Option.bind_some]
  cases rv x.f1
  · simp only [Bool.false_and, Bool.false_eq_true, if_false]; repeat' split
    all_goals rfl
  · simp only [Bool.true_and, if_true]
    repeat' split
    all_goals first | (simp; omega) | (simp_all; done) | (simp_all; omega)
theorem RightEntry_is (k : Nat) (x : S27) (h : Ok_Entry x) : tidingsref02_RightEntry.f (k + 1) x.f0 x.f1.f0 x.f1.f1 x.f1.f2 x.f2 x.f3 x.f4 = some (rightE x) := by
  obtain ⟨h0, h1, h2, h3, h4⟩ := h
  unfold In8 at h0 h3
  unfold In32 at h4
  have e1 : x.f3 % 4294967296 = x.f3 := by omega
  have e2 : Int.tmod x.f4 8 = x.f4 % 8 := Int.tmod_eq_emod_of_nonneg (by omega)
  unfold tidingsref02_RightEntry.f rightE
  rw [RightVer_is']
  simp only [Option.bind_some, tidingsref02_RightEntry.j0]
  rw [e1, e2]
  clear e1 e2
  cases rv x.f1
  · simp
  · simp only [Bool.true_and, if_true]
    by_cases hi : x.f0 ≥ 64
    · have hi2 : ¬ x.f0 < 64 := by omega
      simp [hi, hi2]
    · have hi2 : x.f0 < 64 := by omega
      simp only [decide_eq_false hi, decide_eq_true hi2, Bool.false_eq_true, if_false, Bool.true_and, beqd]
      repeat' split
      all_goals first | (simp; done) | (simp_all; done) | (simp; omega) | (simp_all; omega)
/-- Number i of a list is right, and behind the one ahead. -/
def okB (l : List S27) (i : Nat) : Bool := rightE (l.getD i z27) && (decide (i = 0) || decide ((l.getD (i - 1) z27).f0 < (l.getD i z27).f0))
def okFrom (l : List S27) : Nat → Nat → Bool
  | 0, _ => true
  | d + 1, i => okB l i && okFrom l d (i + 1)
theorem okFrom_iff (l : List S27) : ∀ d i, okFrom l d i = true ↔ ∀ j, i ≤ j → j < i + d → okB l j = true
  | 0, i => by simp [okFrom]; intro j h1 h2; omega
  | d + 1, i => by
    simp only [okFrom, Bool.and_eq_true, okFrom_iff l d (i + 1)]
    constructor
    · rintro ⟨h1, h2⟩ j hj hk
      rcases Nat.eq_or_lt_of_le hj with e | e
      · rw [← e]; exact h1
      · exact h2 j e (by omega)
    · intro h
      exact ⟨h i (Nat.le_refl _) (by omega), fun j hj hk => h j (by omega) (by omega)⟩
/-- Are entries right? -/
def rightL (l : List S27) : Bool := okFrom l l.length 0
theorem rightL_iff (l : List S27) : rightL l = true ↔ ∀ j, j < l.length → okB l j = true := by
  unfold rightL
  rw [okFrom_iff]
  exact ⟨fun h j hj => h j (Nat.zero_le _) (by omega), fun h j _ hj => h j (by omega)⟩
theorem item_Right_from (l : List S27) (hl : l.length ≤ 4611686018427387904) (ok : ∀ z ∈ l, Ok_Entry z) : ∀ d k i : Nat, i + d = l.length → d < k → item_Right.l0 k l l (l.length : Int) (i : Int) = some (okFrom l d i) := by
  intro d
  induction d with
  | zero =>
    intro k i hi hk
    obtain ⟨k, rfl⟩ : ∃ m, k = m + 1 := ⟨k - 1, by omega⟩
    simp only [item_Right.l0, okFrom]
    rw [if_neg (by omega)]
  | succ d ih =>
    intro k i hi hk
    obtain ⟨k, rfl⟩ : ∃ m, k = m + 1 := ⟨k - 1, by omega⟩
    simp only [item_Right.l0, okFrom]
    rw [if_pos (by omega), if_pos (by omega), if_pos (by omega), rd_nat, entry_is _ (ok _ (getD_mem l i _ (by omega)))]
    simp only [Option.bind_some]
    have e := ih k (i + 1) (by omega) (by omega)
    unfold okB
    cases rightE (l.getD i z27) with
    | false => simp
    | true =>
      simp only [if_true, Bool.true_and]
      rw [wrap64_nat i (by omega), e]
      by_cases h0 : i = 0
      · subst h0; simp
      · rw [if_pos (by omega), wrap64_nat_pred i (by omega) (by omega), if_pos (by omega), if_pos (by omega), rd_nat]
        by_cases hlt : (l.getD (i - 1) z27).f0 ≥ (l.getD i z27).f0
        · rw [if_pos hlt]
          have : ¬ (l.getD (i - 1) z27).f0 < (l.getD i z27).f0 := by omega
          rw [decide_eq_false h0, decide_eq_false this]
          rfl
        · rw [if_neg hlt]
          have : (l.getD (i - 1) z27).f0 < (l.getD i z27).f0 := by omega
          rw [decide_eq_false h0, decide_eq_true this]
          rfl
theorem Right_is (l : List S27) (hl : l.length ≤ 4611686018427387904) (ok : ∀ z ∈ l, Ok_Entry z) (k : Nat) (hk : l.length < k) : item_Right.f k l = some (rightL l) := item_Right_from l hl ok l.length k 0 (by omega) hk
theorem ref_Right_from (l : List S27) (hl : l.length ≤ 4611686018427387904) (ok : ∀ z ∈ l, Ok_Entry z) : ∀ d k i : Nat, i + d = l.length → d + 1 < k → tidingsref02_Right.l0 k l (i : Int) = some (okFrom l d i) := by
  intro d
  induction d with
  | zero =>
    intro k i hi hk
    obtain ⟨k, rfl⟩ : ∃ m, k = m + 1 := ⟨k - 1, by omega⟩
    simp only [tidingsref02_Right.l0, okFrom]
    rw [if_neg (by omega)]
  | succ d ih =>
    intro k i hi hk
    obtain ⟨k, rfl⟩ : ∃ m, k = m + 1 + 1 := ⟨k - 2, by omega⟩
    simp only [tidingsref02_Right.l0, okFrom]
    rw [if_pos (by omega), if_pos (by omega), rd_nat, RightEntry_is k _ (ok _ (getD_mem l i _ (by omega)))]
    simp only [Option.bind_some]
    have e := ih (k + 1) (i + 1) (by omega) (by omega)
    simp only [tidingsref02_Right.l0] at e
    unfold okB
    cases rightE (l.getD i z27) with
    | false => simp
    | true =>
      simp only [if_true, Bool.true_and]
      rw [wrap64_nat i (by omega), e]
      by_cases h0 : i = 0
      · subst h0; simp
      · rw [if_pos (by omega), wrap64_nat_pred i (by omega) (by omega), if_pos (by omega), if_pos (by omega), rd_nat]
        by_cases hlt : (l.getD (i - 1) z27).f0 ≥ (l.getD i z27).f0
        · rw [if_pos hlt]
          have : ¬ (l.getD (i - 1) z27).f0 < (l.getD i z27).f0 := by omega
          rw [decide_eq_false h0, decide_eq_false this]
          rfl
        · rw [if_neg hlt]
          have : (l.getD (i - 1) z27).f0 < (l.getD i z27).f0 := by omega
          rw [decide_eq_false h0, decide_eq_true this]
          rfl
theorem Right_is' (l : List S27) (hl : l.length ≤ 4611686018427387904) (ok : ∀ z ∈ l, Ok_Entry z) (k : Nat) (hk : l.length + 1 < k) : tidingsref02_Right.f k l = some (rightL l) := ref_Right_from l hl ok l.length k 0 (by omega) hk
/-- What is found. -/
def findE (l : List S27) (a : Int) : S27 := (l.find? (isID a)).getD z27
theorem Find_is (l : List S27) (a : Int) : item_Find.f l a = some ((findE l a).f0, (findE l a).f1.f0, (findE l a).f1.f1, (findE l a).f1.f2, (findE l a).f2, (findE l a).f3, (findE l a).f4, (l.find? (isID a)).isSome) := by
  unfold item_Find.f findE
  cases l.find? (isID a) <;> rfl
theorem ref_Find_from (l : List S27) (a : Int) (hl : l.length ≤ 4611686018427387904) : ∀ d k i : Nat, i + d = l.length → d < k → tidingsref02_Find.l0 k l a (i : Int) = item_Find.f (l.drop i) a := by
  intro d
  induction d with
  | zero =>
    intro k i hi hk
    obtain ⟨k, rfl⟩ : ∃ m, k = m + 1 := ⟨k - 1, by omega⟩
    simp only [tidingsref02_Find.l0]
    rw [if_neg (by omega), List.drop_of_length_le (by omega)]
    rfl
  | succ d ih =>
    intro k i hi hk
    obtain ⟨k, rfl⟩ : ∃ m, k = m + 1 := ⟨k - 1, by omega⟩
    simp only [tidingsref02_Find.l0]
    rw [if_pos (by omega), if_pos (by omega), rd_nat, wrap64_nat i (by omega), ih k (i + 1) (by omega) (by omega)]
    have e : l.drop i = l.getD i z27 :: l.drop (i + 1) := by
      rw [List.getD_eq_getElem?_getD, List.getElem?_eq_getElem (by omega : i < l.length)]
      exact (List.drop_eq_getElem_cons (by omega))
    rw [e]
    unfold item_Find.f
    rw [List.find?_cons]
    by_cases h : (l.getD i z27).f0 = a
    · rw [if_pos h, show isID a (l.getD i z27) = true from decide_eq_true h]
    · rw [if_neg h, show isID a (l.getD i z27) = false from decide_eq_false h]
theorem Find_is' (l : List S27) (a : Int) (hl : l.length ≤ 4611686018427387904) (k : Nat) (hk : l.length < k) : tidingsref02_Find.f k l a = some ((findE l a).f0, (findE l a).f1.f0, (findE l a).f1.f1, (findE l a).f1.f2, (findE l a).f2, (findE l a).f3, (findE l a).f4, (l.find? (isID a)).isSome) := by
  rw [← Find_is]
  exact ref_Find_from l a hl l.length k 0 (by omega) hk
theorem Or3_any (k : Nat) (hk : 4 ≤ k) (a b c : Int) : cmp_Or_int.f k [a, b, c] = some (if a = 0 then if b = 0 then c else b else a) := by
  obtain ⟨k, rfl⟩ : ∃ m, k = m + 4 := ⟨k - 4, by omega⟩
  by_cases ha : a = 0
  · by_cases hb : b = 0
    · by_cases hc : c = 0
      · simp [cmp_Or_int.f, cmp_Or_int.l0, rd, wrap64, ha, hb, hc]
      · simp [cmp_Or_int.f, cmp_Or_int.l0, rd, wrap64, ha, hb, hc]
    · simp [cmp_Or_int.f, cmp_Or_int.l0, rd, wrap64, ha, hb]
  · simp [cmp_Or_int.f, cmp_Or_int.l0, rd, ha]
theorem Cmp_any (k : Nat) (hk : 4 ≤ k) (a b : S25) : item_Cmp.f k a.f0 a.f1 a.f2 b.f0 b.f1 b.f2 = some (cmpV a b) := by
  unfold item_Cmp.f cmpV
  rw [Compare32_is, Compare8_is, Compare32_is]
  simp only [Option.bind_some, Or3_any k hk]
  unfold c3
  congr 1
  repeat' split
  all_goals first | rfl | omega
theorem awake02_any (k : Nat) (hk : 60 ≤ k) : tidingslaw02_awake.f k = some true := by
  obtain ⟨d, rfl⟩ := Nat.exists_eq_add_of_le hk
  induction d with
  | zero => exact awake02
  | succ d ih => exact tidingslaw02_awake.mono (60 + d) true (ih (by omega))
end Go.Proofs.Ytiminjibcafkaaa.X
end
section
/- What item.Take computes, in plain Lean. -/
namespace Go.Proofs.Ytiminjibcafkaaa.X
open Go.RowKit Go.Proofs.YtiminjibcafkaaaW.PrintWords Go.Proofs.YtiminjibcafkaaaW.PrintLast Go.Proofs.YtiminjibcafkaaaW.PrintMore
set_option linter.unusedVariables false
set_option linter.unusedSimpArgs false
/-- What is held of an item behind an entry of it. -/
def updE (x e : S27) : S27 := if cmpV x.f1 e.f1 < 0 then e else if cmpV x.f1 e.f1 = 0 then (if x.f2 = 2 then (if e.f2 = 2 then x else e) else x) else x
/-- An entry is taken into entries. -/
def insE : List S27 → S27 → List S27
  | [], e => [e]
  | x :: l, e => if x.f0 < e.f0 then x :: insE l e else if x.f0 = e.f0 then updE x e :: l else e :: x :: l
theorem okB_tail (x : S27) (l : List S27) (j : Nat) (h : okB (x :: l) (j + 1) = true) : okB l j = true := by
  unfold okB at h ⊢
  simp only [Nat.add_sub_cancel, List.getD_cons_succ, Bool.and_eq_true] at h ⊢
  refine ⟨h.1, ?_⟩
  cases j with
  | zero => rfl
  | succ j => simpa using h.2
theorem rightL_cons (x : S27) (l : List S27) (h : rightL (x :: l) = true) : rightE x = true ∧ rightL l = true ∧ (∀ y ∈ l, x.f0 < y.f0) := by
  rw [rightL_iff] at h
  have h0 := h 0 (by simp)
  have hx : rightE x = true := by unfold okB at h0; simpa using h0
  have hl : ∀ j, j < l.length → okB l j = true := fun j hj => okB_tail x l j (h (j + 1) (by simpa using hj))
  refine ⟨hx, (rightL_iff l).2 hl, ?_⟩
  have key : ∀ j, j < l.length → x.f0 < (l.getD j z27).f0 := by
    intro j
    induction j with
    | zero =>
      intro hj
      have h1 := h 1 (by simpa using hj)
      unfold okB at h1
      simp only [Bool.and_eq_true, Bool.or_eq_true, decide_eq_true_eq] at h1
      rcases h1.2 with h3 | h3
      · omega
      · exact h3
    | succ j ih =>
      intro hj
      have h1 := ih (by omega)
      have h2 := hl (j + 1) hj
      unfold okB at h2
      simp only [Nat.add_sub_cancel, Bool.and_eq_true, Bool.or_eq_true, decide_eq_true_eq] at h2
      omega
  intro y hy
  obtain ⟨j, hj, rfl⟩ := List.mem_iff_getElem.1 hy
  have := key j hj
  rwa [List.getD_eq_getElem?_getD, List.getElem?_eq_getElem hj] at this
theorem rightL_of (x : S27) (l : List S27) (hx : rightE x = true) (hl : rightL l = true) (hlt : ∀ y ∈ l, x.f0 < y.f0) : rightL (x :: l) = true := by
  rw [rightL_iff] at hl ⊢
  intro j hj
  cases j with
  | zero => unfold okB; simpa using hx
  | succ j =>
    have h1 := hl j (by simpa using hj)
    unfold okB at h1 ⊢
    simp only [Nat.add_sub_cancel, List.getD_cons_succ, Bool.and_eq_true] at h1 ⊢
    refine ⟨h1.1, ?_⟩
    cases j with
    | zero =>
      have hm := hlt (l.getD 0 z27) (getD_mem l 0 _ (by simpa using hj))
      simp only [Bool.or_eq_true, decide_eq_true_eq]
      exact .inr hm
    | succ j => simpa using h1.2
theorem rightL_nil : rightL [] = true := rfl
theorem incB_right : ∀ l : List S27, rightL l = true → incB l = true
  | [], _ => rfl
  | x :: l, h => by
    obtain ⟨_, h1, h2⟩ := rightL_cons x l h
    simp only [incB, Bool.and_eq_true, List.all_eq_true, decide_eq_true_eq]
    exact ⟨h2, incB_right l h1⟩
theorem low_zero (t : Int) : ∀ l : List S27, (∀ y ∈ l, ¬ y.f0 < t) → lowB t l = 0 := by
  intro l h
  unfold lowB
  rw [List.countP_eq_zero]
  intro y hy
  simpa using h y hy
/-- Behind the search: the place of the entry, or where it is put in. -/
theorem low_ins (e : S27) : ∀ l : List S27, incB l = true →
    ((lowB e.f0 l < l.length ∧ (l.getD (lowB e.f0 l) z27).f0 = e.f0) → insE l e = l.set (lowB e.f0 l) (updE (l.getD (lowB e.f0 l) z27) e)) ∧
    (¬ (lowB e.f0 l < l.length ∧ (l.getD (lowB e.f0 l) z27).f0 = e.f0) → insE l e = l.take (lowB e.f0 l) ++ e :: l.drop (lowB e.f0 l)) ∧ lowB e.f0 l ≤ l.length
  | [], _ => ⟨fun h => by simp at h, fun _ => rfl, Nat.le_refl _⟩
  | x :: l, h => by
    simp only [incB, Bool.and_eq_true, List.all_eq_true, decide_eq_true_eq] at h
    obtain ⟨h1, h2⟩ := h
    obtain ⟨i1, i2, i3⟩ := low_ins e l h2
    by_cases hlt : x.f0 < e.f0
    · have hlow : lowB e.f0 (x :: l) = lowB e.f0 l + 1 := by unfold lowB; rw [List.countP_cons_of_pos (by simpa using hlt)]
      rw [hlow]
      simp only [insE, if_pos hlt, List.length_cons, List.getD_cons_succ, List.set_cons_succ, List.take_succ_cons, List.drop_succ_cons, List.cons_append]
      refine ⟨fun hh => ?_, fun hh => ?_, by omega⟩
      · rw [i1 ⟨by omega, hh.2⟩]
      · rw [i2 (fun hq => hh ⟨by omega, hq.2⟩)]
    · have hlow : lowB e.f0 (x :: l) = 0 := low_zero _ _ (by
        intro y hy
        rcases List.mem_cons.1 hy with rfl | hy
        · exact hlt
        · have := h1 y hy; omega)
      rw [hlow]
      simp only [insE, if_neg hlt, List.length_cons, List.getD_cons_zero, List.set_cons_zero, List.take_zero, List.drop_zero, List.nil_append]
      refine ⟨fun hh => ?_, fun hh => ?_, by omega⟩
      · rw [if_pos hh.2]
      · rw [if_neg (fun hq => hh ⟨by omega, hq⟩)]
theorem set_same (l : List S27) (i : Nat) (h : i < l.length) : l.set i (l.getD i z27) = l := by
  rw [List.getD_eq_getElem?_getD, List.getElem?_eq_getElem h]
  exact List.set_getElem_self h
theorem Take_is (l : List S27) (e : S27) (hl : l.length ≤ 1000000) (ok : ∀ z ∈ l, Ok_Entry z) (oe : Ok_Entry e) (k : Nat) (hk : l.length + 5 < k) :
    item_Take.f k l e.f0 e.f1.f0 e.f1.f1 e.f1.f2 e.f2 e.f3 e.f4 = some (if (rightL l && rightE e) = true then (insE l e, none) else ([], some 9)) := by
  obtain ⟨k, rfl⟩ : ∃ m, k = m + 1 := ⟨k - 1, by omega⟩
  unfold item_Take.f
  rw [Right_is l (by omega) ok (k + 1) (by omega), entry_is e oe]
  simp only [Option.bind_some]
  cases hr : rightL l with
  | false => simp [item_Take.j0]
  | true =>
    cases he : rightE e with
    | false => simp [item_Take.j0]
    | true =>
      simp only [Bool.and_self, if_true, Bool.not_true, item_Take.j0, Bool.false_eq_true, if_false]
      have hinc := incB_right l hr
      obtain ⟨i1, i2, i3⟩ := low_ins e l hinc
      have hB : slices_BinarySearchFunc_Entry_uint8.f l e.f0 = some ((lowB e.f0 l : Int), decide (lowB e.f0 l < l.length) && decide ((l.getD (lowB e.f0 l) z27).f0 = e.f0)) := by
        unfold slices_BinarySearchFunc_Entry_uint8.f
        rw [if_pos hinc, if_pos (by omega)]
      have hC : slices_Clone_Entry.f l = some l := by unfold slices_Clone_Entry.f; rw [if_pos (by omega)]
      rw [hB, hC]
      simp only [Option.bind_some]
      by_cases hf : lowB e.f0 l < l.length ∧ (l.getD (lowB e.f0 l) z27).f0 = e.f0
      · have hd : (decide (lowB e.f0 l < l.length) && decide ((l.getD (lowB e.f0 l) z27).f0 = e.f0)) = true := by simpa using hf
        rw [hd]
        simp only [if_true]
        rw [if_pos (by omega), if_pos (by omega), rd_nat, Cmp_any k (by omega) (l.getD (lowB e.f0 l) z27).f1 e.f1, i1 hf]
        have hs := set_same l (lowB e.f0 l) hf.1
        generalize l.getD (lowB e.f0 l) z27 = x at hs ⊢
        simp only [Option.bind_some, Int.toNat_natCast, updE]
        repeat' split
        all_goals first | rfl | (rw [hs])
      · have hd : (decide (lowB e.f0 l < l.length) && decide ((l.getD (lowB e.f0 l) z27).f0 = e.f0)) = false := by
          rw [Bool.eq_false_iff]; intro hh; exact hf (by simpa using hh)
        rw [hd, i2 hf]
        simp only [Bool.false_eq_true, if_false, slices_Insert_Entry.f]
        rw [if_pos (by omega), if_pos (by omega), if_pos (by omega)]
        simp only [Option.bind_some, Int.toNat_natCast]
/-- What is put in is among what is there behind it. -/
theorem insE_mem (l : List S27) (e : S27) : ∀ y ∈ insE l e, y = e ∨ y ∈ l := by
  induction l with
  | nil => intro y hy; simp only [insE, List.mem_singleton] at hy; exact .inl hy
  | cons x l ih =>
    intro y hy
    simp only [insE] at hy
    split at hy
    · rcases List.mem_cons.1 hy with rfl | hy
      · exact .inr (by simp)
      · rcases ih y hy with h | h
        · exact .inl h
        · exact .inr (by simp [h])
    · split at hy
      · rcases List.mem_cons.1 hy with rfl | hy
        · unfold updE
          repeat' split
          all_goals simp
        · exact .inr (by simp [hy])
      · rcases List.mem_cons.1 hy with rfl | hy
        · exact .inl rfl
        · exact .inr hy
theorem updE_id (x e : S27) (h : x.f0 = e.f0) : (updE x e).f0 = e.f0 := by
  unfold updE
  repeat' split
  all_goals first | rfl | exact h
theorem updE_right (x e : S27) (hx : rightE x = true) (he : rightE e = true) : rightE (updE x e) = true := by
  unfold updE
  repeat' split
  all_goals assumption
theorem insE_right : ∀ (l : List S27) (e : S27), rightL l = true → rightE e = true → rightL (insE l e) = true
  | [], e, _, he => rightL_of e [] he rightL_nil (fun y hy => by cases hy)
  | x :: l, e, h, he => by
    obtain ⟨hx, hl, hlt⟩ := rightL_cons x l h
    simp only [insE]
    split
    · rename_i h1
      refine rightL_of x _ hx (insE_right l e hl he) (fun y hy => ?_)
      rcases insE_mem l e y hy with rfl | hy
      · exact h1
      · exact hlt y hy
    · split
      · rename_i h1 h2
        refine rightL_of _ l (updE_right x e hx he) hl (fun y hy => ?_)
        rw [updE_id x e h2, ← h2]
        exact hlt y hy
      · rename_i h1 h2
        refine rightL_of e (x :: l) he h (fun y hy => ?_)
        rcases List.mem_cons.1 hy with rfl | hy
        · omega
        · have := hlt y hy; omega
theorem insE_length (l : List S27) (e : S27) : (insE l e).length ≤ l.length + 1 := by
  induction l with
  | nil => simp [insE]
  | cons x l ih =>
    simp only [insE]
    split
    · simpa using ih
    · split <;> simp
theorem insE_ok (l : List S27) (e : S27) (ok : ∀ z ∈ l, Ok_Entry z) (oe : Ok_Entry e) : ∀ z ∈ insE l e, Ok_Entry z := by
  intro z hz
  rcases insE_mem l e z hz with rfl | h
  · exact oe
  · exact ok z h
end Go.Proofs.Ytiminjibcafkaaa.X
end
section
/- The law ItemAny in plain Lean: whatever order entries are taken in, the same versions are held. -/
namespace Go.Proofs.Ytiminjibcafkaaa.X
open Go.RowKit Go.Proofs.YtiminjibcafkaaaW.PrintWords Go.Proofs.YtiminjibcafkaaaW.PrintLast Go.Proofs.YtiminjibcafkaaaW.PrintMore
set_option linter.unusedVariables false
set_option linter.unusedSimpArgs false
theorem ver_ext {a b : S25} (h0 : a.f0 = b.f0) (h1 : a.f1 = b.f1) (h2 : a.f2 = b.f2) : a = b := by
  obtain ⟨p, q, s⟩ := a
  obtain ⟨p', q', s'⟩ := b
  simp only at h0 h1 h2
  subst h0 h1 h2
  rfl
theorem ver_eq {a b : S25} (h : cmpV a b = 0) : a = b := by
  obtain ⟨h1, h2, h3⟩ := (cmpV_zero a b).1 h
  exact ver_ext h2 h3 h1
/-- The version that is held of an item. -/
def vmap (l : List S27) (id : Int) : Option S25 := (l.find? (isID id)).map (·.f1)
def mxV (u v : S25) : S25 := if cmpV u v < 0 then v else u
def mxO : Option S25 → S25 → Option S25
  | none, v => some v
  | some u, v => some (mxV u v)
def stepV (e : S27) (id : Int) (o : Option S25) : Option S25 := if id = e.f0 then mxO o e.f1 else o
theorem vmap_cons (x : S27) (l : List S27) (id : Int) : vmap (x :: l) id = if x.f0 = id then some x.f1 else vmap l id := by
  unfold vmap
  rw [List.find?_cons]
  by_cases h : x.f0 = id
  · rw [if_pos h, show isID id x = true from decide_eq_true h]; rfl
  · rw [if_neg h, show isID id x = false from decide_eq_false h]
theorem vmap_none : ∀ (l : List S27) (id : Int), (∀ y ∈ l, id < y.f0) → vmap l id = none
  | [], _, _ => rfl
  | x :: l, id, h => by
    rw [vmap_cons, if_neg (by have := h x (by simp); omega)]
    exact vmap_none l id (fun y hy => h y (by simp [hy]))
theorem ins_vmap (e : S27) (id : Int) : ∀ l : List S27, incB l = true → vmap (insE l e) id = stepV e id (vmap l id)
  | [], _ => by
    simp only [insE]
    rw [vmap_cons]
    unfold stepV vmap
    by_cases h : id = e.f0
    · rw [if_pos h.symm, if_pos h]; rfl
    · rw [if_neg (fun h2 => h h2.symm), if_neg h]
  | x :: l, h => by
    simp only [incB, Bool.and_eq_true, List.all_eq_true, decide_eq_true_eq] at h
    have ih := ins_vmap e id l h.2
    simp only [insE]
    by_cases h1 : x.f0 < e.f0
    · rw [if_pos h1, vmap_cons, vmap_cons, ih]
      by_cases h2 : x.f0 = id
      · rw [if_pos h2, if_pos h2]
        unfold stepV
        rw [if_neg (by omega)]
      · rw [if_neg h2, if_neg h2]
    · rw [if_neg h1]
      by_cases h2 : x.f0 = e.f0
      · rw [if_pos h2, vmap_cons, vmap_cons, updE_id x e h2]
        unfold stepV
        by_cases h3 : id = e.f0
        · rw [if_pos h3.symm, if_pos h3, if_pos (by omega)]
          show some (updE x e).f1 = some (mxV x.f1 e.f1)
          congr 1
          unfold updE mxV
          by_cases h4 : cmpV x.f1 e.f1 < 0
          · rw [if_pos h4, if_pos h4]
          · rw [if_neg h4, if_neg h4]
            by_cases h5 : cmpV x.f1 e.f1 = 0
            · rw [if_pos h5]
              have := ver_eq h5
              repeat' split
              all_goals first | rfl | exact this.symm
            · rw [if_neg h5]
        · rw [if_neg (fun h4 => h3 h4.symm), if_neg h3, if_neg (by omega)]
      · rw [if_neg h2, vmap_cons]
        unfold stepV
        by_cases h3 : id = e.f0
        · rw [if_pos h3.symm, if_pos h3, vmap_none (x :: l) id (fun y hy => by
            rcases List.mem_cons.1 hy with rfl | hy
            · omega
            · have := h.1 y hy; omega)]
          rfl
        · rw [if_neg (fun h4 => h3 h4.symm), if_neg h3]
theorem mxV_comm3 (u a b : S25) : mxV (mxV u a) b = mxV (mxV u b) a := by
  unfold mxV
  have k1 := cmpV_neg u a
  have k2 := cmpV_neg u b
  have k3 := cmpV_neg a b
  have k4 := cmpV_neg b a
  by_cases h1 : cmpV u a < 0
  · rw [if_pos h1]
    by_cases h2 : cmpV u b < 0
    · rw [if_pos h2]
      by_cases h3 : cmpV a b < 0
      · rw [if_pos h3, if_neg (by rw [k3] at h3; rw [k4]; omega)]
      · rw [if_neg h3]
        by_cases h4 : cmpV b a < 0
        · rw [if_pos h4]
        · rw [if_neg h4]
          rw [k3] at h3
          rw [k4] at h4
          exact ver_ext (by omega) (by omega) (by omega)
    · rw [if_neg h2, if_pos h1, if_neg (by rw [k1] at h1; rw [k2] at h2; rw [k3]; omega)]
  · rw [if_neg h1]
    by_cases h2 : cmpV u b < 0
    · rw [if_pos h2, if_neg (by rw [k1] at h1; rw [k2] at h2; rw [k4]; omega)]
    · rw [if_neg h2, if_neg h1]
theorem mxV_comm (a b : S25) : mxV a b = mxV b a := by
  unfold mxV
  have k3 := cmpV_neg a b
  have k4 := cmpV_neg b a
  by_cases h3 : cmpV a b < 0
  · rw [if_pos h3, if_neg (by rw [k3] at h3; rw [k4]; omega)]
  · rw [if_neg h3]
    by_cases h4 : cmpV b a < 0
    · rw [if_pos h4]
    · rw [if_neg h4]
      rw [k3] at h3
      rw [k4] at h4
      exact ver_ext (by omega) (by omega) (by omega)
theorem mxV_self (a : S25) : mxV a a = a := by unfold mxV; split <;> rfl
theorem mxV_idem (u a : S25) : mxV (mxV u a) a = mxV u a := by
  rw [mxV_comm u a]
  unfold mxV
  have k1 := cmpV_neg a u
  have k2 := cmpV_neg u a
  by_cases h : cmpV a u < 0
  · rw [if_pos h, if_neg (by rw [k1] at h; rw [k2]; omega)]
  · rw [if_neg h]; split <;> rfl
theorem stepV_comm (e f : S27) (id : Int) (o : Option S25) : stepV e id (stepV f id o) = stepV f id (stepV e id o) := by
  unfold stepV
  by_cases h1 : id = e.f0
  · by_cases h2 : id = f.f0
    · rw [if_pos h1, if_pos h2, if_pos h2, if_pos h1]
      cases o with
      | none => show some (mxV f.f1 e.f1) = some (mxV e.f1 f.f1); rw [mxV_comm]
      | some u => show some (mxV (mxV u f.f1) e.f1) = some (mxV (mxV u e.f1) f.f1); rw [mxV_comm3]
    · rw [if_pos h1, if_neg h2, if_neg h2, if_pos h1]
  · by_cases h2 : id = f.f0
    · rw [if_neg h1, if_pos h2, if_pos h2, if_neg h1]
    · rw [if_neg h1, if_neg h2, if_neg h2, if_neg h1]
theorem stepV_idem (e : S27) (id : Int) (o : Option S25) : stepV e id (stepV e id o) = stepV e id o := by
  unfold stepV
  by_cases h1 : id = e.f0
  · rw [if_pos h1, if_pos h1]
    cases o with
    | none => show some (mxV e.f1 e.f1) = some e.f1; rw [mxV_self]
    | some u => show some (mxV (mxV u e.f1) e.f1) = some (mxV u e.f1); rw [mxV_idem]
  · rw [if_neg h1, if_neg h1]
theorem stepV_le (e : S27) (id : Int) (u : S25) : ∃ v, stepV e id (some u) = some v ∧ ¬ cmpV v u < 0 := by
  unfold stepV
  have hs : ¬ cmpV u u < 0 := by rw [cmpV_neg]; omega
  by_cases h1 : id = e.f0
  · rw [if_pos h1]
    refine ⟨mxV u e.f1, rfl, ?_⟩
    unfold mxV
    by_cases h : cmpV u e.f1 < 0
    · rw [if_pos h]; rw [cmpV_neg] at h ⊢; omega
    · rw [if_neg h]; exact hs
  · rw [if_neg h1]; exact ⟨u, rfl, hs⟩
theorem nlt_trans {a b c : S25} (h1 : ¬ cmpV a b < 0) (h2 : ¬ cmpV b c < 0) : ¬ cmpV a c < 0 := by rw [cmpV_neg] at *; omega
/-- The entry of a number. -/
def E3 (e0 e1 e2 : S27) (j : Int) : S27 := if j = 0 then e0 else if j = 1 then e1 else e2
theorem E3_in (e0 e1 e2 : S27) (j : Int) : E3 e0 e1 e2 j = e0 ∨ E3 e0 e1 e2 j = e1 ∨ E3 e0 e1 e2 j = e2 := by
  unfold E3
  repeat' split
  all_goals simp
theorem any_turns (e0 e1 e2 : S27) (id : Int) (o : Option S25) (a n m c : Int) (ha : 0 ≤ a ∧ a < 3) (hc : 0 ≤ c ∧ c < 3) (hn : 0 ≤ n) (hm : m = 0 ∨ m = 1) :
    stepV (E3 e0 e1 e2 a) id (stepV (E3 e0 e1 e2 2) id (stepV (E3 e0 e1 e2 1) id (stepV (E3 e0 e1 e2 0) id o))) =
    stepV (E3 e0 e1 e2 c) id (stepV (E3 e0 e1 e2 ((n + 2 - m) % 3)) id (stepV (E3 e0 e1 e2 ((n + 1 + m) % 3)) id (stepV (E3 e0 e1 e2 (n % 3)) id o))) := by
  have z0 : E3 e0 e1 e2 0 = e0 := rfl
  have z1 : E3 e0 e1 e2 1 = e1 := rfl
  have z2 : E3 e0 e1 e2 2 = e2 := rfl
  have C := fun e f o => stepV_comm e f id o
  have I := fun e o => stepV_idem e id o
  have ab : ∀ j : Int, (0 ≤ j ∧ j < 3) → stepV (E3 e0 e1 e2 j) id (stepV e2 id (stepV e1 id (stepV e0 id o))) = stepV e2 id (stepV e1 id (stepV e0 id o)) := by
    intro j hj
    rcases (show j = 0 ∨ j = 1 ∨ j = 2 by omega) with rfl | rfl | rfl
    · rw [z0, C e0 e2, C e0 e1, I]
    · rw [z1, C e1 e2, I]
    · rw [z2, I]
  have pm : stepV (E3 e0 e1 e2 ((n + 2 - m) % 3)) id (stepV (E3 e0 e1 e2 ((n + 1 + m) % 3)) id (stepV (E3 e0 e1 e2 (n % 3)) id o)) = stepV e2 id (stepV e1 id (stepV e0 id o)) := by
    rcases (show n % 3 = 0 ∨ n % 3 = 1 ∨ n % 3 = 2 by omega) with h | h | h
    · rcases hm with rfl | rfl
      · rw [h, show (n + 1 + 0) % 3 = 1 by omega, show (n + 2 - 0) % 3 = 2 by omega, z0, z1, z2]
      · rw [h, show (n + 1 + 1) % 3 = 2 by omega, show (n + 2 - 1) % 3 = 1 by omega, z0, z1, z2, C e1 e2]
    · rcases hm with rfl | rfl
      · rw [h, show (n + 1 + 0) % 3 = 2 by omega, show (n + 2 - 0) % 3 = 0 by omega, z0, z1, z2, C e0 e2, C e0 e1]
      · rw [h, show (n + 1 + 1) % 3 = 0 by omega, show (n + 2 - 1) % 3 = 2 by omega, z0, z1, z2, C e0 e1]
    · rcases hm with rfl | rfl
      · rw [h, show (n + 1 + 0) % 3 = 0 by omega, show (n + 2 - 0) % 3 = 1 by omega, z0, z1, z2, C e0 e2, C e1 e2]
      · rw [h, show (n + 1 + 1) % 3 = 1 by omega, show (n + 2 - 1) % 3 = 0 by omega, z0, z1, z2, C e1 e2, C e0 e2, C e0 e1]
  rw [pm, z0, z1, z2, ab a ha, ab c hc]
theorem vmap_ext : ∀ x y : List S27, incB x = true → incB y = true → (∀ id, vmap x id = vmap y id) → x.map (fun e => (e.f0, e.f1)) = y.map (fun e => (e.f0, e.f1))
  | [], [], _, _, _ => rfl
  | [], b :: y, _, _, h => by have := h b.f0; rw [vmap_cons, if_pos rfl] at this; cases this
  | a :: x, [], _, _, h => by have := h a.f0; rw [vmap_cons, if_pos rfl] at this; cases this
  | a :: x, b :: y, hx, hy, h => by
    simp only [incB, Bool.and_eq_true, List.all_eq_true, decide_eq_true_eq] at hx hy
    have ha := h a.f0
    have hb := h b.f0
    have e0 : a.f0 = b.f0 := by
      rcases Int.lt_trichotomy a.f0 b.f0 with hlt | he | hlt
      · rw [vmap_cons, if_pos rfl, vmap_none (b :: y) a.f0 (fun z hz => by
          rcases List.mem_cons.1 hz with rfl | hz
          · exact hlt
          · have := hy.1 z hz; omega)] at ha
        cases ha
      · exact he
      · rw [vmap_cons b y, if_pos rfl, vmap_none (a :: x) b.f0 (fun z hz => by
          rcases List.mem_cons.1 hz with rfl | hz
          · exact hlt
          · have := hx.1 z hz; omega)] at hb
        cases hb
    rw [vmap_cons, vmap_cons, if_pos rfl, if_pos e0.symm] at ha
    have e1 : a.f1 = b.f1 := Option.some.inj ha
    rw [List.map_cons, List.map_cons, e0, e1]
    congr 1
    refine vmap_ext x y hx.2 hy.2 (fun id => ?_)
    have hi := h id
    rw [vmap_cons, vmap_cons] at hi
    by_cases hid : a.f0 = id
    · rw [vmap_none x id (fun z hz => by have := hx.1 z hz; omega), vmap_none y id (fun z hz => by have := hy.1 z hz; omega)]
    · rw [if_neg hid, if_neg (by omega)] at hi
      exact hi
theorem vmap_at : ∀ (x : List S27), incB x = true → ∀ i, i < x.length → vmap x (x.getD i z27).f0 = some (x.getD i z27).f1
  | a :: x, h, i, hi => by
    simp only [incB, Bool.and_eq_true, List.all_eq_true, decide_eq_true_eq] at h
    cases i with
    | zero => rw [vmap_cons]; simp
    | succ i =>
      rw [List.getD_cons_succ, vmap_cons, if_neg (by have := h.1 _ (getD_mem x i z27 (by simpa using hi)); omega)]
      exact vmap_at x h.2 i (by simpa using hi)
/-- Four entries, taken one behind the other. -/
def four (l : List S27) (a b c d : S27) : List S27 := insE (insE (insE (insE l a) b) c) d
theorem four_right (l : List S27) (a b c d : S27) (h : rightL l = true) (ha : rightE a = true) (hb : rightE b = true) (hc : rightE c = true) (hd : rightE d = true) : rightL (four l a b c d) = true :=
  insE_right _ d (insE_right _ c (insE_right _ b (insE_right l a h ha) hb) hc) hd
theorem four_vmap (l : List S27) (a b c d : S27) (h : rightL l = true) (ha : rightE a = true) (hb : rightE b = true) (hc : rightE c = true) (id : Int) : vmap (four l a b c d) id = stepV d id (stepV c id (stepV b id (stepV a id (vmap l id)))) := by
  unfold four
  rw [ins_vmap d id _ (incB_right _ (insE_right _ c (insE_right _ b (insE_right l a h ha) hb) hc)), ins_vmap c id _ (incB_right _ (insE_right _ b (insE_right l a h ha) hb)), ins_vmap b id _ (incB_right _ (insE_right l a h ha)), ins_vmap a id _ (incB_right _ h)]
/-- What the law's last loop asks of place i. -/
theorem any_at (l : List S27) (e0 e1 e2 : S27) (a n m c : Int) (ha : 0 ≤ a ∧ a < 3) (hc : 0 ≤ c ∧ c < 3) (hn : 0 ≤ n) (hm : m = 0 ∨ m = 1) (h : rightL l = true) (r0 : rightE e0 = true) (r1 : rightE e1 = true) (r2 : rightE e2 = true) :
    (four l (E3 e0 e1 e2 0) (E3 e0 e1 e2 1) (E3 e0 e1 e2 2) (E3 e0 e1 e2 a)).length = (four l (E3 e0 e1 e2 (n % 3)) (E3 e0 e1 e2 ((n + 1 + m) % 3)) (E3 e0 e1 e2 ((n + 2 - m) % 3)) (E3 e0 e1 e2 c)).length ∧
    ∀ i, i < (four l (E3 e0 e1 e2 0) (E3 e0 e1 e2 1) (E3 e0 e1 e2 2) (E3 e0 e1 e2 a)).length →
      ((four l (E3 e0 e1 e2 0) (E3 e0 e1 e2 1) (E3 e0 e1 e2 2) (E3 e0 e1 e2 a)).getD i z27).f0 = ((four l (E3 e0 e1 e2 (n % 3)) (E3 e0 e1 e2 ((n + 1 + m) % 3)) (E3 e0 e1 e2 ((n + 2 - m) % 3)) (E3 e0 e1 e2 c)).getD i z27).f0 ∧
      ((four l (E3 e0 e1 e2 0) (E3 e0 e1 e2 1) (E3 e0 e1 e2 2) (E3 e0 e1 e2 a)).getD i z27).f1 = ((four l (E3 e0 e1 e2 (n % 3)) (E3 e0 e1 e2 ((n + 1 + m) % 3)) (E3 e0 e1 e2 ((n + 2 - m) % 3)) (E3 e0 e1 e2 c)).getD i z27).f1 ∧
      ((l.find? (isID ((four l (E3 e0 e1 e2 0) (E3 e0 e1 e2 1) (E3 e0 e1 e2 2) (E3 e0 e1 e2 a)).getD i z27).f0)).isSome = true → lessV ((four l (E3 e0 e1 e2 0) (E3 e0 e1 e2 1) (E3 e0 e1 e2 2) (E3 e0 e1 e2 a)).getD i z27).f1 (findE l ((four l (E3 e0 e1 e2 0) (E3 e0 e1 e2 1) (E3 e0 e1 e2 2) (E3 e0 e1 e2 a)).getD i z27).f0).f1 = false) := by
  have rE : ∀ j, rightE (E3 e0 e1 e2 j) = true := fun j => by
    rcases E3_in e0 e1 e2 j with h | h | h <;> rw [h] <;> assumption
  have R1 := four_right l _ _ _ _ h (rE 0) (rE 1) (rE 2) (rE a)
  have R2 := four_right l _ _ _ _ h (rE (n % 3)) (rE ((n + 1 + m) % 3)) (rE ((n + 2 - m) % 3)) (rE c)
  have V1 := four_vmap l _ _ _ (E3 e0 e1 e2 a) h (rE 0) (rE 1) (rE 2)
  have V2 := four_vmap l _ _ _ (E3 e0 e1 e2 c) h (rE (n % 3)) (rE ((n + 1 + m) % 3)) (rE ((n + 2 - m) % 3))
  have hext := vmap_ext _ _ (incB_right _ R1) (incB_right _ R2) (fun id => by rw [V1, V2]; exact any_turns e0 e1 e2 id (vmap l id) a n m c ha hc hn hm)
  have hlen := congrArg List.length hext
  simp only [List.length_map] at hlen
  refine ⟨hlen, fun i hi => ?_⟩
  have hat := congrArg (fun z => z[i]?) hext
  simp only [List.getElem?_map] at hat
  rw [List.getElem?_eq_getElem hi, List.getElem?_eq_getElem (by omega)] at hat
  simp only [Option.map_some, Option.some.injEq, Prod.mk.injEq] at hat
  have V := vmap_at _ (incB_right _ R1) i hi
  rw [V1] at V
  refine ⟨?_, ?_, fun hs => ?_⟩
  · rw [List.getD_eq_getElem?_getD, List.getD_eq_getElem?_getD, List.getElem?_eq_getElem hi, List.getElem?_eq_getElem (by omega)]; exact hat.1
  · rw [List.getD_eq_getElem?_getD, List.getD_eq_getElem?_getD, List.getElem?_eq_getElem hi, List.getElem?_eq_getElem (by omega)]; exact hat.2
  · generalize (four l (E3 e0 e1 e2 0) (E3 e0 e1 e2 1) (E3 e0 e1 e2 2) (E3 e0 e1 e2 a)).getD i z27 = x at V hs ⊢
    obtain ⟨u, hu⟩ := Option.isSome_iff_exists.1 hs
    have hv : vmap l x.f0 = some u.f1 := by unfold vmap; rw [hu]; rfl
    have hf : findE l x.f0 = u := by unfold findE; rw [hu]; rfl
    rw [hv] at V
    obtain ⟨v1, q1, p1⟩ := stepV_le (E3 e0 e1 e2 0) x.f0 u.f1
    obtain ⟨v2, q2, p2⟩ := stepV_le (E3 e0 e1 e2 1) x.f0 v1
    obtain ⟨v3, q3, p3⟩ := stepV_le (E3 e0 e1 e2 2) x.f0 v2
    obtain ⟨v4, q4, p4⟩ := stepV_le (E3 e0 e1 e2 a) x.f0 v3
    rw [q1, q2, q3, q4] at V
    rw [hf]
    unfold lessV
    rw [← Option.some.inj V]
    exact decide_eq_false (nlt_trans p4 (nlt_trans p3 (nlt_trans p2 p1)))
end Go.Proofs.Ytiminjibcafkaaa.X
end
