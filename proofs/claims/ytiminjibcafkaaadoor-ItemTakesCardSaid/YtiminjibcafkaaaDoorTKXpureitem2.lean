/- What the functions of layer 2 compute, in plain Lean: entries and lists that are right, filters, ghosts, and what is found. -/
import Derived.Test.YtiminjibcafkaaaDoorTKX9
import Derived.Test.YtiminjibcafkaaaDoorTKX5
import Derived.Test.YtiminjibcafkaaaDoorTKX12
import Derived.Test.YtiminjibcafkaaaDoorTKX13
import Derived.Test.YtiminjibcafkaaaDoorTKX7
import Derived.Test.YtiminjibcafkaaaDoorTKXpureitem
namespace Go.Proofs.YtiminjibcafkaaaDoor.X
open Go.RowKit Go.Proofs.YtiminjibcafkaaaDoorW.PrintWords Go.Proofs.YtiminjibcafkaaaDoorW.PrintLast Go.Proofs.YtiminjibcafkaaaDoorW.PrintMore
set_option linter.unusedVariables false
set_option linter.unusedSimpArgs false
theorem wrap64_nat (n : Nat) (h : n ≤ 4611686018427387904) : wrap64 ((n : Int) + 1) = ((n + 1 : Nat) : Int) := by unfold wrap64; omega
theorem wrap64_nat_pred (n : Nat) (h0 : 0 < n) (h : n ≤ 4611686018427387904) : wrap64 ((n : Int) - 1) = ((n - 1 : Nat) : Int) := by unfold wrap64; omega
theorem rd_nat (l : List S27) (i : Nat) : rd_T27 l (i : Int) = l.getD i z27 := rfl
theorem beqd (a b : Int) : (a == b) = decide (a = b) := rfl
theorem getD_mem {α : Type} (l : List α) (i : Nat) (z : α) (h : i < l.length) : l.getD i z ∈ l := by
  rw [List.getD_eq_getElem?_getD, List.getElem?_eq_getElem h]; exact List.getElem_mem h
def rv (v : S25) : Bool := decide (v.f0 < 8) && (decide (1 ≤ v.f1) && decide (1 ≤ v.f2))
theorem RightVer_is (v : S25) : item_RightVer.f v.f0 v.f1 v.f2 = some (rv v) := by
  unfold item_RightVer.f rv
  by_cases h1 : v.f0 < 8 <;> by_cases h2 : v.f1 ≥ 1 <;> simp [h1, h2]
  all_goals (try simp [show (1 : Int) ≤ v.f1 from h2])
  all_goals omega
theorem RightVer_is' (v : S25) : tidingsref02_RightVer.f v.f0 v.f1 v.f2 = some (rv v) := by
  unfold tidingsref02_RightVer.f rv
  by_cases h1 : v.f0 < 8 <;> by_cases h2 : v.f1 > 0
  · have h3 : (1 : Int) ≤ v.f1 := by omega
    simp [h1, h2, h3]
    omega
  · have h3 : ¬ (1 : Int) ≤ v.f1 := by omega
    simp [h1, h2, h3]
  · simp [h1]
  · simp [h1]
/-- Is an entry right? -/
def rightE (x : S27) : Bool := rv x.f1 && (decide (x.f0 < 64) && (if x.f2 = 1 then decide (x.f3 = x.f4 % 8) else if x.f2 = 2 then decide (x.f3 < 8) && decide (x.f4 = 0) else decide (x.f2 = 3) && (decide (x.f3 = 0) && decide (x.f4 = 0))))
theorem entry_is (x : S27) (h : Ok_Entry x) : item_entry.f x.f0 x.f1.f0 x.f1.f1 x.f1.f2 x.f2 x.f3 x.f4 = some (rightE x) := by
  obtain ⟨h0, h1, h2, h3, h4⟩ := h
  unfold In8 at h0 h3
  unfold In32 at h4
  have e1 : x.f3 % 4294967296 = x.f3 := by omega
  have e2 : Int.tmod x.f4 8 = x.f4 % 8 := Int.tmod_eq_emod_of_nonneg (by omega)
  unfold item_entry.f rightE
  rw [e1, e2, RightVer_is]
  clear e1 e2
  simp only [Option.bind_some]
  cases rv x.f1
  · simp only [Bool.false_and, Bool.false_eq_true, if_false]; repeat' split
    all_goals rfl
  · simp only [Bool.true_and, if_true]
    repeat' split
    all_goals first | (simp; omega) | (simp_all; done) | (simp_all; omega)
theorem RightEntry_is (k : Nat) (x : S27) (h : Ok_Entry x) : tidingsref02_RightEntry.f (k + 1) x.f0 x.f1.f0 x.f1.f1 x.f1.f2 x.f2 x.f3 x.f4 = some (rightE x) := by
  obtain ⟨h0, h1, h2, h3, h4⟩ := h
  unfold In8 at h0 h3
  unfold In32 at h4
  have e1 : x.f3 % 4294967296 = x.f3 := by omega
  have e2 : Int.tmod x.f4 8 = x.f4 % 8 := Int.tmod_eq_emod_of_nonneg (by omega)
  unfold tidingsref02_RightEntry.f rightE
  rw [RightVer_is']
  simp only [Option.bind_some, tidingsref02_RightEntry.j0]
  rw [e1, e2]
  clear e1 e2
  cases rv x.f1
  · simp
  · simp only [Bool.true_and, if_true]
    by_cases hi : x.f0 ≥ 64
    · have hi2 : ¬ x.f0 < 64 := by omega
      simp [hi, hi2]
    · have hi2 : x.f0 < 64 := by omega
      simp only [decide_eq_false hi, decide_eq_true hi2, Bool.false_eq_true, if_false, Bool.true_and, beqd]
      repeat' split
      all_goals first | (simp; done) | (simp_all; done) | (simp; omega) | (simp_all; omega)
/-- Number i of a list is right, and behind the one ahead. -/
def okB (l : List S27) (i : Nat) : Bool := rightE (l.getD i z27) && (decide (i = 0) || decide ((l.getD (i - 1) z27).f0 < (l.getD i z27).f0))
def okFrom (l : List S27) : Nat → Nat → Bool
  | 0, _ => true
  | d + 1, i => okB l i && okFrom l d (i + 1)
theorem okFrom_iff (l : List S27) : ∀ d i, okFrom l d i = true ↔ ∀ j, i ≤ j → j < i + d → okB l j = true
  | 0, i => by simp [okFrom]; intro j h1 h2; omega
  | d + 1, i => by
    simp only [okFrom, Bool.and_eq_true, okFrom_iff l d (i + 1)]
    constructor
    · rintro ⟨h1, h2⟩ j hj hk
      rcases Nat.eq_or_lt_of_le hj with e | e
      · rw [← e]; exact h1
      · exact h2 j e (by omega)
    · intro h
      exact ⟨h i (Nat.le_refl _) (by omega), fun j hj hk => h j (by omega) (by omega)⟩
/-- Are entries right? -/
def rightL (l : List S27) : Bool := okFrom l l.length 0
theorem rightL_iff (l : List S27) : rightL l = true ↔ ∀ j, j < l.length → okB l j = true := by
  unfold rightL
  rw [okFrom_iff]
  exact ⟨fun h j hj => h j (Nat.zero_le _) (by omega), fun h j _ hj => h j (by omega)⟩
theorem item_Right_from (l : List S27) (hl : l.length ≤ 4611686018427387904) (ok : ∀ z ∈ l, Ok_Entry z) : ∀ d k i : Nat, i + d = l.length → d < k → item_Right.l0 k l l (l.length : Int) (i : Int) = some (okFrom l d i) := by
  intro d
  induction d with
  | zero =>
    intro k i hi hk
    obtain ⟨k, rfl⟩ : ∃ m, k = m + 1 := ⟨k - 1, by omega⟩
    simp only [item_Right.l0, okFrom]
    rw [if_neg (by omega)]
  | succ d ih =>
    intro k i hi hk
    obtain ⟨k, rfl⟩ : ∃ m, k = m + 1 := ⟨k - 1, by omega⟩
    simp only [item_Right.l0, okFrom]
    rw [if_pos (by omega), if_pos (by omega), if_pos (by omega), rd_nat, entry_is _ (ok _ (getD_mem l i _ (by omega)))]
    simp only [Option.bind_some]
    have e := ih k (i + 1) (by omega) (by omega)
    unfold okB
    cases rightE (l.getD i z27) with
    | false => simp
    | true =>
      simp only [if_true, Bool.true_and]
      rw [wrap64_nat i (by omega), e]
      by_cases h0 : i = 0
      · subst h0; simp
      · rw [if_pos (by omega), wrap64_nat_pred i (by omega) (by omega), if_pos (by omega), if_pos (by omega), rd_nat]
        by_cases hlt : (l.getD (i - 1) z27).f0 ≥ (l.getD i z27).f0
        · rw [if_pos hlt]
          have : ¬ (l.getD (i - 1) z27).f0 < (l.getD i z27).f0 := by omega
          rw [decide_eq_false h0, decide_eq_false this]
          rfl
        · rw [if_neg hlt]
          have : (l.getD (i - 1) z27).f0 < (l.getD i z27).f0 := by omega
          rw [decide_eq_false h0, decide_eq_true this]
          rfl
theorem Right_is (l : List S27) (hl : l.length ≤ 4611686018427387904) (ok : ∀ z ∈ l, Ok_Entry z) (k : Nat) (hk : l.length < k) : item_Right.f k l = some (rightL l) := item_Right_from l hl ok l.length k 0 (by omega) hk
theorem ref_Right_from (l : List S27) (hl : l.length ≤ 4611686018427387904) (ok : ∀ z ∈ l, Ok_Entry z) : ∀ d k i : Nat, i + d = l.length → d + 1 < k → tidingsref02_Right.l0 k l (i : Int) = some (okFrom l d i) := by
  intro d
  induction d with
  | zero =>
    intro k i hi hk
    obtain ⟨k, rfl⟩ : ∃ m, k = m + 1 := ⟨k - 1, by omega⟩
    simp only [tidingsref02_Right.l0, okFrom]
    rw [if_neg (by omega)]
  | succ d ih =>
    intro k i hi hk
    obtain ⟨k, rfl⟩ : ∃ m, k = m + 1 + 1 := ⟨k - 2, by omega⟩
    simp only [tidingsref02_Right.l0, okFrom]
    rw [if_pos (by omega), if_pos (by omega), rd_nat, RightEntry_is k _ (ok _ (getD_mem l i _ (by omega)))]
    simp only [Option.bind_some]
    have e := ih (k + 1) (i + 1) (by omega) (by omega)
    simp only [tidingsref02_Right.l0] at e
    unfold okB
    cases rightE (l.getD i z27) with
    | false => simp
    | true =>
      simp only [if_true, Bool.true_and]
      rw [wrap64_nat i (by omega), e]
      by_cases h0 : i = 0
      · subst h0; simp
      · rw [if_pos (by omega), wrap64_nat_pred i (by omega) (by omega), if_pos (by omega), if_pos (by omega), rd_nat]
        by_cases hlt : (l.getD (i - 1) z27).f0 ≥ (l.getD i z27).f0
        · rw [if_pos hlt]
          have : ¬ (l.getD (i - 1) z27).f0 < (l.getD i z27).f0 := by omega
          rw [decide_eq_false h0, decide_eq_false this]
          rfl
        · rw [if_neg hlt]
          have : (l.getD (i - 1) z27).f0 < (l.getD i z27).f0 := by omega
          rw [decide_eq_false h0, decide_eq_true this]
          rfl
theorem Right_is' (l : List S27) (hl : l.length ≤ 4611686018427387904) (ok : ∀ z ∈ l, Ok_Entry z) (k : Nat) (hk : l.length + 1 < k) : tidingsref02_Right.f k l = some (rightL l) := ref_Right_from l hl ok l.length k 0 (by omega) hk
theorem Or3_any (k : Nat) (hk : 4 ≤ k) (a b c : Int) : cmp_Or_int.f k [a, b, c] = some (if a = 0 then if b = 0 then c else b else a) := by
  obtain ⟨k, rfl⟩ : ∃ m, k = m + 4 := ⟨k - 4, by omega⟩
  by_cases ha : a = 0
  · by_cases hb : b = 0
    · by_cases hc : c = 0
      · simp [cmp_Or_int.f, cmp_Or_int.l0, rd, wrap64, ha, hb, hc]
      · simp [cmp_Or_int.f, cmp_Or_int.l0, rd, wrap64, ha, hb, hc]
    · simp [cmp_Or_int.f, cmp_Or_int.l0, rd, wrap64, ha, hb]
  · simp [cmp_Or_int.f, cmp_Or_int.l0, rd, ha]
theorem Cmp_any (k : Nat) (hk : 4 ≤ k) (a b : S25) : item_Cmp.f k a.f0 a.f1 a.f2 b.f0 b.f1 b.f2 = some (cmpV a b) := by
  unfold item_Cmp.f cmpV
  rw [Compare32_is, Compare8_is, Compare32_is]
  simp only [Option.bind_some, Or3_any k hk]
  unfold c3
  congr 1
  repeat' split
  all_goals first | rfl | omega
theorem awake02_any (k : Nat) (hk : 60 ≤ k) : tidingslaw02_awake.f k = some true := by
  obtain ⟨d, rfl⟩ := Nat.exists_eq_add_of_le hk
  induction d with
  | zero => exact awake02
  | succ d ih => exact tidingslaw02_awake.mono (60 + d) true (ih (by omega))
end Go.Proofs.YtiminjibcafkaaaDoor.X
