/- What the functions of layer 2 compute, in plain Lean: entries and lists that are right, filters, ghosts, and what is found. -/
import Derived.Test.YtiminjibcafkaaaITXhitemFind
import Derived.Test.YtiminjibcafkaaaITX7
import Derived.Test.YtiminjibcafkaaaITX5
import Derived.Test.YtiminjibcafkaaaITX9
import Derived.Test.YtiminjibcafkaaaITX10
import Derived.Test.YtiminjibcafkaaaITX11
import Derived.Test.YtiminjibcafkaaaITX12
import Derived.Test.YtiminjibcafkaaaITX4
import Derived.Test.YtiminjibcafkaaaITXpureitem
namespace Go.Proofs.Ytiminjibcafkaaa.X
open Go.RowKit Go.Proofs.YtiminjibcafkaaaW.PrintWords Go.Proofs.YtiminjibcafkaaaW.PrintLast Go.Proofs.YtiminjibcafkaaaW.PrintMore
set_option linter.unusedVariables false
set_option linter.unusedSimpArgs false
theorem wrap64_nat (n : Nat) (h : n ≤ 4611686018427387904) : wrap64 ((n : Int) + 1) = ((n + 1 : Nat) : Int) := by unfold wrap64; omega
theorem wrap64_nat_pred (n : Nat) (h0 : 0 < n) (h : n ≤ 4611686018427387904) : wrap64 ((n : Int) - 1) = ((n - 1 : Nat) : Int) := by unfold wrap64; omega
theorem rd_nat (l : List S27) (i : Nat) : rd_T27 l (i : Int) = l.getD i z27 := rfl
theorem beqd (a b : Int) : (a == b) = decide (a = b) := rfl
theorem getD_mem {α : Type} (l : List α) (i : Nat) (z : α) (h : i < l.length) : l.getD i z ∈ l := by
  rw [List.getD_eq_getElem?_getD, List.getElem?_eq_getElem h]; exact List.getElem_mem h
def rv (v : S25) : Bool := decide (v.f0 < 8) && (decide (1 ≤ v.f1) && decide (1 ≤ v.f2))
theorem RightVer_is (v : S25) : item_RightVer.f v.f0 v.f1 v.f2 = some (rv v) := by
  unfold item_RightVer.f rv
  by_cases h1 : v.f0 < 8 <;> by_cases h2 : v.f1 ≥ 1 <;> simp [h1, h2]
  all_goals (try simp [show (1 : Int) ≤ v.f1 from h2])
  all_goals omega
theorem RightVer_is' (v : S25) : tidingsref02_RightVer.f v.f0 v.f1 v.f2 = some (rv v) := by
  unfold tidingsref02_RightVer.f rv
  by_cases h1 : v.f0 < 8 <;> by_cases h2 : v.f1 > 0
  · have h3 : (1 : Int) ≤ v.f1 := by omega
    simp [h1, h2, h3]
    omega
  · have h3 : ¬ (1 : Int) ≤ v.f1 := by omega
    simp [h1, h2, h3]
  · simp [h1]
  · simp [h1]
/-- Is an entry right? -/
def rightE (x : S27) : Bool := rv x.f1 && (decide (x.f0 < 64) && (if x.f2 = 1 then decide (x.f3 = x.f4 % 8) else if x.f2 = 2 then decide (x.f3 < 8) && decide (x.f4 = 0) else decide (x.f2 = 3) && (decide (x.f3 = 0) && decide (x.f4 = 0))))
theorem entry_is (x : S27) (h : Ok_Entry x) : item_entry.f x.f0 x.f1.f0 x.f1.f1 x.f1.f2 x.f2 x.f3 x.f4 = some (rightE x) := by
  obtain ⟨h0, h1, h2, h3, h4⟩ := h
  unfold In8 at h0 h3
  unfold In32 at h4
  have e1 : x.f3 % 4294967296 = x.f3 := by omega
  have e2 : Int.tmod x.f4 8 = x.f4 % 8 := Int.tmod_eq_emod_of_nonneg (by omega)
  unfold item_entry.f rightE
  rw [e1, e2, RightVer_is]
  clear e1 e2
  simp only [Option.bind_some]
  cases rv x.f1
  · simp only [Bool.false_and, Bool.false_eq_true, if_false]; repeat' split
    all_goals rfl
  · simp only [Bool.true_and, if_true]
    repeat' split
    all_goals first | (simp; omega) | (simp_all; done) | (simp_all; omega)
theorem RightEntry_is (k : Nat) (x : S27) (h : Ok_Entry x) : tidingsref02_RightEntry.f (k + 1) x.f0 x.f1.f0 x.f1.f1 x.f1.f2 x.f2 x.f3 x.f4 = some (rightE x) := by
  obtain ⟨h0, h1, h2, h3, h4⟩ := h
  unfold In8 at h0 h3
  unfold In32 at h4
  have e1 : x.f3 % 4294967296 = x.f3 := by omega
  have e2 : Int.tmod x.f4 8 = x.f4 % 8 := Int.tmod_eq_emod_of_nonneg (by omega)
  unfold tidingsref02_RightEntry.f rightE
  rw [RightVer_is']
  simp only [Option.bind_some, tidingsref02_RightEntry.j0]
  rw [e1, e2]
  clear e1 e2
  cases rv x.f1
  · simp
  · simp only [Bool.true_and, if_true]
    by_cases hi : x.f0 ≥ 64
    · have hi2 : ¬ x.f0 < 64 := by omega
      simp [hi, hi2]
    · have hi2 : x.f0 < 64 := by omega
      simp only [decide_eq_false hi, decide_eq_true hi2, Bool.false_eq_true, if_false, Bool.true_and, beqd]
      repeat' split
      all_goals first | (simp; done) | (simp_all; done) | (simp; omega) | (simp_all; omega)
/-- Number i of a list is right, and behind the one ahead. -/
def okB (l : List S27) (i : Nat) : Bool := rightE (l.getD i z27) && (decide (i = 0) || decide ((l.getD (i - 1) z27).f0 < (l.getD i z27).f0))
def okFrom (l : List S27) : Nat → Nat → Bool
  | 0, _ => true
  | d + 1, i => okB l i && okFrom l d (i + 1)
/-- Are entries right? -/
def rightL (l : List S27) : Bool := okFrom l l.length 0
theorem item_Right_from (l : List S27) (hl : l.length ≤ 4611686018427387904) (ok : ∀ z ∈ l, Ok_Entry z) : ∀ d k i : Nat, i + d = l.length → d < k → item_Right.l0 k l l (l.length : Int) (i : Int) = some (okFrom l d i) := by
  intro d
  induction d with
  | zero =>
    intro k i hi hk
    obtain ⟨k, rfl⟩ : ∃ m, k = m + 1 := ⟨k - 1, by omega⟩
    simp only [item_Right.l0, okFrom]
    rw [if_neg (by omega)]
  | succ d ih =>
    intro k i hi hk
    obtain ⟨k, rfl⟩ : ∃ m, k = m + 1 := ⟨k - 1, by omega⟩
    simp only [item_Right.l0, okFrom]
    rw [if_pos (by omega), if_pos (by omega), if_pos (by omega), rd_nat, entry_is _ (ok _ (getD_mem l i _ (by omega)))]
    simp only [Option.bind_some]
    have e := ih k (i + 1) (by omega) (by omega)
    unfold okB
    cases rightE (l.getD i z27) with
    | false => simp
    | true =>
      simp only [if_true, Bool.true_and]
      rw [wrap64_nat i (by omega), e]
      by_cases h0 : i = 0
      · subst h0; simp
      · rw [if_pos (by omega), wrap64_nat_pred i (by omega) (by omega), if_pos (by omega), if_pos (by omega), rd_nat]
        by_cases hlt : (l.getD (i - 1) z27).f0 ≥ (l.getD i z27).f0
        · rw [if_pos hlt]
          have : ¬ (l.getD (i - 1) z27).f0 < (l.getD i z27).f0 := by omega
          rw [decide_eq_false h0, decide_eq_false this]
          rfl
        · rw [if_neg hlt]
          have : (l.getD (i - 1) z27).f0 < (l.getD i z27).f0 := by omega
          rw [decide_eq_false h0, decide_eq_true this]
          rfl
theorem Right_is (l : List S27) (hl : l.length ≤ 4611686018427387904) (ok : ∀ z ∈ l, Ok_Entry z) (k : Nat) (hk : l.length < k) : item_Right.f k l = some (rightL l) := item_Right_from l hl ok l.length k 0 (by omega) hk
theorem ref_Right_from (l : List S27) (hl : l.length ≤ 4611686018427387904) (ok : ∀ z ∈ l, Ok_Entry z) : ∀ d k i : Nat, i + d = l.length → d + 1 < k → tidingsref02_Right.l0 k l (i : Int) = some (okFrom l d i) := by
  intro d
  induction d with
  | zero =>
    intro k i hi hk
    obtain ⟨k, rfl⟩ : ∃ m, k = m + 1 := ⟨k - 1, by omega⟩
    simp only [tidingsref02_Right.l0, okFrom]
    rw [if_neg (by omega)]
  | succ d ih =>
    intro k i hi hk
    obtain ⟨k, rfl⟩ : ∃ m, k = m + 1 + 1 := ⟨k - 2, by omega⟩
    simp only [tidingsref02_Right.l0, okFrom]
    rw [if_pos (by omega), if_pos (by omega), rd_nat, RightEntry_is k _ (ok _ (getD_mem l i _ (by omega)))]
    simp only [Option.bind_some]
    have e := ih (k + 1) (i + 1) (by omega) (by omega)
    simp only [tidingsref02_Right.l0] at e
    unfold okB
    cases rightE (l.getD i z27) with
    | false => simp
    | true =>
      simp only [if_true, Bool.true_and]
      rw [wrap64_nat i (by omega), e]
      by_cases h0 : i = 0
      · subst h0; simp
      · rw [if_pos (by omega), wrap64_nat_pred i (by omega) (by omega), if_pos (by omega), if_pos (by omega), rd_nat]
        by_cases hlt : (l.getD (i - 1) z27).f0 ≥ (l.getD i z27).f0
        · rw [if_pos hlt]
          have : ¬ (l.getD (i - 1) z27).f0 < (l.getD i z27).f0 := by omega
          rw [decide_eq_false h0, decide_eq_false this]
          rfl
        · rw [if_neg hlt]
          have : (l.getD (i - 1) z27).f0 < (l.getD i z27).f0 := by omega
          rw [decide_eq_false h0, decide_eq_true this]
          rfl
theorem Right_is' (l : List S27) (hl : l.length ≤ 4611686018427387904) (ok : ∀ z ∈ l, Ok_Entry z) (k : Nat) (hk : l.length + 1 < k) : tidingsref02_Right.f k l = some (rightL l) := ref_Right_from l hl ok l.length k 0 (by omega) hk
/-- Is an entry in a filter? -/
def inE (x : S27) (f : Int) : Bool := if x.f2 = 3 then true else decide (f / 2 ^ x.f3.toNat % 2 = 1)
theorem in_bits : ∀ n : Fin 256, ∀ c : Fin 8, (Go.bits .and .u8 (shr .u8 (n.val : Int) (c.val : Int)) 1 == 1) = decide ((n.val : Int) / 2 ^ c.val % 2 = 1) := by decide +kernel
theorem In_is (x : S27) (h : Ok_Entry x) (f : Int) (hf : In8 f) : item_In.f x.f0 x.f1.f0 x.f1.f1 x.f1.f2 x.f2 x.f3 x.f4 f = some (inE x f) := by
  obtain ⟨h0, h1, h2, h3, h4⟩ := h
  unfold In8 at h3 hf
  unfold item_In.f inE
  by_cases hk : x.f2 = 3
  · rw [if_pos hk, if_pos hk]
  · rw [if_neg hk, if_neg hk]
    by_cases hc : x.f3 < 8
    · rw [if_pos hc, if_pos (by omega)]
      obtain ⟨n, rfl⟩ := Int.eq_ofNat_of_zero_le hf.1
      obtain ⟨c, hc0⟩ := Int.eq_ofNat_of_zero_le h3.1
      rw [hc0] at hc ⊢
      have := in_bits ⟨n, by omega⟩ ⟨c, by omega⟩
      rw [Int.toNat_natCast, this]
    · rw [if_neg hc]
      have hp : (256 : Int) ≤ 2 ^ x.f3.toNat := by
        have : (2 : Nat) ^ 8 ≤ 2 ^ x.f3.toNat := Nat.pow_le_pow_right (by decide) (by omega)
        have h2 : ((2 : Nat) ^ x.f3.toNat : Nat) = ((2 : Int) ^ x.f3.toNat) := by simp
        rw [← h2]; omega
      have : f / 2 ^ x.f3.toNat = 0 := Int.ediv_eq_zero_of_lt hf.1 (by omega)
      rw [this]
      rfl
theorem ref_In_from (x : S27) (h3 : In8 x.f3) : ∀ d k i : Nat, (i : Int) + d = x.f3 → d < k → ∀ f : Int, In8 f →
    tidingsref02_In.l0 k f (i : Int) x.f0 x.f1.f0 x.f1.f1 x.f1.f2 x.f2 x.f3 x.f4 = some (decide (f / 2 ^ d % 2 = 1)) := by
  unfold In8 at h3
  have ew : wrap64 x.f3 = x.f3 := by unfold wrap64; omega
  intro d
  induction d with
  | zero =>
    intro k i hi hk f hf
    obtain ⟨k, rfl⟩ : ∃ m, k = m + 1 := ⟨k - 1, by omega⟩
    simp only [tidingsref02_In.l0]
    rw [ew, if_neg (by omega), Int.tmod_eq_emod_of_nonneg hf.1, beqd, Int.pow_zero, Int.ediv_one]
  | succ d ih =>
    intro k i hi hk f hf
    obtain ⟨k, rfl⟩ : ∃ m, k = m + 1 := ⟨k - 1, by omega⟩
    unfold In8 at hf
    simp only [tidingsref02_In.l0]
    have e1 : wrap64 (Int.tdiv f 2) = f / 2 := by rw [Int.tdiv_eq_ediv_of_nonneg hf.1]; unfold wrap64; omega
    rw [ew, if_pos (by omega), e1, wrap64_nat i (by omega), ih k (i + 1) (by omega) (by omega) (f / 2) (by unfold In8; omega)]
    rw [Int.ediv_ediv_of_nonneg (by omega), Int.pow_succ, Int.mul_comm]
theorem In_is' (x : S27) (h : Ok_Entry x) (f : Int) (hf : In8 f) (k : Nat) (hk : 256 ≤ k) : tidingsref02_In.f k x.f0 x.f1.f0 x.f1.f1 x.f1.f2 x.f2 x.f3 x.f4 f = some (inE x f) := by
  obtain ⟨h0, h1, h2, h3, h4⟩ := h
  unfold tidingsref02_In.f inE
  by_cases hc : x.f2 = 3
  · rw [if_pos hc, if_pos hc]
  · rw [if_neg hc, if_neg hc]
    have e : wrap64 f = f := by unfold In8 at hf; unfold wrap64; omega
    have h3' := h3
    unfold In8 at h3'
    rw [e]
    exact ref_In_from x h3 x.f3.toNat k 0 (by omega) (by omega) f hf
/-- The ghost of an entry. -/
def fadeE (x : S27) : S27 := if x.f2 = 1 then ⟨x.f0, x.f1, 2, x.f3, 0⟩ else x
theorem Fade_is (x : S27) : item_Fade.f x.f0 x.f1.f0 x.f1.f1 x.f1.f2 x.f2 x.f3 x.f4 = some ((fadeE x).f0, (fadeE x).f1.f0, (fadeE x).f1.f1, (fadeE x).f1.f2, (fadeE x).f2, (fadeE x).f3, (fadeE x).f4) := by
  unfold item_Fade.f fadeE
  split <;> rfl
theorem Fade_is' (x : S27) : tidingsref02_Fade.f x.f0 x.f1.f0 x.f1.f1 x.f1.f2 x.f2 x.f3 x.f4 = some ((fadeE x).f0, (fadeE x).f1.f0, (fadeE x).f1.f1, (fadeE x).f1.f2, (fadeE x).f2, (fadeE x).f3, (fadeE x).f4) := by
  unfold tidingsref02_Fade.f fadeE
  split <;> rfl
/-- What is found. -/
def findE (l : List S27) (a : Int) : S27 := (l.find? (isID a)).getD z27
theorem Find_is (l : List S27) (a : Int) : item_Find.f l a = some ((findE l a).f0, (findE l a).f1.f0, (findE l a).f1.f1, (findE l a).f1.f2, (findE l a).f2, (findE l a).f3, (findE l a).f4, (l.find? (isID a)).isSome) := by
  unfold item_Find.f findE
  cases l.find? (isID a) <;> rfl
theorem ref_Find_from (l : List S27) (a : Int) (hl : l.length ≤ 4611686018427387904) : ∀ d k i : Nat, i + d = l.length → d < k → tidingsref02_Find.l0 k l a (i : Int) = item_Find.f (l.drop i) a := by
  intro d
  induction d with
  | zero =>
    intro k i hi hk
    obtain ⟨k, rfl⟩ : ∃ m, k = m + 1 := ⟨k - 1, by omega⟩
    simp only [tidingsref02_Find.l0]
    rw [if_neg (by omega), List.drop_of_length_le (by omega)]
    rfl
  | succ d ih =>
    intro k i hi hk
    obtain ⟨k, rfl⟩ : ∃ m, k = m + 1 := ⟨k - 1, by omega⟩
    simp only [tidingsref02_Find.l0]
    rw [if_pos (by omega), if_pos (by omega), rd_nat, wrap64_nat i (by omega), ih k (i + 1) (by omega) (by omega)]
    have e : l.drop i = l.getD i z27 :: l.drop (i + 1) := by
      rw [List.getD_eq_getElem?_getD, List.getElem?_eq_getElem (by omega : i < l.length)]
      exact (List.drop_eq_getElem_cons (by omega))
    rw [e]
    unfold item_Find.f
    rw [List.find?_cons]
    by_cases h : (l.getD i z27).f0 = a
    · rw [if_pos h, show isID a (l.getD i z27) = true from decide_eq_true h]
    · rw [if_neg h, show isID a (l.getD i z27) = false from decide_eq_false h]
theorem Find_is' (l : List S27) (a : Int) (hl : l.length ≤ 4611686018427387904) (k : Nat) (hk : l.length < k) : tidingsref02_Find.f k l a = some ((findE l a).f0, (findE l a).f1.f0, (findE l a).f1.f1, (findE l a).f1.f2, (findE l a).f2, (findE l a).f3, (findE l a).f4, (l.find? (isID a)).isSome) := by
  rw [← Find_is]
  exact ref_Find_from l a hl l.length k 0 (by omega) hk
theorem Or3_any (k : Nat) (hk : 4 ≤ k) (a b c : Int) : cmp_Or_int.f k [a, b, c] = some (if a = 0 then if b = 0 then c else b else a) := by
  obtain ⟨k, rfl⟩ : ∃ m, k = m + 4 := ⟨k - 4, by omega⟩
  by_cases ha : a = 0
  · by_cases hb : b = 0
    · by_cases hc : c = 0
      · simp [cmp_Or_int.f, cmp_Or_int.l0, rd, wrap64, ha, hb, hc]
      · simp [cmp_Or_int.f, cmp_Or_int.l0, rd, wrap64, ha, hb, hc]
    · simp [cmp_Or_int.f, cmp_Or_int.l0, rd, wrap64, ha, hb]
  · simp [cmp_Or_int.f, cmp_Or_int.l0, rd, ha]
theorem Cmp_any (k : Nat) (hk : 4 ≤ k) (a b : S25) : item_Cmp.f k a.f0 a.f1 a.f2 b.f0 b.f1 b.f2 = some (cmpV a b) := by
  unfold item_Cmp.f cmpV
  rw [Compare32_is, Compare8_is, Compare32_is]
  simp only [Option.bind_some, Or3_any k hk]
  unfold c3
  congr 1
  repeat' split
  all_goals first | rfl | omega
theorem Cmp_is' (a b : S25) : tidingsref02_Cmp.f a.f0 a.f1 a.f2 b.f0 b.f1 b.f2 = some (cmpV a b) := by
  unfold tidingsref02_Cmp.f
  rw [Less_is, Less_is]
  simp only [Option.bind_some, lessV]
  have h1 := cmpV_in a b
  have h2 := cmpV_anti a b
  by_cases h : cmpV a b < 0
  · simp [h]; omega
  · by_cases h' : cmpV b a < 0
    · simp [h, h']; omega
    · simp [h, h']; omega
theorem awake02_any (k : Nat) (hk : 60 ≤ k) : tidingslaw02_awake.f k = some true := by
  obtain ⟨d, rfl⟩ := Nat.exists_eq_add_of_le hk
  induction d with
  | zero => exact awake02
  | succ d ih => exact tidingslaw02_awake.mono (60 + d) true (ih (by omega))
end Go.Proofs.Ytiminjibcafkaaa.X
