/- Texts that this claim's law comes to, joined by wip/slim.py: Xpureknow, Xpureknow2, Xpuretold, Xpuretold2, Xpuretold3, Xquiet. -/
import Derived.Test.YtiminjibcafkaaaDoorKUX15
import Derived.Test.YtiminjibcafkaaaDoorKUX16
import Derived.Test.YtiminjibcafkaaaDoorKUJ10
import Derived.Test.YtiminjibcafkaaaDoorKUX18
import Derived.Test.YtiminjibcafkaaaDoorKUJ15
import Derived.Test.YtiminjibcafkaaaDoorKUXhknowUnion
import Derived.Test.YtiminjibcafkaaaDoorKUX19
import Derived.Test.YtiminjibcafkaaaDoorKUX21
import Derived.Test.YtiminjibcafkaaaDoorKUXpureruns
import Derived.Test.YtiminjibcafkaaaDoorKUX20
import Derived.Test.YtiminjibcafkaaaDoorKUJ7
import Derived.Test.YtiminjibcafkaaaDoorKUXhcommon
import Derived.Deep.QuietTactic
import Derived.BigQuiet
section
/- What the functions of layer 1 compute, in plain Lean. -/
namespace Go.Proofs.YtiminjibcafkaaaDoor.X
open Go.RowKit Go.Proofs.YtiminjibcafkaaaDoorW.PrintWords Go.Proofs.YtiminjibcafkaaaDoorW.PrintLast Go.Proofs.YtiminjibcafkaaaDoorW.PrintMore
set_option linter.unusedVariables false
set_option linter.unusedSimpArgs false
theorem wrapN (n : Nat) (h : n ≤ 4611686018427387904) : wrap64 ((n : Int) + 1) = ((n + 1 : Nat) : Int) := by unfold wrap64; omega
theorem wrapNp (n : Nat) (h0 : 0 < n) (h : n ≤ 4611686018427387904) : wrap64 ((n : Int) - 1) = ((n - 1 : Nat) : Int) := by unfold wrap64; omega
theorem rdR (l : List S65) (i : Nat) : rd_T65 l (i : Int) = l.getD i z65 := rfl
theorem getDR (l : List S65) (i : Nat) (h : i < l.length) : l.getD i z65 ∈ l := by
  rw [List.getD_eq_getElem?_getD, List.getElem?_eq_getElem h]; exact List.getElem_mem h
theorem dropR_cons (l : List S65) (i : Nat) (h : i < l.length) : l.drop i = l.getD i z65 :: l.drop (i + 1) := by
  rw [List.getD_eq_getElem?_getD, List.getElem?_eq_getElem h]
  exact (List.drop_eq_getElem_cons h)
theorem run_is (x : S65) : know_run.f x.f0 x.f1 x.f2 = some (runB x) := by
  unfold know_run.f runB
  by_cases h1 : x.f0 < 8 <;> by_cases h2 : x.f1 ≥ 1
  · have h3 : (1 : Int) ≤ x.f1 := h2
    simp [h1, h3]
  · have h3 : ¬ (1 : Int) ≤ x.f1 := h2
    simp [h1, h3]
  · simp [h1]
  · simp [h1]
theorem apart_is (a b : S65) (ha : Ok_Run a) (hb : Ok_Run b) : know_apart.f a.f0 a.f1 a.f2 b.f0 b.f1 b.f2 = some (apartB a b) := by
  obtain ⟨_, _, h2⟩ := ha
  obtain ⟨_, k1, _⟩ := hb
  unfold In32 at h2 k1
  unfold know_apart.f apartB
  by_cases h : a.f0 < b.f0
  · simp [h]
  · by_cases h' : a.f0 = b.f0
    · by_cases h4 : a.f2 < b.f1
      · have e : (a.f2 + 1) % 4294967296 = a.f2 + 1 := by omega
        simp [h', h4, e]
      · have e : ¬ a.f2 + 1 < b.f1 := by omega
        simp [h', h4, e]
    · simp [h, h']
/-- Number i of some runs is right, and apart from the one ahead. -/
def okK (l : List S65) (i : Nat) : Bool := runB (l.getD i z65) && (decide (i = 0) || apartB (l.getD (i - 1) z65) (l.getD i z65))
def okKFrom (l : List S65) : Nat → Nat → Bool
  | 0, _ => true
  | d + 1, i => okK l i && okKFrom l d (i + 1)
theorem okKFrom_iff (l : List S65) : ∀ d i, okKFrom l d i = true ↔ ∀ j, i ≤ j → j < i + d → okK l j = true
  | 0, i => by simp [okKFrom]; intro j h1 h2; omega
  | d + 1, i => by
    simp only [okKFrom, Bool.and_eq_true, okKFrom_iff l d (i + 1)]
    constructor
    · rintro ⟨h1, h2⟩ j hj hk
      rcases Nat.eq_or_lt_of_le hj with e | e
      · rw [← e]; exact h1
      · exact h2 j e (by omega)
    · intro h
      exact ⟨h i (Nat.le_refl _) (by omega), fun j hj hk => h j (by omega) (by omega)⟩
def canonB (l : List S65) : Bool := okKFrom l l.length 0
theorem canonB_iff' (l : List S65) : canonB l = true ↔ ∀ j, j < l.length → okK l j = true := by
  unfold canonB
  rw [okKFrom_iff]
  exact ⟨fun h j hj => h j (Nat.zero_le _) (by omega), fun h j _ hj => h j (by omega)⟩
theorem okK_tail (x : S65) (l : List S65) (j : Nat) (h : okK (x :: l) (j + 1) = true) : okK l j = true := by
  unfold okK at h ⊢
  simp only [Nat.add_sub_cancel, List.getD_cons_succ, Bool.and_eq_true] at h ⊢
  refine ⟨h.1, ?_⟩
  cases j with
  | zero => rfl
  | succ j => simpa using h.2
theorem canonB_iff : ∀ l : List S65, canonB l = true ↔ Canon l
  | [] => ⟨fun _ => Canon_nil, fun _ => rfl⟩
  | x :: l => by
    have ih := canonB_iff l
    rw [canonB_iff', Canon_cons]
    constructor
    · intro h
      have h0 := h 0 (by simp)
      have hx : runB x = true := by unfold okK at h0; simpa using h0
      have hl : ∀ j, j < l.length → okK l j = true := fun j hj => okK_tail x l j (h (j + 1) (by simpa using hj))
      have hc := ih.1 ((canonB_iff' l).2 hl)
      refine ⟨hx, fun y hy => ?_, hc⟩
      cases l with
      | nil => cases hy
      | cons u l =>
        have h1 := h 1 (by simp)
        unfold okK at h1
        simp only [Bool.and_eq_true, Bool.or_eq_true, decide_eq_true_eq] at h1
        have h2 : apartB x u = true := by
          rcases h1.2 with h3 | h3
          · omega
          · exact h3
        obtain ⟨c1, c2, _⟩ := Canon_cons.1 hc
        rcases List.mem_cons.1 hy with rfl | hy
        · exact h2
        · exact apart_trans c1 h2 (c2 y hy)
    · rintro ⟨hx, hap, hc⟩ j hj
      have hl := (canonB_iff' l).1 (ih.2 hc)
      cases j with
      | zero => unfold okK; simpa using hx
      | succ j =>
        have h1 := hl j (by simpa using hj)
        unfold okK at h1 ⊢
        simp only [Nat.add_sub_cancel, List.getD_cons_succ, Bool.and_eq_true] at h1 ⊢
        refine ⟨h1.1, ?_⟩
        cases j with
        | zero =>
          have := hap (l.getD 0 z65) (getDR l 0 (by simpa using hj))
          simp only [Bool.or_eq_true, decide_eq_true_eq]
          exact .inr this
        | succ j => simpa using h1.2
/-- Are runs right? -/
def rightK (l : List S65) : Bool := canonB l && decide ((l.length : Int) ≤ 64)
theorem rightK_iff (l : List S65) : rightK l = true ↔ Canon l ∧ l.length ≤ 64 := by
  unfold rightK
  rw [Bool.and_eq_true, canonB_iff, decide_eq_true_eq]
  exact ⟨fun h => ⟨h.1, by omega⟩, fun h => ⟨h.1, by omega⟩⟩
theorem know_Right_from (l : List S65) (hl : l.length ≤ 4611686018427387904) (ok : ∀ z ∈ l, Ok_Run z) : ∀ d k i : Nat, i + d = l.length → d < k → know_Right.l0 k l l (l.length : Int) (i : Int) = some (okKFrom l d i && decide ((l.length : Int) ≤ 64)) := by
  intro d
  induction d with
  | zero =>
    intro k i hi hk
    obtain ⟨k, rfl⟩ : ∃ m, k = m + 1 := ⟨k - 1, by omega⟩
    simp only [know_Right.l0, okKFrom]
    rw [if_neg (by omega), Bool.true_and]
  | succ d ih =>
    intro k i hi hk
    obtain ⟨k, rfl⟩ : ∃ m, k = m + 1 := ⟨k - 1, by omega⟩
    simp only [know_Right.l0, okKFrom]
    rw [if_pos (by omega), if_pos (by omega), if_pos (by omega), rdR, run_is]
    simp only [Option.bind_some]
    have e := ih k (i + 1) (by omega) (by omega)
    unfold okK
    cases runB (l.getD i z65) with
    | false => simp
    | true =>
      simp only [if_true, Bool.true_and]
      rw [wrapN i (by omega), e]
      by_cases h0 : i = 0
      · subst h0; simp
      · rw [if_pos (by omega), wrapNp i (by omega) (by omega), if_pos (by omega), if_pos (by omega), rdR, apart_is _ _ (ok _ (getDR l (i - 1) (by omega))) (ok _ (getDR l i (by omega)))]
        simp only [Option.bind_some]
        rw [decide_eq_false h0, Bool.false_or]
        cases apartB (l.getD (i - 1) z65) (l.getD i z65)
        · rfl
        · rfl
theorem RightK_is (l : List S65) (hl : l.length ≤ 4611686018427387904) (ok : ∀ z ∈ l, Ok_Run z) (k : Nat) (hk : l.length < k) : know_Right.f k l = some (rightK l) := know_Right_from l hl ok l.length k 0 (by omega) hk
theorem HasK_is (l : List S65) (hl : l.length ≤ 4611686018427387904) (ok : ∀ z ∈ l, Ok_Run z) (r n : Int) (k : Nat) (hk : l.length < k) : know_Has.f k l r n = some (rightK l && l.any (inRun r n)) := by
  unfold know_Has.f
  rw [RightK_is l hl ok k hk]
  rfl
/-- What merged tells of what it has. -/
def fin (l : List S65) : List S65 × Option Int := if (l.length : Int) > 64 then ([], some 5) else (l, none)
theorem merged_from (s : List S65) (hl : s.length ≤ 1000000) (ok : ∀ z ∈ s, Ok_Run z) : ∀ d k i : Nat, ∀ (p : List S65) (c : S65), i + d = s.length → 2 * d < k → p.length ≤ i → Ok_Run c →
    know_merged.l0 k (p ++ [c]) s (s.length : Int) (i : Int) = some (fin (p ++ mrgR c (s.drop i))) := by
  intro d
  induction d with
  | zero =>
    intro k i p c hi hk hp hc
    obtain ⟨k, rfl⟩ : ∃ m, k = m + 1 := ⟨k - 1, by omega⟩
    simp only [know_merged.l0]
    rw [if_neg (by omega), List.drop_of_length_le (by omega)]
    show _ = some (fin (p ++ [c]))
    unfold fin
    by_cases hq : ((p ++ [c]).length : Int) > 64
    · rw [if_pos hq, if_pos hq]
    · rw [if_neg hq, if_neg hq]
  | succ d ih =>
    intro k i p c hi hk hp hc
    obtain ⟨k, rfl⟩ : ∃ m, k = m + 1 + 1 := ⟨k - 2, by omega⟩
    have hlen : ((p ++ [c]).length : Int) = ((p.length + 1 : Nat) : Int) := by simp
    have hw : wrap64 (((p ++ [c]).length : Int) - 1) = (p.length : Int) := by rw [hlen]; unfold wrap64; omega
    have hlast : rd_T65 (p ++ [c]) (p.length : Int) = c := by
      rw [rdR, List.getD_eq_getElem?_getD, List.getElem?_append_right (Nat.le_refl _)]
      simp
    have okr := ok _ (getDR s i (by omega))
    simp only [know_merged.l0]
    rw [hw]
    rw [if_pos (by omega), if_pos (by omega), if_pos (by omega), if_pos (by omega), if_pos (by omega), if_pos (by rw [hlen]; omega), hlast, rdR, apart_is c _ hc okr, dropR_cons s i (by omega)]
    generalize hr : s.getD i z65 = r at *
    simp only [Option.bind_some, know_merged.j1, mrgR]
    rw [wrapN i (by omega), hlast]
    cases hap : apartB c r with
    | true =>
      simp only [Bool.not_true, Bool.false_eq_true, if_false, if_true]
      rw [if_pos (by simp; omega), ih k (i + 1) (p ++ [c]) r (by omega) (by omega) (by simp; omega) okr]
      simp
    | false =>
      simp only [Bool.not_false, Bool.false_eq_true, if_false, if_true]
      rw [if_pos (by omega), if_pos (by rw [hlen]; omega)]
      by_cases h2 : r.f2 ≤ c.f2
      · rw [if_pos h2, if_pos h2, ih k (i + 1) p c (by omega) (by omega) (by omega) hc]
      · rw [if_neg h2, if_neg h2, if_pos (by rw [hlen]; omega)]
        have ht : (p ++ [c]).take (p.length : Int).toNat = p := by simp
        rw [ht, if_pos (by omega), ih k (i + 1) p ⟨r.f0, c.f1, r.f2⟩ (by omega) (by omega) (by omega) ⟨okr.1, hc.2.1, okr.2.2⟩]
theorem merged_is (l : List S65) (hl : l.length ≤ 1000000) (ok : ∀ z ∈ l, Ok_Run z) (k : Nat) (hk : 2 * l.length < k) : know_merged.f k l = some (fin (mergeL l)) := by
  have h1 : slices_Clone_Run.f l = some l := by unfold slices_Clone_Run.f; rw [if_pos (by omega)]
  have h2 : slices_SortFunc_Run.f l = some (sortR l) := by unfold slices_SortFunc_Run.f sortR; rw [if_pos (by omega)]
  have hp := (sortR_spec l).1
  have hln := hp.length_eq
  have ok' : ∀ z ∈ sortR l, Ok_Run z := fun z hz => ok z (hp.mem_iff.1 hz)
  unfold know_merged.f
  rw [h1]
  simp only [Option.bind_some]
  rw [h2]
  simp only [Option.bind_some]
  rw [← hln]
  unfold mergeL
  cases hs : sortR l with
  | nil =>
    obtain ⟨k, rfl⟩ : ∃ m, k = m + 1 := ⟨k - 1, by omega⟩
    rfl
  | cons c m =>
    rw [hs] at hln ok'
    obtain ⟨k, rfl⟩ : ∃ m, k = m + 1 + 1 := ⟨k - 2, by simp at hln; omega⟩
    have hf := merged_from (c :: m) (by omega) ok' m.length k 1 [] c (by simp; omega) (by simp at hln; omega) (by simp) (ok' c (by simp))
    simp only [know_merged.l0, know_merged.j1]
    have hw : wrap64 ((([] : List S65).length : Int) - 1) = -1 := by simp [wrap64]
    rw [hw]
    rw [if_pos (by simp), if_pos (by decide), if_pos (by simp), if_neg (by decide), if_neg (by decide), if_pos (by decide)]
    have e0 : rd_T65 (c :: m) 0 = c := rfl
    have e1 : wrap64 (0 + 1) = ((1 : Nat) : Int) := by simp [wrap64]
    rw [e0, e1, List.nil_append]
    simpa using hf
/-- The runs with a pair. -/
def addR (r n : Int) (l : List S65) : List S65 := mergeL (l ++ [⟨r, n, n⟩])
theorem AddK_is (l : List S65) (hl : l.length ≤ 400000) (ok : ∀ z ∈ l, Ok_Run z) (r n : Int) (hr : In8 r) (hn : In32 n) (k : Nat) (hk : 2 * l.length + 4 < k) :
    know_Add.f k l r n = some (if (rightK l && runB ⟨r, n, n⟩) = true then fin (addR r n l) else ([], some 9)) := by
  obtain ⟨k, rfl⟩ : ∃ m, k = m + 1 := ⟨k - 1, by omega⟩
  unfold know_Add.f
  rw [RightK_is l (by omega) ok (k + 1) (by omega), show know_run.f r n n = some (runB ⟨r, n, n⟩) from run_is ⟨r, n, n⟩]
  simp only [Option.bind_some]
  cases rightK l with
  | false => simp [know_Add.j0]
  | true =>
    cases runB ⟨r, n, n⟩ with
    | false => simp [know_Add.j0]
    | true =>
      have h1 : slices_Clone_Run.f l = some l := by unfold slices_Clone_Run.f; rw [if_pos (by omega)]
      simp only [if_true, Bool.not_true, know_Add.j0, Bool.false_eq_true, if_false, h1, Option.bind_some, Bool.and_self]
      rw [if_pos (by simp; omega), merged_is (l ++ [(⟨r, n, n⟩ : S65)]) (by simp; omega) (fun z hz => by
        rcases List.mem_append.1 hz with hz | hz
        · exact ok z hz
        · obtain rfl := List.mem_singleton.1 hz; exact ⟨hr, hn, hn⟩) k (by simp; omega)]
      rfl
theorem UnionK_is (a b : List S65) (ha : a.length ≤ 400000) (hb : b.length ≤ 400000) (oa : ∀ z ∈ a, Ok_Run z) (ob : ∀ z ∈ b, Ok_Run z) (k : Nat) (hk : 2 * (a.length + b.length) + 4 < k) :
    know_Union.f k a b = some (if (rightK a && rightK b) = true then fin (mergeL (a ++ b)) else ([], some 9)) := by
  unfold know_Union.f
  rw [RightK_is a (by omega) oa k (by omega), RightK_is b (by omega) ob k (by omega)]
  simp only [Option.bind_some]
  cases rightK a with
  | false => simp
  | true =>
    cases rightK b with
    | false => simp
    | true =>
      simp only [if_true, Bool.and_self]
      rw [if_pos ha, if_pos hb]
      exact merged_is (a ++ b) (by simp; omega) (fun z hz => by
        rcases List.mem_append.1 hz with hz | hz
        · exact oa z hz
        · exact ob z hz) k (by simp; omega)
theorem mem_ok {l : List S65} (ok : ∀ z ∈ l, Ok_Run z) (r n : Int) (h : Mem l r n) : In8 r ∧ In32 n := by
  obtain ⟨z, hz, rfl, h1, h2⟩ := h
  obtain ⟨k0, k1, k2⟩ := ok z hz
  refine ⟨k0, ?_⟩
  unfold In32 at *
  omega
end Go.Proofs.YtiminjibcafkaaaDoor.X
end
section
/- What layer 1 tells, as sets of pairs. -/
namespace Go.Proofs.YtiminjibcafkaaaDoor.X
open Go.RowKit Go.Proofs.YtiminjibcafkaaaDoorW.PrintWords Go.Proofs.YtiminjibcafkaaaDoorW.PrintLast Go.Proofs.YtiminjibcafkaaaDoorW.PrintMore
set_option linter.unusedVariables false
set_option linter.unusedSimpArgs false
def unionF (a b : List S65) : List S65 × Option Int := if (rightK a && rightK b) = true then fin (mergeL (a ++ b)) else ([], some 9)
theorem fin_length (l : List S65) : (fin l).1.length ≤ 64 := by
  unfold fin
  split
  · simp
  · show l.length ≤ 64; omega
theorem addR_spec (r n : Int) (l : List S65) (h : Canon l) (h1 : runB ⟨r, n, n⟩ = true) : Canon (addR r n l) ∧ ∀ a b, Mem (addR r n l) a b ↔ Mem l a b ∨ (a = r ∧ b = n) := by
  obtain ⟨k1, k2⟩ := mergeL_spec (l ++ [⟨r, n, n⟩]) (fun x hx => by
    rcases List.mem_append.1 hx with hx | hx
    · exact h.1 x hx
    · obtain rfl := List.mem_singleton.1 hx; exact h1)
  refine ⟨k1, fun a b => ?_⟩
  unfold addR
  rw [k2, Mem_append, Mem_cons]
  simp only [Mem_nil, or_false]
  constructor
  · rintro (h | h)
    · exact .inl h
    · exact .inr (by omega)
  · rintro (h | h)
    · exact .inl h
    · exact .inr (by omega)
theorem union_spec (a b : List S65) (ha : Canon a) (hb : Canon b) : Canon (mergeL (a ++ b)) ∧ ∀ r n, Mem (mergeL (a ++ b)) r n ↔ Mem a r n ∨ Mem b r n := by
  obtain ⟨k1, k2⟩ := mergeL_spec (a ++ b) (fun x hx => by
    rcases List.mem_append.1 hx with hx | hx
    · exact ha.1 x hx
    · exact hb.1 x hx)
  exact ⟨k1, fun r n => by rw [k2, Mem_append]⟩
theorem awake01 : tidingslaw01_awake.f 60 = some true := by
  have ok : ∀ z ∈ [(⟨0, 1, 1⟩ : S65), (⟨0, 3, 5⟩ : S65)], Ok_Run z := by
    intro z hz
    simp only [List.mem_cons, List.not_mem_nil, or_false] at hz
    rcases hz with rfl | rfl
    · exact ⟨by unfold In8; decide, by unfold In32; decide, by unfold In32; decide⟩
    · exact ⟨by unfold In8; decide, by unfold In32; decide, by unfold In32; decide⟩
  have ok2 : ∀ z ∈ [(⟨0, 1, 5⟩ : S65)], Ok_Run z := by
    intro z hz
    obtain rfl := List.mem_singleton.1 hz
    exact ⟨by unfold In8; decide, by unfold In32; decide, by unfold In32; decide⟩
  have hr : rightK [(⟨0, 1, 1⟩ : S65), (⟨0, 3, 5⟩ : S65)] = true := by decide
  have hr2 : rightK [(⟨0, 1, 5⟩ : S65)] = true := by decide
  have h1 : runB (⟨0, 2, 2⟩ : S65) = true := by decide
  obtain ⟨k1, k2⟩ := addR_spec 0 2 _ ((rightK_iff _).1 hr).1 h1
  have e : addR 0 2 [(⟨0, 1, 1⟩ : S65), (⟨0, 3, 5⟩ : S65)] = [⟨0, 1, 5⟩] := Canon_uniq _ _ k1 ((rightK_iff _).1 hr2).1 (fun r n => by
    rw [k2, Mem_cons, Mem_cons, Mem_cons]
    simp only [Mem_nil, or_false]
    omega)
  unfold tidingslaw01_awake.f
  rw [AddK_is _ (by decide) ok 0 2 (by unfold In8; decide) (by unfold In32; decide) 60 (by decide), hr, h1, e]
  have hf : fin [(⟨0, 1, 5⟩ : S65)] = ([⟨0, 1, 5⟩], none) := rfl
  simp only [Bool.and_self, if_true, hf, Option.bind_some]
  rw [HasK_is [(⟨0, 1, 5⟩ : S65)] (by decide) ok2 0 4 60 (by decide), HasK_is [(⟨0, 1, 5⟩ : S65)] (by decide) ok2 1 4 60 (by decide), hr2]
  rfl
theorem awake01_any (k : Nat) (hk : 60 ≤ k) : tidingslaw01_awake.f k = some true := by
  obtain ⟨d, rfl⟩ := Nat.exists_eq_add_of_le hk
  induction d with
  | zero => exact awake01
  | succ d ih => exact tidingslaw01_awake.mono (60 + d) true (ih (by omega))
end Go.Proofs.YtiminjibcafkaaaDoor.X
end
section
/- What the reference of layer 1 tells, in plain Lean: runs, out of marks where something begins or ends. -/
namespace Go.Proofs.YtiminjibcafkaaaDoor.X
open Go.RowKit Go.Proofs.YtiminjibcafkaaaDoorW.PrintWords Go.Proofs.YtiminjibcafkaaaDoorW.PrintLast Go.Proofs.YtiminjibcafkaaaDoorW.PrintMore
set_option linter.unusedVariables false
set_option linter.unusedSimpArgs false
theorem u64_id (n : Int) (h : 0 ≤ n ∧ n ≤ 18446744073709551615) : IntKind.u64.wrap n = n := by
  have h2 : IntKind.u64.wrap n = n % 18446744073709551616 := by simp [IntKind.wrap, IntKind.signed, IntKind.bits]
  rw [h2]; omega
theorem w64_id (n : Int) (h : -9223372036854775808 ≤ n ∧ n ≤ 9223372036854775807) : wrap64 n = n := by unfold wrap64; omega
theorem in01_from (l : List S65) (hl : l.length ≤ 1000000) (ok : ∀ z ∈ l, Ok_Run z) (r m : Int) : ∀ d k i : Nat, i + d = l.length → d < k → tidingsref01_in.l0 k l r m (i : Int) = some ((l.drop i).any (inRun r m)) := by
  intro d
  induction d with
  | zero =>
    intro k i hi hk
    obtain ⟨k, rfl⟩ : ∃ q, k = q + 1 := ⟨k - 1, by omega⟩
    simp only [tidingsref01_in.l0]
    rw [if_neg (by omega), List.drop_of_length_le (by omega)]
    rfl
  | succ d ih =>
    intro k i hi hk
    obtain ⟨k, rfl⟩ : ∃ q, k = q + 1 := ⟨k - 1, by omega⟩
    obtain ⟨o0, o1, o2⟩ := ok _ (getDR l i (by omega))
    unfold In32 at o1 o2
    simp only [tidingsref01_in.l0]
    rw [if_pos (by omega), if_pos (by omega), rdR, u64_id _ (by omega), u64_id _ (by omega), wrapN i (by omega), ih k (i + 1) (by omega) (by omega), dropR_cons l i (by omega), List.any_cons]
    generalize l.getD i z65 = x
    unfold inRun
    by_cases h0 : x.f0 = r
    · rw [if_pos h0]
      by_cases h1 : m ≥ x.f1
      · rw [if_pos h1]
        by_cases h2 : m ≤ x.f2
        · rw [if_pos h2]; simp [h0, h2, show x.f1 ≤ m from h1]
        · rw [if_neg h2]; simp [h2]
      · rw [if_neg h1]; simp [show ¬ x.f1 ≤ m from h1]
    · rw [if_neg h0]; simp [h0]
theorem in01_is (l : List S65) (hl : l.length ≤ 1000000) (ok : ∀ z ∈ l, Ok_Run z) (r m : Int) (k : Nat) (hk : l.length < k) : tidingsref01_in.f k l r m = some (l.any (inRun r m)) :=
  in01_from l hl ok r m l.length k 0 (by omega) hk
/-- A number put among some that rise. -/
def putM (n : Int) : List Int → List Int
  | [] => [n]
  | x :: l => if x < n then x :: putM n l else if x = n then x :: l else n :: x :: l
theorem putM_mem (n v : Int) : ∀ l, v ∈ putM n l ↔ v = n ∨ v ∈ l
  | [] => by simp [putM]
  | x :: l => by
    simp only [putM]
    split
    · rw [List.mem_cons, putM_mem n v l, List.mem_cons]
      constructor
      · rintro (h | h | h) <;> simp [h]
      · rintro (h | h | h) <;> simp [h]
    · split
      · rename_i h; rw [List.mem_cons]; constructor
        · rintro (h2 | h2) <;> simp [h2]
        · rintro (h2 | h2 | h2)
          · exact .inl (h2.trans h.symm)
          · exact .inl h2
          · exact .inr h2
      · simp
theorem putM_rise (n : Int) : ∀ l, l.Pairwise (· < ·) → (putM n l).Pairwise (· < ·)
  | [], _ => by simp [putM]
  | x :: l, h => by
    obtain ⟨h1, h2⟩ := List.pairwise_cons.1 h
    simp only [putM]
    split
    · rename_i h3
      refine List.pairwise_cons.2 ⟨fun y hy => ?_, putM_rise n l h2⟩
      rcases (putM_mem n y l).1 hy with rfl | hy
      · exact h3
      · exact h1 y hy
    · split
      · exact h
      · rename_i h3 h4
        refine List.pairwise_cons.2 ⟨fun y hy => ?_, h⟩
        rcases List.mem_cons.1 hy with rfl | hy
        · omega
        · have := h1 y hy; omega
theorem putM_length (n : Int) : ∀ l, (putM n l).length ≤ l.length + 1
  | [] => by simp [putM]
  | x :: l => by
    simp only [putM]
    split
    · have := putM_length n l; simpa using this
    · split <;> simp
theorem rd_nat' (l : List Int) (i : Nat) : rd l (i : Int) = l.getD i 0 := rfl
theorem drop_consI (l : List Int) (i : Nat) (h : i < l.length) : l.drop i = l.getD i 0 :: l.drop (i + 1) := by
  rw [List.getD_eq_getElem?_getD, List.getElem?_eq_getElem h]
  exact (List.drop_eq_getElem_cons h)
theorem take_succI (l : List Int) (i : Nat) (h : i < l.length) : l.take (i + 1) = l.take i ++ [l.getD i 0] := by
  rw [List.getD_eq_getElem?_getD, List.getElem?_eq_getElem h, List.take_succ_eq_append_getElem h]
  rfl
theorem put_from (l : List Int) (hl : l.length ≤ 1000000) (n : Int) : ∀ d k i : Nat, i + d = l.length → d < k → tidingsref01_put.l0 k l n (i : Int) = some (l.take i ++ putM n (l.drop i)) := by
  intro d
  induction d with
  | zero =>
    intro k i hi hk
    obtain ⟨k, rfl⟩ : ∃ q, k = q + 1 := ⟨k - 1, by omega⟩
    have hi' : i = l.length := by omega
    subst hi'
    simp only [tidingsref01_put.l0]
    rw [if_neg (by omega), if_pos (by omega), if_pos (by omega)]
    simp only [Option.bind_some, Int.toNat_natCast, List.take_length, List.drop_length, List.nil_append, putM, List.length_nil]
    rw [if_pos (by omega), if_pos (by omega), if_pos (by simp; omega)]
    simp
  | succ d ih =>
    intro k i hi hk
    obtain ⟨k, rfl⟩ : ∃ q, k = q + 1 := ⟨k - 1, by omega⟩
    simp only [tidingsref01_put.l0]
    rw [if_pos (by omega), if_pos (by omega), rd_nat', wrapN i (by omega), drop_consI l i (by omega)]
    simp only [putM]
    by_cases h1 : l.getD i 0 < n
    · rw [if_pos h1, if_pos h1, ih k (i + 1) (by omega) (by omega), take_succI l i (by omega)]
      simp
    · rw [if_neg h1, if_neg h1]
      have hsame : l.take i ++ l.getD i 0 :: l.drop (i + 1) = l := by rw [← drop_consI l i (by omega)]; exact List.take_append_drop i l
      by_cases h2 : l.getD i 0 = n
      · rw [if_pos h2, if_pos h2, hsame]
      · rw [if_neg h2, if_neg h2, if_pos (by omega)]
        simp only [Option.bind_some, Int.toNat_natCast, List.nil_append, List.length_nil]
        have e := drop_consI l i (by omega)
        have e1 : (l.take i).length = i := by rw [List.length_take]; omega
        have e2 : (l.drop i).length = d + 1 := by rw [List.length_drop]; omega
        rw [if_pos (by omega), if_pos (by omega), if_pos (by rw [List.length_append, e1, e2]; simp; omega), e]
        simp
theorem put_is (l : List Int) (hl : l.length ≤ 1000000) (n : Int) (k : Nat) (hk : l.length < k) : tidingsref01_put.f k l n = some (putM n l) := by
  have := put_from l hl n l.length k 0 (by omega) hk
  unfold tidingsref01_put.f
  simpa using this
/-- Is a pair told? (Without one pair, of a number that isn't 0.) -/
def isP (l : List S65) (rep wo r m : Int) : Bool := l.any (inRun r m) && !(decide (rep = r) && (decide (wo > 0) && decide (m = wo)))
/-- The runs of a replica, out of marks; what is open began there. -/
def goT (P : Int → Bool) (r : Int) : List Int → Option Int → List S65
  | [], none => []
  | [], some s => [⟨r, s, 0⟩]
  | m :: ms, none => if P m = true then goT P r ms (some m) else goT P r ms none
  | m :: ms, some s => if P m = true then goT P r ms (some s) else ⟨r, s, m - 1⟩ :: goT P r ms none
theorem still (P : Int → Bool) (lo : Int) (ms : List Int) (hch : ∀ m, lo ≤ m → P m ≠ P (m - 1) → m ∈ ms) (hi : Int) (hms : ∀ m ∈ ms, hi ≤ m) : ∀ d : Nat, lo + d < hi + 1 → P (lo - 1 + d) = P (lo - 1)
  | 0, _ => by simp
  | d + 1, h => by
    have ih := still P lo ms hch hi hms d (by omega)
    rw [← ih]
    apply Classical.byContradiction
    intro hne
    have e : lo - 1 + ((d : Nat) : Int) = lo - 1 + ((d + 1 : Nat) : Int) - 1 := by omega
    rw [e] at hne
    have := hms _ (hch (lo - 1 + ((d + 1 : Nat) : Int)) (by omega) hne)
    omega
theorem still' (P : Int → Bool) (lo : Int) (ms : List Int) (hch : ∀ m, lo ≤ m → P m ≠ P (m - 1) → m ∈ ms) (hi : Int) (hms : ∀ m ∈ ms, hi ≤ m) (n : Int) (h1 : lo - 1 ≤ n) (h2 : n < hi) : P n = P (lo - 1) := by
  have := still P lo ms hch hi hms (n - (lo - 1)).toNat (by omega)
  rwa [show lo - 1 + (((n - (lo - 1)).toNat : Nat) : Int) = n by omega] at this
theorem goT_spec (P : Int → Bool) (r : Int) (hr : r < 8) (N : Int) (hN : ∀ n, N ≤ n → P n = false) : ∀ (ms : List Int) (lo : Int), 1 ≤ lo → ms.Pairwise (· < ·) → (∀ m ∈ ms, lo ≤ m) → (∀ m, lo ≤ m → P m ≠ P (m - 1) → m ∈ ms) →
    (P (lo - 1) = false → Canon (goT P r ms none) ∧ (∀ x ∈ goT P r ms none, x.f0 = r ∧ lo ≤ x.f1) ∧ ∀ n, lo ≤ n → (Mem (goT P r ms none) r n ↔ P n = true)) ∧
    (∀ s, 1 ≤ s → s < lo → (∀ n, s ≤ n → n < lo → P n = true) → Canon (goT P r ms (some s)) ∧ (∀ x ∈ goT P r ms (some s), x.f0 = r ∧ s ≤ x.f1) ∧ ∀ n, s ≤ n → (Mem (goT P r ms (some s)) r n ↔ P n = true))
  | [], lo, h0, h1, h2, h3 => by
    refine ⟨fun hf => ⟨Canon_nil, fun x hx => (by cases hx), fun n hn => ?_⟩, fun s hs0 hs hp => ?_⟩
    · have := still' P lo [] h3 (n + 1) (fun m hm => (by cases hm)) n (by omega) (by omega)
      simp [goT, Mem_nil, this, hf]
    · exfalso
      have ht := hp (lo - 1) (by omega) (by omega)
      have := still' P lo [] h3 (max (N + 1) (lo + 1)) (fun m hm => (by cases hm)) (max N lo) (by omega) (by omega)
      rw [ht, hN _ (by omega)] at this
      cases this
  | m :: ms, lo, h0, h1, h2, h3 => by
    obtain ⟨q1, q2⟩ := List.pairwise_cons.1 h1
    have hm := h2 m (by simp)
    have hch : ∀ v, m + 1 ≤ v → P v ≠ P (v - 1) → v ∈ ms := fun v hv hne => by
      rcases List.mem_cons.1 (h3 v (by omega) hne) with rfl | h
      · omega
      · exact h
    obtain ⟨i1, i2⟩ := goT_spec P r hr N hN ms (m + 1) (by omega) q2 (fun v hv => by have := q1 v hv; omega) hch
    have hbef : ∀ n, lo - 1 ≤ n → n < m → P n = P (lo - 1) := fun n hn hn2 => still' P lo (m :: ms) h3 m (fun v hv => by
      rcases List.mem_cons.1 hv with rfl | hv
      · omega
      · have := q1 v hv; omega) n hn hn2
    rw [show m + 1 - 1 = m by omega] at i1
    refine ⟨fun hf => ?_, fun s hs0 hs hp => ?_⟩
    · simp only [goT]
      by_cases hpm : P m = true
      · rw [if_pos hpm]
        obtain ⟨k1, k2, k3⟩ := i2 m (by omega) (by omega) (fun n hn hn2 => by rw [show n = m by omega]; exact hpm)
        refine ⟨k1, fun x hx => ⟨(k2 x hx).1, by have := (k2 x hx).2; omega⟩, fun n hn => ?_⟩
        by_cases hnm : m ≤ n
        · exact k3 n hnm
        · have hb := hbef n (by omega) (by omega)
          rw [hb, hf]
          constructor
          · rintro ⟨x, hx, _, g1, g2⟩
            have := (k2 x hx).2
            omega
          · intro h; cases h
      · rw [if_neg hpm]
        obtain ⟨k1, k2, k3⟩ := i1 (by simpa using hpm)
        refine ⟨k1, fun x hx => ⟨(k2 x hx).1, by have := (k2 x hx).2; omega⟩, fun n hn => ?_⟩
        by_cases hnm : m + 1 ≤ n
        · exact k3 n hnm
        · have hb : P n = false := by
            by_cases e : n = m
            · rw [e]; simpa using hpm
            · rw [hbef n (by omega) (by omega), hf]
          rw [hb]
          constructor
          · rintro ⟨x, hx, _, g1, g2⟩
            have := (k2 x hx).2
            omega
          · intro h; cases h
    · have hlo := hp (lo - 1) (by omega) (by omega)
      have hpre : ∀ n, s ≤ n → n < m → P n = true := fun n hn hn2 => by
        by_cases e : n < lo
        · exact hp n hn e
        · rw [hbef n (by omega) hn2, hlo]
      simp only [goT]
      by_cases hpm : P m = true
      · rw [if_pos hpm]
        exact i2 s hs0 (by omega) (fun n hn hn2 => by
          by_cases e : n = m
          · rw [e]; exact hpm
          · exact hpre n hn (by omega))
      · rw [if_neg hpm]
        obtain ⟨k1, k2, k3⟩ := i1 (by simpa using hpm)
        refine ⟨Canon_cons.2 ⟨(runB_iff _).2 ⟨hr, hs0, by show s ≤ m - 1; omega⟩, fun y hy => (apartB_iff _ _).2 (.inr ⟨(k2 y hy).1.symm, by show m - 1 + 1 < y.f1; have := (k2 y hy).2; omega⟩), k1⟩, fun x hx => ?_, fun n hn => ?_⟩
        · rcases List.mem_cons.1 hx with rfl | hx
          · exact ⟨rfl, Int.le_refl _⟩
          · exact ⟨(k2 x hx).1, by have := (k2 x hx).2; omega⟩
        · rw [Mem_cons]
          show (r = r ∧ s ≤ n ∧ n ≤ m - 1) ∨ _ ↔ _
          by_cases hnm : n < m
          · rw [hpre n hn hnm]
            exact ⟨fun _ => rfl, fun _ => .inl ⟨rfl, hn, by omega⟩⟩
          · by_cases e : n = m
            · have hf : P n = false := by rw [e]; simpa using hpm
              rw [hf]
              constructor
              · rintro (h | ⟨x, hx, _, g1, g2⟩)
                · omega
                · have := (k2 x hx).2; omega
              · intro h; cases h
            · rw [← k3 n (by omega)]
              constructor
              · rintro (h | h)
                · omega
                · exact h
              · exact .inr
end Go.Proofs.YtiminjibcafkaaaDoor.X
end
section
/- What the reference of layer 1 tells: its loops. -/
namespace Go.Proofs.YtiminjibcafkaaaDoor.X
open Go.RowKit Go.Proofs.YtiminjibcafkaaaDoorW.PrintWords Go.Proofs.YtiminjibcafkaaaDoorW.PrintLast Go.Proofs.YtiminjibcafkaaaDoorW.PrintMore
set_option linter.unusedVariables false
set_option linter.unusedSimpArgs false
section
variable (l : List S65) (hl : l.length ≤ 1000) (ok : ∀ z ∈ l, Ok_Run z) (rep wo : Int) (hrep : In8 rep) (hwo : In32 wo)
include hl ok hrep
theorem told_l1 (out : List S65) (r : Int) : ∀ d k i : Nat, ∀ M : List Int, i + d = l.length → d + 5000 < k → M.Pairwise (· < ·) → M.length ≤ 2 * i →
    ∃ M', M'.Pairwise (· < ·) ∧ (∀ v, v ∈ M' ↔ v ∈ M ∨ ∃ x ∈ l.drop i, x.f0 = r ∧ (v = x.f1 ∨ v = x.f2 + 1)) ∧ M'.length ≤ 2 * l.length ∧
      tidingsref01_told.l1 k l rep wo out r M (i : Int) = (if rep = r then tidingsref01_told.j2 (k - d - 1) l rep wo out r M' (decide (wo > 0)) else tidingsref01_told.j2 (k - d - 1) l rep wo out r M' false) := by
  have ew : wrap64 rep = rep := w64_id _ (by unfold In8 at hrep; omega)
  intro d
  induction d with
  | zero =>
    intro k i M hi hk hM hML
    obtain ⟨k, rfl⟩ : ∃ q, k = q + 1 := ⟨k - 1, by omega⟩
    refine ⟨M, hM, fun v => ?_, by omega, ?_⟩
    · rw [List.drop_of_length_le (by omega)]; simp
    · simp only [tidingsref01_told.l1]
      rw [if_neg (by omega), ew]
      simp
  | succ d ih =>
    intro k i M hi hk hM hML
    obtain ⟨k, rfl⟩ : ∃ q, k = q + 1 := ⟨k - 1, by omega⟩
    obtain ⟨o0, o1, o2⟩ := ok _ (getDR l i (by omega))
    unfold In8 at o0
    unfold In32 at o1 o2
    have hd := dropR_cons l i (by omega)
    simp only [tidingsref01_told.l1]
    rw [if_pos (by omega), if_pos (by omega), rdR, w64_id _ (by omega), wrapN i (by omega), u64_id _ (by omega), u64_id (l.getD i z65).f2 (by omega), u64_id _ (by omega)]
    generalize l.getD i z65 = x at *
    have ek : k + 1 - (d + 1) - 1 = k - d - 1 := by omega
    rw [ek]
    by_cases h0 : x.f0 = r
    · rw [if_pos h0, put_is M (by omega) x.f1 k (by omega)]
      simp only [Option.bind_some]
      have l1 := putM_length x.f1 M
      have l2 := putM_length (x.f2 + 1) (putM x.f1 M)
      rw [put_is (putM x.f1 M) (by omega) (x.f2 + 1) k (by omega)]
      simp only [Option.bind_some]
      obtain ⟨M', m1, m2, m3, m4⟩ := ih k (i + 1) (putM (x.f2 + 1) (putM x.f1 M)) (by omega) (by omega) (putM_rise _ _ (putM_rise _ _ hM)) (by omega)
      refine ⟨M', m1, fun v => ?_, m3, m4⟩
      rw [m2, putM_mem, putM_mem, hd]
      constructor
      · rintro ((h | h | h) | ⟨y, hy, h⟩)
        · exact .inr ⟨x, by simp, h0, .inr h⟩
        · exact .inr ⟨x, by simp, h0, .inl h⟩
        · exact .inl h
        · exact .inr ⟨y, by simp [hy], h⟩
      · rintro (h | ⟨y, hy, h1, h2⟩)
        · exact .inl (.inr (.inr h))
        · rcases List.mem_cons.1 hy with rfl | hy
          · rcases h2 with h2 | h2
            · exact .inl (.inr (.inl h2))
            · exact .inl (.inl h2)
          · exact .inr ⟨y, hy, h1, h2⟩
    · rw [if_neg h0]
      obtain ⟨M', m1, m2, m3, m4⟩ := ih k (i + 1) M (by omega) (by omega) hM (by omega)
      refine ⟨M', m1, fun v => ?_, m3, m4⟩
      rw [m2, hd]
      constructor
      · rintro (h | ⟨y, hy, h⟩)
        · exact .inl h
        · exact .inr ⟨y, by simp [hy], h⟩
      · rintro (h | ⟨y, hy, h1, h2⟩)
        · exact .inl h
        · rcases List.mem_cons.1 hy with rfl | hy
          · exact absurd h1 h0
          · exact .inr ⟨y, hy, h1, h2⟩
include hwo
/-- The marks of a replica: where what is told of it may change. -/
theorem told_marks (out : List S65) (r : Int) (k : Nat) (hk : l.length + 5003 < k) :
    ∃ M, M.Pairwise (· < ·) ∧ (∀ v ∈ M, 0 ≤ v ∧ v ≤ 4294967296) ∧ ((∀ x ∈ l, runB x = true) → ∀ v ∈ M, 1 ≤ v) ∧ (∀ m, isP l rep wo r m ≠ isP l rep wo r (m - 1) → m ∈ M) ∧ M.length ≤ 2 * l.length + 2 ∧
      tidingsref01_told.l1 k l rep wo out r [] 0 = tidingsref01_told.l2 (k - l.length - 3) l rep wo out r M false 0 := by
  unfold In32 at hwo
  obtain ⟨M, m1, m2, m3, m4⟩ := told_l1 l hl ok rep wo hrep out r l.length k 0 [] (by omega) (by omega) List.Pairwise.nil (by simp)
  have hany : ∀ m, (∀ x ∈ l, x.f0 = r → m ≠ x.f1 ∧ m ≠ x.f2 + 1) → l.any (inRun r m) = l.any (inRun r (m - 1)) := by
    intro m hm
    rw [Bool.eq_iff_iff, any_iff, any_iff]
    constructor
    · rintro ⟨x, hx, h1, h2, h3⟩
      have := hm x hx h1
      exact ⟨x, hx, h1, by omega, by omega⟩
    · rintro ⟨x, hx, h1, h2, h3⟩
      have := hm x hx h1
      exact ⟨x, hx, h1, by omega, by omega⟩
  have m2' : ∀ v, v ∈ M ↔ ∃ x ∈ l, x.f0 = r ∧ (v = x.f1 ∨ v = x.f2 + 1) := fun v => by rw [m2]; simp
  have hin : ∀ v ∈ M, 0 ≤ v ∧ v ≤ 4294967296 := fun v hv => by
    obtain ⟨x, hx, _, h⟩ := (m2' v).1 hv
    obtain ⟨_, o1, o2⟩ := ok x hx
    unfold In32 at o1 o2
    omega
  have hin1 : (∀ x ∈ l, runB x = true) → ∀ v ∈ M, 1 ≤ v := fun hb v hv => by
    obtain ⟨x, hx, _, h⟩ := (m2' v).1 hv
    have := (runB_iff x).1 (hb x hx)
    omega
  have e1 : k - l.length - 1 = (k - l.length - 3) + 1 + 1 := by omega
  simp only [Int.natCast_zero, Int.ofNat_zero] at m4
  by_cases hr : rep = r ∧ wo > 0
  · obtain ⟨hr1, hr2⟩ := hr
    refine ⟨putM (wo + 1) (putM wo M), putM_rise _ _ (putM_rise _ _ m1), fun v hv => ?_, fun hb v hv => ?_, fun m hm => ?_, ?_, ?_⟩
    · rw [putM_mem, putM_mem] at hv
      rcases hv with h | h | h
      · omega
      · omega
      · exact hin v h
    · rw [putM_mem, putM_mem] at hv
      rcases hv with h | h | h
      · omega
      · omega
      · exact hin1 hb v h
    · rw [putM_mem, putM_mem]
      apply Classical.byContradiction
      intro hn
      have n1 : m ≠ wo + 1 := fun h => hn (.inl h)
      have n2 : m ≠ wo := fun h => hn (.inr (.inl h))
      have n3 : m ∉ M := fun h => hn (.inr (.inr h))
      refine hm ?_
      unfold isP
      rw [hany m (fun x hx h => ⟨fun h2 => n3 ((m2' m).2 ⟨x, hx, h, .inl h2⟩), fun h2 => n3 ((m2' m).2 ⟨x, hx, h, .inr h2⟩)⟩)]
      rw [decide_eq_false n2, decide_eq_false (show ¬ m - 1 = wo by omega)]
    · have := putM_length (wo + 1) (putM wo M)
      have := putM_length wo M
      omega
    · have l1 := putM_length wo M
      rw [m4, if_pos hr1, e1]
      simp only [tidingsref01_told.j2]
      rw [if_pos (decide_eq_true hr2), u64_id wo (by omega), u64_id (wo + 1) (by omega), put_is M (by omega) wo _ (by omega)]
      simp only [Option.bind_some]
      rw [put_is (putM wo M) (by omega) (wo + 1) _ (by omega)]
      simp only [Option.bind_some, tidingsref01_told.j3]
  · refine ⟨M, m1, hin, hin1, fun m hm => ?_, by omega, ?_⟩
    · apply Classical.byContradiction
      intro n3
      refine hm ?_
      unfold isP
      rw [hany m (fun x hx h => ⟨fun h2 => n3 ((m2' m).2 ⟨x, hx, h, .inl h2⟩), fun h2 => n3 ((m2' m).2 ⟨x, hx, h, .inr h2⟩)⟩)]
      have hz : ∀ v : Int, (decide (rep = r) && (decide (wo > 0) && decide (v = wo))) = false := fun v => by
        rw [Bool.eq_false_iff]
        intro h
        simp only [Bool.and_eq_true, decide_eq_true_eq] at h
        exact hr ⟨h.1, h.2.1⟩
      rw [hz, hz]
    · have hj : tidingsref01_told.j2 (k - l.length - 1) l rep wo out r M false = tidingsref01_told.l2 (k - l.length - 3) l rep wo out r M false 0 := by
        rw [e1]
        simp only [tidingsref01_told.j2, tidingsref01_told.j3, Bool.false_eq_true, if_false]
      rw [m4]
      by_cases hr1 : rep = r
      · rw [if_pos hr1, decide_eq_false (fun h => hr ⟨hr1, h⟩), hj]
      · rw [if_neg hr1, hj]
omit hl hrep hwo in
theorem isP_lt (r m : Int) (h : isP l rep wo r m = true) : 0 ≤ m ∧ m ≤ 4294967295 := by
  unfold isP at h
  rw [Bool.and_eq_true, any_iff] at h
  have := (mem_ok ok r m h.1).2
  unfold In32 at this
  exact this
/-- What stands behind what is told already: a run that is open. -/
def opn (r : Int) : Option Int → List S65
  | none => []
  | some s => [⟨r, s, 0⟩]
theorem told_l2 (r : Int) (hr : 0 ≤ r ∧ r < 8) (M : List Int) (hML : M.length ≤ 2002) (hM : ∀ v ∈ M, 1 ≤ v ∧ v ≤ 4294967296) : ∀ d k i : Nat, ∀ (o : Option Int) (pre : List S65), i + d = M.length → 3 * d + 5000 < k → pre.length + d ≤ 100000 →
    tidingsref01_told.l2 k l rep wo (pre ++ opn r o) r M o.isSome (i : Int) = tidingsref01_told.l0 (k - 3 * d - 1) l rep wo (pre ++ goT (isP l rep wo r) r (M.drop i) o) (r + 1) := by
  have ew : wrap64 rep = rep := w64_id _ (by unfold In8 at hrep; omega)
  have ewo : IntKind.u64.wrap wo = wo := u64_id _ (by unfold In32 at hwo; omega)
  have er : r % 256 = r := by omega
  have er1 : wrap64 (r + 1) = r + 1 := w64_id _ (by omega)
  intro d
  induction d with
  | zero =>
    intro k i o pre hi hk hp
    obtain ⟨k, rfl⟩ : ∃ q, k = q + 1 := ⟨k - 1, by omega⟩
    simp only [tidingsref01_told.l2]
    rw [if_neg (by omega), er1, List.drop_of_length_le (by omega)]
    cases o <;> rfl
  | succ d ih =>
    intro k i o pre hi hk hp
    obtain ⟨k, rfl⟩ : ∃ q, k = q + 1 + 1 + 1 := ⟨k - 3, by omega⟩
    have hm := hM _ (show M.getD i 0 ∈ M by rw [List.getD_eq_getElem?_getD, List.getElem?_eq_getElem (by omega : i < M.length)]; exact List.getElem_mem _)
    have hd := drop_consI M i (by omega)
    have ek : k + 1 + 1 + 1 - 3 * (d + 1) - 1 = k - 3 * d - 1 := by omega
    have hj : ∀ b : Bool, b = isP l rep wo r (M.getD i 0) → tidingsref01_told.j5 (k + 1 + 1) l rep wo (pre ++ opn r o) r M o.isSome (i : Int) b = tidingsref01_told.l0 (k - 3 * d - 1) l rep wo (pre ++ goT (isP l rep wo r) r (M.drop i) o) (r + 1) := by
      intro b hb
      rw [hd]
      simp only [tidingsref01_told.j5, tidingsref01_told.j6]
      rw [wrapN i (by omega)]
      cases b with
      | true =>
        have hlt := isP_lt l ok rep wo r _ hb.symm
        cases o with
        | none =>
          simp only [if_true, Option.isSome_none, Bool.not_false, opn, List.append_nil, goT, ← hb]
          rw [if_pos (by omega), if_pos (by omega), if_pos (by omega), rd_nat', er, show M.getD i 0 % 4294967296 = M.getD i 0 by omega]
          simp only [Option.bind_some]
          exact ih k (i + 1) (some (M.getD i 0)) pre (by omega) (by omega) (by omega)
        | some s =>
          simp only [if_true, Option.isSome_some, Bool.not_true, Bool.false_eq_true, if_false, goT, ← hb]
          exact ih k (i + 1) (some s) pre (by omega) (by omega) (by omega)
      | false =>
        cases o with
        | none =>
          simp only [if_true, Option.isSome_none, Bool.false_eq_true, if_false, goT, ← hb]
          exact ih k (i + 1) none pre (by omega) (by omega) (by omega)
        | some s =>
          have hlen : ((pre ++ opn r (some s)).length : Int) = ((pre.length + 1 : Nat) : Int) := by simp [opn]
          have hw : wrap64 (((pre ++ opn r (some s)).length : Int) - 1) = (pre.length : Int) := by rw [hlen]; unfold wrap64; omega
          have hlast : rd_T65 (pre ++ opn r (some s)) (pre.length : Int) = ⟨r, s, 0⟩ := by
            rw [rdR, List.getD_eq_getElem?_getD, List.getElem?_append_right (Nat.le_refl _)]
            simp [opn]
          have hset : ∀ v : S65, (pre ++ opn r (some s)).set (pre.length : Int).toNat v = pre ++ [v] := fun v => by
            rw [Int.toNat_natCast, List.set_append_right _ _ (Nat.le_refl _)]
            simp [opn]
          simp only [if_true, Option.isSome_some, Bool.false_eq_true, if_false, goT, ← hb]
          rw [hw, if_pos (by omega), if_pos (by omega), if_pos (by omega), if_pos (by rw [hlen]; omega), hlast, hset, rd_nat', u64_id _ (by omega), show (M.getD i 0 - 1) % 4294967296 = M.getD i 0 - 1 by omega]
          have := ih k (i + 1) none (pre ++ [⟨r, s, M.getD i 0 - 1⟩]) (by omega) (by omega) (by simp; omega)
          simpa [opn] using this
    simp only [tidingsref01_told.l2]
    rw [if_pos (by omega), if_pos (by omega), rd_nat', er, in01_is l (by omega) ok r _ _ (by omega), ew, ewo, ek]
    simp only [Option.bind_some]
    cases ha : l.any (inRun r (M.getD i 0)) with
    | false =>
      simp only [Bool.false_eq_true, if_false]
      exact hj false (by unfold isP; rw [ha]; rfl)
    | true =>
      simp only [if_true]
      by_cases h1 : rep = r
      · rw [if_pos h1]
        by_cases h2 : wo > 0
        · rw [if_pos h2]
          exact hj _ (by unfold isP; rw [ha, decide_eq_true h1, decide_eq_true h2]; rfl)
        · rw [if_neg h2]
          exact hj _ (by unfold isP; rw [ha, decide_eq_false h2]; simp)
      · rw [if_neg h1]
        exact hj _ (by unfold isP; rw [ha, decide_eq_false h1]; simp)
end
end Go.Proofs.YtiminjibcafkaaaDoor.X
end
section
/- What the reference of layer 1 tells: the runs of a set, in its one way. -/
namespace Go.Proofs.YtiminjibcafkaaaDoor.X
open Go.RowKit Go.Proofs.YtiminjibcafkaaaDoorW.PrintWords Go.Proofs.YtiminjibcafkaaaDoorW.PrintLast Go.Proofs.YtiminjibcafkaaaDoorW.PrintMore
set_option linter.unusedVariables false
set_option linter.unusedSimpArgs false
def finR (l : List S65) : List S65 × Int := if (l.length : Int) > 64 then ([], 5) else (l, 0)
theorem goT_length (P : Int → Bool) (r : Int) : ∀ (ms : List Int) (o : Option Int), (goT P r ms o).length ≤ ms.length + 1
  | [], none => by simp [goT]
  | [], some s => by simp [goT]
  | m :: ms, none => by
    simp only [goT]
    split
    · have := goT_length P r ms (some m); simp; omega
    · have := goT_length P r ms none; simp; omega
  | m :: ms, some s => by
    simp only [goT]
    split
    · have := goT_length P r ms (some s); simp; omega
    · have := goT_length P r ms none; simp; omega
set_option maxRecDepth 100000 in
theorem told_l0 (l : List S65) (hl : l.length ≤ 1000) (ok : ∀ z ∈ l, Ok_Run z) (hb : ∀ x ∈ l, runB x = true) (rep wo : Int) (hrep : In8 rep) (hwo : In32 wo) : ∀ d k r : Nat, ∀ out : List S65, r + d = 8 → d * 8000 + 6000 < k → out.length ≤ r * 2100 → Canon out →
    (∀ a n, Mem out a n ↔ 0 ≤ a ∧ a < (r : Int) ∧ isP l rep wo a n = true) →
    ∃ L, Canon L ∧ (∀ a n, Mem L a n ↔ 0 ≤ a ∧ a < 8 ∧ isP l rep wo a n = true) ∧ tidingsref01_told.l0 k l rep wo out (r : Int) = some (finR L) := by
  intro d
  induction d with
  | zero =>
    intro k r out hr hk ho hc hm
    obtain ⟨k, rfl⟩ : ∃ q, k = q + 1 := ⟨k - 1, by omega⟩
    have hr8 : r = 8 := by omega
    subst hr8
    refine ⟨out, hc, hm, ?_⟩
    simp only [tidingsref01_told.l0]
    rw [if_neg (by decide)]
    unfold finR
    by_cases hq : (out.length : Int) > 64
    · rw [if_pos hq, if_pos hq]
    · rw [if_neg hq, if_neg hq]
  | succ d ih =>
    intro k r out hr hk ho hc hm
    obtain ⟨k, rfl⟩ : ∃ q, k = q + 1 := ⟨k - 1, by omega⟩
    obtain ⟨M, m1, m2, m3, m4, m5, m6⟩ := told_marks l hl ok rep wo hrep hwo out (r : Int) k (by omega)
    have h2 := told_l2 l hl ok rep wo hrep hwo (r : Int) (by omega) M (by omega) (fun v hv => ⟨m3 hb v hv, (m2 v hv).2⟩) M.length (k - l.length - 3) 0 none out (by omega) (by omega) (by omega)
    simp only [tidingsref01_told.l0]
    rw [if_pos (by omega), m6]
    simp only [opn, List.append_nil, Option.isSome_none, List.drop_zero, Int.natCast_zero, Int.ofNat_zero] at h2
    rw [h2]
    obtain ⟨g1, _⟩ := goT_spec (isP l rep wo r) (r : Int) (by omega) 4294967296 (fun n hn => by
      rw [Bool.eq_false_iff]; intro h; have := isP_lt l ok rep wo _ _ h; omega) M 1 (by decide) m1 (fun v hv => m3 hb v hv) (fun m _ h => m4 m h)
    obtain ⟨c1, c2, c3⟩ := g1 (by
      rw [Bool.eq_false_iff]
      intro h
      unfold isP at h
      rw [Bool.and_eq_true, any_iff] at h
      obtain ⟨x, hx, _, h3, _⟩ := h.1
      have := (runB_iff x).1 (hb x hx)
      omega)
    have hgl := goT_length (isP l rep wo r) (r : Int) M none
    have hlow : ∀ x ∈ out, 0 ≤ x.f0 ∧ x.f0 < (r : Int) := fun x hx => by
      have hx1 := (runB_iff x).1 (hc.1 x hx)
      have := (hm x.f0 x.f1).1 ⟨x, hx, rfl, by omega, by omega⟩
      omega
    have hk1 : r + 1 + d = 8 := by omega
    have hk2 : d * 8000 + 6000 < k - l.length - 3 - 3 * M.length - 1 := by omega
    have hk3 : (out ++ goT (isP l rep wo r) (r : Int) M none).length ≤ (r + 1) * 2100 := by rw [List.length_append, Nat.add_mul]; omega
    have := ih (k - l.length - 3 - 3 * M.length - 1) (r + 1) (out ++ goT (isP l rep wo r) r M none) hk1 hk2 hk3
      (Canon_append hc c1 (fun x hx y hy => (apartB_iff _ _).2 (.inl (by have := hlow x hx; have := (c2 y hy).1; omega))))
      (fun a n => by
        rw [Mem_append, hm]
        constructor
        · rintro (⟨q1, q2, q3⟩ | hq)
          · exact ⟨q1, by omega, q3⟩
          · obtain ⟨x, hx, e1, e2, e3⟩ := hq
            have hx2 := c2 x hx
            have ea : a = (r : Int) := by omega
            subst ea
            exact ⟨by omega, by omega, (c3 n (by omega)).1 ⟨x, hx, e1, e2, e3⟩⟩
        · rintro ⟨q1, q2, q3⟩
          by_cases ea : a = (r : Int)
          · subst ea
            refine .inr ((c3 n ?_).2 q3)
            unfold isP at q3
            rw [Bool.and_eq_true, any_iff] at q3
            obtain ⟨x, hx, _, h3, _⟩ := q3.1
            have := (runB_iff x).1 (hb x hx)
            omega
          · exact .inl ⟨q1, by omega, q3⟩)
    simpa using this
theorem told_is (l : List S65) (hl : l.length ≤ 1000) (ok : ∀ z ∈ l, Ok_Run z) (hb : ∀ x ∈ l, runB x = true) (rep wo : Int) (hrep : In8 rep) (hwo : In32 wo) (k : Nat) (hk : 70000 < k) :
    ∃ L, Canon L ∧ (∀ a n, Mem L a n ↔ Mem l a n ∧ ¬ (wo > 0 ∧ a = rep ∧ n = wo)) ∧ tidingsref01_told.f k l rep wo = some (finR L) := by
  have hk8 : 8 * 8000 + 6000 < k := by omega
  have hz : ([] : List S65).length ≤ 0 * 2100 := by simp
  have hm : ∀ a n, Mem [] a n ↔ 0 ≤ a ∧ a < ((0 : Nat) : Int) ∧ isP l rep wo a n = true := fun a n => by
    constructor
    · intro h; exact absurd h (Mem_nil _ _)
    · rintro ⟨q1, q2, _⟩; exfalso; omega
  obtain ⟨L, h1, h2, h3⟩ := told_l0 l hl ok hb rep wo hrep hwo 8 k 0 [] rfl hk8 hz Canon_nil hm
  refine ⟨L, h1, fun a n => ?_, ?_⟩
  · rw [h2]
    unfold isP
    rw [Bool.and_eq_true, any_iff]
    constructor
    · rintro ⟨q1, q2, q3, q4⟩
      refine ⟨q3, ?_⟩
      rintro ⟨p1, p2, p3⟩
      simp [p1, p2, p3] at q4
    · rintro ⟨q1, q2⟩
      have q3 : 0 ≤ a ∧ a < 8 := by
        obtain ⟨x, hx, e1, _⟩ := q1
        have h8 := (runB_iff x).1 (hb x hx)
        have hok := (ok x hx).1
        unfold In8 at hok
        omega
      refine ⟨q3.1, q3.2, q1, ?_⟩
      rw [Bool.not_eq_true', Bool.eq_false_iff]
      intro hh
      simp only [Bool.and_eq_true, decide_eq_true_eq] at hh
      exact q2 ⟨hh.2.1, hh.1.symm, hh.2.2⟩
  · unfold tidingsref01_told.f
    simpa using h3
theorem ref01_Right_from (l : List S65) (hl : l.length ≤ 1000000) (ok : ∀ z ∈ l, Ok_Run z) : ∀ d k i : Nat, i + d = l.length → 2 * d < k → tidingsref01_Right.l0 k l (i : Int) = some (okKFrom l d i && decide ((l.length : Int) ≤ 64)) := by
  intro d
  induction d with
  | zero =>
    intro k i hi hk
    obtain ⟨k, rfl⟩ : ∃ m, k = m + 1 := ⟨k - 1, by omega⟩
    simp only [tidingsref01_Right.l0, okKFrom]
    rw [if_neg (by omega), Bool.true_and]
  | succ d ih =>
    intro k i hi hk
    obtain ⟨k, rfl⟩ : ∃ m, k = m + 1 + 1 := ⟨k - 2, by omega⟩
    obtain ⟨o0, o1, o2⟩ := ok _ (getDR l i (by omega))
    unfold In32 at o1 o2
    have e := ih k (i + 1) (by omega) (by omega)
    have hj : ∀ b : Bool, b = !runB (l.getD i z65) → tidingsref01_Right.j1 (k + 1) l (i : Int) b = some (okKFrom l (d + 1) i && decide ((l.length : Int) ≤ 64)) := by
      intro b hb
      simp only [tidingsref01_Right.j1, okKFrom, okK]
      cases hr : runB (l.getD i z65) with
      | false => rw [hr] at hb; subst hb; simp
      | true =>
        rw [hr] at hb
        subst hb
        simp only [Bool.not_true, Bool.false_eq_true, if_false, Bool.true_and]
        rw [wrapN i (by omega), e]
        by_cases h0 : i = 0
        · subst h0; simp
        · obtain ⟨_, _, p2⟩ := ok _ (getDR l (i - 1) (by omega))
          unfold In32 at p2
          rw [if_pos (by omega), wrapNp i (by omega) (by omega), if_pos (by omega), if_pos (by omega), if_pos (by omega), if_pos (by omega), rdR, rdR, u64_id (l.getD (i - 1) z65).f2 (by omega), u64_id _ (by omega), u64_id _ (by omega), decide_eq_false h0, Bool.false_or]
          unfold apartB
          generalize l.getD (i - 1) z65 = a at *
          generalize l.getD i z65 = b at *
          by_cases h1 : a.f0 > b.f0
          · rw [if_pos h1, decide_eq_false (show ¬ a.f0 < b.f0 by omega), decide_eq_false (show ¬ a.f0 = b.f0 by omega)]; rfl
          · rw [if_neg h1]
            by_cases h2 : a.f0 = b.f0
            · rw [if_pos h2, decide_eq_true h2, decide_eq_false (show ¬ a.f0 < b.f0 by omega)]
              by_cases h3 : a.f2 + 1 ≥ b.f1
              · rw [if_pos h3, decide_eq_false (show ¬ a.f2 + 1 < b.f1 by omega)]; rfl
              · rw [if_neg h3, decide_eq_true (show a.f2 + 1 < b.f1 by omega)]; rfl
            · rw [if_neg h2, decide_eq_true (show a.f0 < b.f0 by omega)]; rfl
    simp only [tidingsref01_Right.l0]
    rw [if_pos (by omega), if_pos (by omega), rdR]
    by_cases h1 : (l.getD i z65).f0 ≥ 8
    · rw [if_pos h1]
      exact hj true (by unfold runB; rw [decide_eq_false (by omega)]; rfl)
    · rw [if_neg h1]
      by_cases h2 : (l.getD i z65).f1 = 0
      · rw [if_pos h2]
        exact hj true (by unfold runB; rw [decide_eq_false (show ¬ 1 ≤ (l.getD i z65).f1 by omega)]; simp)
      · rw [if_neg h2]
        refine hj _ ?_
        unfold runB
        rw [decide_eq_true (show (l.getD i z65).f0 < 8 by omega), decide_eq_true (show 1 ≤ (l.getD i z65).f1 by omega), Bool.true_and, Bool.true_and, ← decide_not]
        exact decide_eq_decide.2 (by omega)
theorem ref01_Right_is (l : List S65) (hl : l.length ≤ 1000000) (ok : ∀ z ∈ l, Ok_Run z) (k : Nat) (hk : 2 * l.length < k) : tidingsref01_Right.f k l = some (rightK l) := ref01_Right_from l hl ok l.length k 0 (by omega) hk
theorem ref01_Has_from (l : List S65) (hl : l.length ≤ 1000000) (r m : Int) : ∀ d k i : Nat, i + d = l.length → d < k → tidingsref01_Has.l0 k l r m (i : Int) = some ((l.drop i).any (inRun r m)) := by
  intro d
  induction d with
  | zero =>
    intro k i hi hk
    obtain ⟨k, rfl⟩ : ∃ q, k = q + 1 := ⟨k - 1, by omega⟩
    simp only [tidingsref01_Has.l0]
    rw [if_neg (by omega), List.drop_of_length_le (by omega)]
    rfl
  | succ d ih =>
    intro k i hi hk
    obtain ⟨k, rfl⟩ : ∃ q, k = q + 1 := ⟨k - 1, by omega⟩
    simp only [tidingsref01_Has.l0]
    rw [if_pos (by omega), if_pos (by omega), rdR, wrapN i (by omega), ih k (i + 1) (by omega) (by omega), dropR_cons l i (by omega), List.any_cons]
    generalize l.getD i z65 = x
    unfold inRun
    by_cases h0 : x.f0 = r
    · rw [if_pos h0]
      by_cases h1 : m ≥ x.f1
      · rw [if_pos h1]
        by_cases h2 : m ≤ x.f2
        · rw [if_pos h2]; simp [h0, h2, show x.f1 ≤ m from h1]
        · rw [if_neg h2]; simp [h2]
      · rw [if_neg h1]; simp [show ¬ x.f1 ≤ m from h1]
    · rw [if_neg h0]; simp [h0]
/-- The same answer, its error as a number. -/
def num (p : List S65 × Option Int) : List S65 × Int := (p.1, p.2.getD 0)
theorem num_fin (l : List S65) : num (fin l) = finR l := by
  unfold num fin finR
  split <;> rfl
theorem ref01_Union_is (x y : List S65) (hx : x.length ≤ 450) (hy : y.length ≤ 450) (ox : ∀ z ∈ x, Ok_Run z) (oy : ∀ z ∈ y, Ok_Run z) (k : Nat) (hk : 80000 < k) : tidingsref01_Union.f k x y = some (num (unionF x y)) := by
  unfold tidingsref01_Union.f unionF
  rw [ref01_Right_is x (by omega) ox k (by omega), ref01_Right_is y (by omega) oy k (by omega)]
  simp only [Option.bind_some, List.nil_append, List.length_nil]
  cases hR : rightK x with
  | false => simp [num]
  | true =>
    cases hR2 : rightK y with
    | false => simp [num]
    | true =>
      have hc := ((rightK_iff x).1 hR).1
      have hc2 := ((rightK_iff y).1 hR2).1
      simp only [if_true, Bool.and_self]
      have hb : ∀ z ∈ x ++ y, runB z = true := fun z hz => by
        rcases List.mem_append.1 hz with hz | hz
        · exact hc.1 z hz
        · exact hc2.1 z hz
      have ho : ∀ z ∈ x ++ y, Ok_Run z := fun z hz => by
        rcases List.mem_append.1 hz with hz | hz
        · exact ox z hz
        · exact oy z hz
      obtain ⟨L, c1, c2, c3⟩ := told_is (x ++ y) (by simp; omega) ho hb 0 0 (by unfold In8; omega) (by unfold In32; omega) k (by omega)
      obtain ⟨a1, a2⟩ := mergeL_spec _ hb
      have e : L = mergeL (x ++ y) := Canon_uniq _ _ c1 a1 (fun a b => by
        rw [c2, a2]
        constructor
        · exact fun h => h.1
        · exact fun h => ⟨h, by rintro ⟨h, _⟩; omega⟩)
      rw [if_pos (by omega), if_pos (by omega), c3, e, num_fin]
      rfl
theorem Same01_from (a : List S65) (hl : a.length ≤ 1000000) : ∀ d k i : Nat, i + d = a.length → d < k → tidingsref01_Same.l0 k a a (i : Int) = some true := by
  intro d
  induction d with
  | zero =>
    intro k i hi hk
    obtain ⟨k, rfl⟩ : ∃ m, k = m + 1 := ⟨k - 1, by omega⟩
    simp only [tidingsref01_Same.l0]
    rw [if_neg (by omega)]
  | succ d ih =>
    intro k i hi hk
    obtain ⟨k, rfl⟩ : ∃ m, k = m + 1 := ⟨k - 1, by omega⟩
    simp only [tidingsref01_Same.l0]
    rw [if_pos (by omega), if_pos (by omega), if_pos (by omega), rdR, wrapN i (by omega), ih k (i + 1) (by omega) (by omega)]
    generalize a.getD i z65 = x
    simp
theorem Same01_is (a : List S65) (hl : a.length ≤ 1000000) (k : Nat) (hk : a.length < k) : tidingsref01_Same.f k a a = some true := by
  unfold tidingsref01_Same.f
  rw [if_pos rfl]
  exact Same01_from a hl a.length k 0 (by omega) hk
end Go.Proofs.YtiminjibcafkaaaDoor.X
end
section
/- Regions that draw their order, walked once in the text's order, in the class of worlds that leave what was: words for such walks. -/
namespace Go.Proofs.YtiminjibcafkaaaDoor.X
open Go.RowKit Go.Proofs.YtiminjibcafkaaaDoorW.PrintWords Go.Proofs.YtiminjibcafkaaaDoorW.PrintLast Go.Proofs.YtiminjibcafkaaaDoorW.PrintMore
set_option linter.unusedVariables false
/-- The worlds that leave what was below block B. -/
def Qc (B : Nat) (w0 : World) (w : World) : Prop := Below B w0 w
theorem Qc.cell {B : Nat} {w0 w : World} (h : Qc B w0 w) {b o : Nat} (hb : b < B) {v : Value} (hv : w0.cell? ⟨b, o, none⟩ = some v) : w.cell? ⟨b, o, none⟩ = some v := (Below.cell (p := ⟨b, o, none⟩) h hb).trans hv
end Go.Proofs.YtiminjibcafkaaaDoor.X
end
