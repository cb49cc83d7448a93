/- Texts that this claim's law comes to, joined by wip/slim.py: Xpureknow, Xpureknow2, Xpureref01, XhitemFind, X9, X10. -/
import Derived.Test.YtiminjibcafkaaaSFX13
import Derived.Test.YtiminjibcafkaaaSFJ18
import Derived.Test.YtiminjibcafkaaaSFX16
import Derived.Test.YtiminjibcafkaaaSFXhknowUnion
import Derived.Test.YtiminjibcafkaaaSFX22
import Derived.Test.YtiminjibcafkaaaSFXpureruns
import Derived.Test.YtiminjibcafkaaaSFX0
import Derived.Test.YtiminjibcafkaaaSFJ8
import Derived.Test.YtiminjibcafkaaaSFJ25
section
/- What the functions of layer 1 compute, in plain Lean. -/
namespace Go.Proofs.Ytiminjibcafkaaa.X
open Go.RowKit Go.Proofs.YtiminjibcafkaaaW.PrintWords Go.Proofs.YtiminjibcafkaaaW.PrintLast Go.Proofs.YtiminjibcafkaaaW.PrintMore
set_option linter.unusedVariables false
set_option linter.unusedSimpArgs false
theorem wrapN (n : Nat) (h : n ≤ 4611686018427387904) : wrap64 ((n : Int) + 1) = ((n + 1 : Nat) : Int) := by unfold wrap64; omega
theorem wrapNp (n : Nat) (h0 : 0 < n) (h : n ≤ 4611686018427387904) : wrap64 ((n : Int) - 1) = ((n - 1 : Nat) : Int) := by unfold wrap64; omega
theorem rdR (l : List S78) (i : Nat) : rd_T78 l (i : Int) = l.getD i z78 := rfl
theorem getDR (l : List S78) (i : Nat) (h : i < l.length) : l.getD i z78 ∈ l := by
  rw [List.getD_eq_getElem?_getD, List.getElem?_eq_getElem h]; exact List.getElem_mem h
theorem dropR_cons (l : List S78) (i : Nat) (h : i < l.length) : l.drop i = l.getD i z78 :: l.drop (i + 1) := by
  rw [List.getD_eq_getElem?_getD, List.getElem?_eq_getElem h]
  exact (List.drop_eq_getElem_cons h)
theorem run_is (x : S78) : know_run.f x.f0 x.f1 x.f2 = some (runB x) := by
  unfold know_run.f runB
  by_cases h1 : x.f0 < 8 <;> by_cases h2 : x.f1 ≥ 1
  · have h3 : (1 : Int) ≤ x.f1 := h2
    simp [h1, h3]
  · have h3 : ¬ (1 : Int) ≤ x.f1 := h2
    simp [h1, h3]
  · simp [h1]
  · simp [h1]
theorem apart_is (a b : S78) (ha : Ok_Run a) (hb : Ok_Run b) : know_apart.f a.f0 a.f1 a.f2 b.f0 b.f1 b.f2 = some (apartB a b) := by
  obtain ⟨_, _, h2⟩ := ha
  obtain ⟨_, k1, _⟩ := hb
  unfold In32 at h2 k1
  unfold know_apart.f apartB
  by_cases h : a.f0 < b.f0
  · simp [h]
  · by_cases h' : a.f0 = b.f0
    · by_cases h4 : a.f2 < b.f1
      · have e : (a.f2 + 1) % 4294967296 = a.f2 + 1 := by omega
        simp [h', h4, e]
      · have e : ¬ a.f2 + 1 < b.f1 := by omega
        simp [h', h4, e]
    · simp [h, h']
/-- Number i of some runs is right, and apart from the one ahead. -/
def okK (l : List S78) (i : Nat) : Bool := runB (l.getD i z78) && (decide (i = 0) || apartB (l.getD (i - 1) z78) (l.getD i z78))
def okKFrom (l : List S78) : Nat → Nat → Bool
  | 0, _ => true
  | d + 1, i => okK l i && okKFrom l d (i + 1)
theorem okKFrom_iff (l : List S78) : ∀ d i, okKFrom l d i = true ↔ ∀ j, i ≤ j → j < i + d → okK l j = true
  | 0, i => by simp [okKFrom]; intro j h1 h2; omega
  | d + 1, i => by
    simp only [okKFrom, Bool.and_eq_true, okKFrom_iff l d (i + 1)]
    constructor
    · rintro ⟨h1, h2⟩ j hj hk
      rcases Nat.eq_or_lt_of_le hj with e | e
      · rw [← e]; exact h1
      · exact h2 j e (by omega)
    · intro h
      exact ⟨h i (Nat.le_refl _) (by omega), fun j hj hk => h j (by omega) (by omega)⟩
def canonB (l : List S78) : Bool := okKFrom l l.length 0
theorem canonB_iff' (l : List S78) : canonB l = true ↔ ∀ j, j < l.length → okK l j = true := by
  unfold canonB
  rw [okKFrom_iff]
  exact ⟨fun h j hj => h j (Nat.zero_le _) (by omega), fun h j _ hj => h j (by omega)⟩
theorem okK_tail (x : S78) (l : List S78) (j : Nat) (h : okK (x :: l) (j + 1) = true) : okK l j = true := by
  unfold okK at h ⊢
  simp only [Nat.add_sub_cancel, List.getD_cons_succ, Bool.and_eq_true] at h ⊢
  refine ⟨h.1, ?_⟩
  cases j with
  | zero => rfl
  | succ j => simpa using h.2
theorem canonB_iff : ∀ l : List S78, canonB l = true ↔ Canon l
  | [] => ⟨fun _ => Canon_nil, fun _ => rfl⟩
  | x :: l => by
    have ih := canonB_iff l
    rw [canonB_iff', Canon_cons]
    constructor
    · intro h
      have h0 := h 0 (by simp)
      have hx : runB x = true := by unfold okK at h0; simpa using h0
      have hl : ∀ j, j < l.length → okK l j = true := fun j hj => okK_tail x l j (h (j + 1) (by simpa using hj))
      have hc := ih.1 ((canonB_iff' l).2 hl)
      refine ⟨hx, fun y hy => ?_, hc⟩
      cases l with
      | nil => cases hy
      | cons u l =>
        have h1 := h 1 (by simp)
        unfold okK at h1
        simp only [Bool.and_eq_true, Bool.or_eq_true, decide_eq_true_eq] at h1
        have h2 : apartB x u = true := by
          rcases h1.2 with h3 | h3
          · omega
          · exact h3
        obtain ⟨c1, c2, _⟩ := Canon_cons.1 hc
        rcases List.mem_cons.1 hy with rfl | hy
        · exact h2
        · exact apart_trans c1 h2 (c2 y hy)
    · rintro ⟨hx, hap, hc⟩ j hj
      have hl := (canonB_iff' l).1 (ih.2 hc)
      cases j with
      | zero => unfold okK; simpa using hx
      | succ j =>
        have h1 := hl j (by simpa using hj)
        unfold okK at h1 ⊢
        simp only [Nat.add_sub_cancel, List.getD_cons_succ, Bool.and_eq_true] at h1 ⊢
        refine ⟨h1.1, ?_⟩
        cases j with
        | zero =>
          have := hap (l.getD 0 z78) (getDR l 0 (by simpa using hj))
          simp only [Bool.or_eq_true, decide_eq_true_eq]
          exact .inr this
        | succ j => simpa using h1.2
/-- Are runs right? -/
def rightK (l : List S78) : Bool := canonB l && decide ((l.length : Int) ≤ 64)
theorem rightK_iff (l : List S78) : rightK l = true ↔ Canon l ∧ l.length ≤ 64 := by
  unfold rightK
  rw [Bool.and_eq_true, canonB_iff, decide_eq_true_eq]
  exact ⟨fun h => ⟨h.1, by omega⟩, fun h => ⟨h.1, by omega⟩⟩
theorem know_Right_from (l : List S78) (hl : l.length ≤ 4611686018427387904) (ok : ∀ z ∈ l, Ok_Run z) : ∀ d k i : Nat, i + d = l.length → d < k → know_Right.l0 k l l (l.length : Int) (i : Int) = some (okKFrom l d i && decide ((l.length : Int) ≤ 64)) := by
  intro d
  induction d with
  | zero =>
    intro k i hi hk
    obtain ⟨k, rfl⟩ : ∃ m, k = m + 1 := ⟨k - 1, by omega⟩
    simp only [know_Right.l0, okKFrom]
    rw [if_neg (by omega), Bool.true_and]
  | succ d ih =>
    intro k i hi hk
    obtain ⟨k, rfl⟩ : ∃ m, k = m + 1 := ⟨k - 1, by omega⟩
    simp only [know_Right.l0, okKFrom]
    rw [if_pos (by omega), if_pos (by omega), if_pos (by omega), rdR, run_is]
    simp only [Option.bind_some]
    have e := ih k (i + 1) (by omega) (by omega)
    unfold okK
    cases runB (l.getD i z78) with
    | false => simp
    | true =>
      simp only [if_true, Bool.true_and]
      rw [wrapN i (by omega), e]
      by_cases h0 : i = 0
      · subst h0; simp
      · rw [if_pos (by omega), wrapNp i (by omega) (by omega), if_pos (by omega), if_pos (by omega), rdR, apart_is _ _ (ok _ (getDR l (i - 1) (by omega))) (ok _ (getDR l i (by omega)))]
        simp only [Option.bind_some]
        rw [decide_eq_false h0, Bool.false_or]
        cases apartB (l.getD (i - 1) z78) (l.getD i z78)
        · rfl
        · rfl
theorem RightK_is (l : List S78) (hl : l.length ≤ 4611686018427387904) (ok : ∀ z ∈ l, Ok_Run z) (k : Nat) (hk : l.length < k) : know_Right.f k l = some (rightK l) := know_Right_from l hl ok l.length k 0 (by omega) hk
theorem HasK_is (l : List S78) (hl : l.length ≤ 4611686018427387904) (ok : ∀ z ∈ l, Ok_Run z) (r n : Int) (k : Nat) (hk : l.length < k) : know_Has.f k l r n = some (rightK l && l.any (inRun r n)) := by
  unfold know_Has.f
  rw [RightK_is l hl ok k hk]
  rfl
/-- What merged tells of what it has. -/
def fin (l : List S78) : List S78 × Option Int := if (l.length : Int) > 64 then ([], some 5) else (l, none)
theorem merged_from (s : List S78) (hl : s.length ≤ 1000000) (ok : ∀ z ∈ s, Ok_Run z) : ∀ d k i : Nat, ∀ (p : List S78) (c : S78), i + d = s.length → 2 * d < k → p.length ≤ i → Ok_Run c →
    know_merged.l0 k (p ++ [c]) s (s.length : Int) (i : Int) = some (fin (p ++ mrgR c (s.drop i))) := by
  intro d
  induction d with
  | zero =>
    intro k i p c hi hk hp hc
    obtain ⟨k, rfl⟩ : ∃ m, k = m + 1 := ⟨k - 1, by omega⟩
    simp only [know_merged.l0]
    rw [if_neg (by omega), List.drop_of_length_le (by omega)]
    show _ = some (fin (p ++ [c]))
    unfold fin
    by_cases hq : ((p ++ [c]).length : Int) > 64
    · rw [if_pos hq, if_pos hq]
    · rw [if_neg hq, if_neg hq]
  | succ d ih =>
    intro k i p c hi hk hp hc
    obtain ⟨k, rfl⟩ : ∃ m, k = m + 1 + 1 := ⟨k - 2, by omega⟩
    have hlen : ((p ++ [c]).length : Int) = ((p.length + 1 : Nat) : Int) := by simp
    have hw : wrap64 (((p ++ [c]).length : Int) - 1) = (p.length : Int) := by rw [hlen]; unfold wrap64; omega
    have hlast : rd_T78 (p ++ [c]) (p.length : Int) = c := by
      rw [rdR, List.getD_eq_getElem?_getD, List.getElem?_append_right (Nat.le_refl _)]
      simp
    have okr := ok _ (getDR s i (by omega))
    simp only [know_merged.l0]
    rw [hw]
    rw [if_pos (by omega), if_pos (by omega), if_pos (by omega), if_pos (by omega), if_pos (by omega), if_pos (by rw [hlen]; omega), hlast, rdR, apart_is c _ hc okr, dropR_cons s i (by omega)]
    generalize hr : s.getD i z78 = r at *
    simp only [Option.bind_some, know_merged.j1, mrgR]
    rw [wrapN i (by omega), hlast]
    cases hap : apartB c r with
    | true =>
      simp only [Bool.not_true, Bool.false_eq_true, if_false, if_true]
      rw [if_pos (by simp; omega), ih k (i + 1) (p ++ [c]) r (by omega) (by omega) (by simp; omega) okr]
      simp
    | false =>
      simp only [Bool.not_false, Bool.false_eq_true, if_false, if_true]
      rw [if_pos (by omega), if_pos (by rw [hlen]; omega)]
      by_cases h2 : r.f2 ≤ c.f2
      · rw [if_pos h2, if_pos h2, ih k (i + 1) p c (by omega) (by omega) (by omega) hc]
      · rw [if_neg h2, if_neg h2, if_pos (by rw [hlen]; omega)]
        have ht : (p ++ [c]).take (p.length : Int).toNat = p := by simp
        rw [ht, if_pos (by omega), ih k (i + 1) p ⟨r.f0, c.f1, r.f2⟩ (by omega) (by omega) (by omega) ⟨okr.1, hc.2.1, okr.2.2⟩]
theorem merged_is (l : List S78) (hl : l.length ≤ 1000000) (ok : ∀ z ∈ l, Ok_Run z) (k : Nat) (hk : 2 * l.length < k) : know_merged.f k l = some (fin (mergeL l)) := by
  have h1 : slices_Clone_Run.f l = some l := by unfold slices_Clone_Run.f; rw [if_pos (by omega)]
  have h2 : slices_SortFunc_Run.f l = some (sortR l) := by unfold slices_SortFunc_Run.f sortR; rw [if_pos (by omega)]
  have hp := (sortR_spec l).1
  have hln := hp.length_eq
  have ok' : ∀ z ∈ sortR l, Ok_Run z := fun z hz => ok z (hp.mem_iff.1 hz)
  unfold know_merged.f
  rw [h1]
  simp only [Option.bind_some]
  rw [h2]
  simp only [Option.bind_some]
  rw [← hln]
  unfold mergeL
  cases hs : sortR l with
  | nil =>
    obtain ⟨k, rfl⟩ : ∃ m, k = m + 1 := ⟨k - 1, by omega⟩
    rfl
  | cons c m =>
    rw [hs] at hln ok'
    obtain ⟨k, rfl⟩ : ∃ m, k = m + 1 + 1 := ⟨k - 2, by simp at hln; omega⟩
    have hf := merged_from (c :: m) (by omega) ok' m.length k 1 [] c (by simp; omega) (by simp at hln; omega) (by simp) (ok' c (by simp))
    simp only [know_merged.l0, know_merged.j1]
    have hw : wrap64 ((([] : List S78).length : Int) - 1) = -1 := by simp [wrap64]
    rw [hw]
    rw [if_pos (by simp), if_pos (by decide), if_pos (by simp), if_neg (by decide), if_neg (by decide), if_pos (by decide)]
    have e0 : rd_T78 (c :: m) 0 = c := rfl
    have e1 : wrap64 (0 + 1) = ((1 : Nat) : Int) := by simp [wrap64]
    rw [e0, e1, List.nil_append]
    simpa using hf
/-- The runs with a pair. -/
def addR (r n : Int) (l : List S78) : List S78 := mergeL (l ++ [⟨r, n, n⟩])
theorem AddK_is (l : List S78) (hl : l.length ≤ 400000) (ok : ∀ z ∈ l, Ok_Run z) (r n : Int) (hr : In8 r) (hn : In32 n) (k : Nat) (hk : 2 * l.length + 4 < k) :
    know_Add.f k l r n = some (if (rightK l && runB ⟨r, n, n⟩) = true then fin (addR r n l) else ([], some 9)) := by
  obtain ⟨k, rfl⟩ : ∃ m, k = m + 1 := ⟨k - 1, by omega⟩
  unfold know_Add.f
  rw [RightK_is l (by omega) ok (k + 1) (by omega), show know_run.f r n n = some (runB ⟨r, n, n⟩) from run_is ⟨r, n, n⟩]
  simp only [Option.bind_some]
  cases rightK l with
  | false => simp [know_Add.j0]
  | true =>
    cases runB ⟨r, n, n⟩ with
    | false => simp [know_Add.j0]
    | true =>
      have h1 : slices_Clone_Run.f l = some l := by unfold slices_Clone_Run.f; rw [if_pos (by omega)]
      simp only [if_true, Bool.not_true, know_Add.j0, Bool.false_eq_true, if_false, h1, Option.bind_some, Bool.and_self]
      rw [if_pos (by simp; omega), merged_is (l ++ [(⟨r, n, n⟩ : S78)]) (by simp; omega) (fun z hz => by
        rcases List.mem_append.1 hz with hz | hz
        · exact ok z hz
        · obtain rfl := List.mem_singleton.1 hz; exact ⟨hr, hn, hn⟩) k (by simp; omega)]
      rfl
theorem know_Drop_from (s : List S78) (hl : s.length ≤ 1000000) (ok : ∀ z ∈ s, Ok_Run z) (rep n : Int) (hn : In32 n) : ∀ d k i : Nat, ∀ out : List S78, i + d = s.length → 2 * d < k → out.length ≤ 2 * i →
    know_Drop.l0 k rep n out s (s.length : Int) (i : Int) = some (fin (out ++ dropR rep n (s.drop i))) := by
  unfold In32 at hn
  intro d
  induction d with
  | zero =>
    intro k i out hi hk ho
    obtain ⟨k, rfl⟩ : ∃ m, k = m + 1 := ⟨k - 1, by omega⟩
    simp only [know_Drop.l0]
    rw [if_neg (by omega), List.drop_of_length_le (by omega)]
    rw [show out ++ dropR rep n [] = out from List.append_nil _]
    unfold fin
    by_cases hq : (out.length : Int) > 64
    · rw [if_pos hq, if_pos hq]
    · rw [if_neg hq, if_neg hq]
  | succ d ih =>
    intro k i out hi hk ho
    obtain ⟨k, rfl⟩ : ∃ m, k = m + 1 + 1 := ⟨k - 2, by omega⟩
    have okr := ok _ (getDR s i (by omega))
    have hd : dropR rep n (s.drop i) = dropOne rep n (s.getD i z78) ++ dropR rep n (s.drop (i + 1)) := by
      rw [dropR_cons s i (by omega)]; unfold dropR; rw [List.flatMap_cons]
    have ho1 : out.length < 11728124029610 := by omega
    simp only [know_Drop.l0]
    rw [if_pos (by omega), if_pos (by omega), if_pos (by omega), rdR, hd]
    generalize hr : s.getD i z78 = r at *
    obtain ⟨hr0, hr1, hr2⟩ := okr
    unfold In32 at hr1 hr2
    have hrec : ∀ q : List S78, q.length ≤ 2 → know_Drop.l0 k rep n (out ++ q) s (s.length : Int) ((i + 1 : Nat) : Int) = some (fin (out ++ q ++ dropR rep n (s.drop (i + 1)))) := fun q hq => ih k (i + 1) (out ++ q) (by omega) (by omega) (by simp; omega)
    have hkeep : know_Drop.j2 (k + 1) rep n out s (s.length : Int) (i : Int) true r.f0 r.f1 r.f2 = some (fin (out ++ ([r] ++ dropR rep n (s.drop (i + 1))))) := by
      simp only [know_Drop.j2, if_true]
      rw [if_pos ho1, wrapN i (by omega), ← List.append_assoc]
      exact hrec [r] (by simp)
    unfold dropOne
    by_cases h0 : r.f0 = rep
    · rw [if_pos h0]
      by_cases h1 : n < r.f1
      · rw [if_pos h1, if_neg (by omega), hkeep]
      · rw [if_neg h1]
        by_cases h2 : n > r.f2
        · rw [decide_eq_true h2, if_neg (by omega), hkeep]
        · rw [decide_eq_false h2, if_pos ⟨h0, by omega, by omega⟩]
          simp only [know_Drop.j2, Bool.false_eq_true, if_false, Option.bind_some]
          rw [wrapN i (by omega)]
          by_cases h3 : r.f1 < n
          · have e3 : (n - 1) % 4294967296 = n - 1 := by omega
            rw [if_pos h3, if_pos h3, if_pos ho1, e3]
            by_cases h4 : n < r.f2
            · have e4 : (n + 1) % 4294967296 = n + 1 := by omega
              rw [if_pos h4, if_pos h4, if_pos (by simp; omega), e4]
              have := hrec [⟨rep, r.f1, n - 1⟩, ⟨rep, n + 1, r.f2⟩] (by simp)
              simpa using this
            · rw [if_neg h4, if_neg h4]
              have := hrec [⟨rep, r.f1, n - 1⟩] (by simp)
              simpa using this
          · rw [if_neg h3, if_neg h3]
            by_cases h4 : n < r.f2
            · have e4 : (n + 1) % 4294967296 = n + 1 := by omega
              rw [if_pos h4, if_pos h4, if_pos ho1, e4]
              have := hrec [⟨rep, n + 1, r.f2⟩] (by simp)
              simpa using this
            · rw [if_neg h4, if_neg h4]
              have := hrec [] (by simp)
              simpa using this
    · rw [if_neg h0, if_neg (fun h => h0 h.1), hkeep]
theorem DropK_is (l : List S78) (hl : l.length ≤ 400000) (ok : ∀ z ∈ l, Ok_Run z) (r n : Int) (hn : In32 n) (k : Nat) (hk : 2 * l.length + 4 < k) :
    know_Drop.f k l r n = some (if (rightK l && runB ⟨r, n, n⟩) = true then fin (dropR r n l) else ([], some 9)) := by
  obtain ⟨k, rfl⟩ : ∃ m, k = m + 1 := ⟨k - 1, by omega⟩
  unfold know_Drop.f
  rw [RightK_is l (by omega) ok (k + 1) (by omega), show know_run.f r n n = some (runB ⟨r, n, n⟩) from run_is ⟨r, n, n⟩]
  simp only [Option.bind_some]
  cases rightK l with
  | false => simp [know_Drop.j0]
  | true =>
    cases runB ⟨r, n, n⟩ with
    | false => simp [know_Drop.j0]
    | true =>
      simp only [if_true, Bool.not_true, know_Drop.j0, Bool.false_eq_true, if_false, Bool.and_self]
      have := know_Drop_from l (by omega) ok r n hn l.length k 0 [] (by omega) (by omega) (by simp)
      simpa using this
theorem canon_ok {l : List S78} (h : Canon l) (hb : ∀ r n, Mem l r n → In8 r ∧ In32 n) : ∀ z ∈ l, Ok_Run z := by
  intro z hz
  have hr := (runB_iff z).1 (h.1 z hz)
  have h1 := hb z.f0 z.f1 ⟨z, hz, rfl, by omega, by omega⟩
  have h2 := hb z.f0 z.f2 ⟨z, hz, rfl, by omega, by omega⟩
  exact ⟨h1.1, h1.2, h2.2⟩
theorem mem_ok {l : List S78} (ok : ∀ z ∈ l, Ok_Run z) (r n : Int) (h : Mem l r n) : In8 r ∧ In32 n := by
  obtain ⟨z, hz, rfl, h1, h2⟩ := h
  obtain ⟨k0, k1, k2⟩ := ok z hz
  refine ⟨k0, ?_⟩
  unfold In32 at *
  omega
end Go.Proofs.Ytiminjibcafkaaa.X
end
section
/- What layer 1 tells, as sets of pairs. -/
namespace Go.Proofs.Ytiminjibcafkaaa.X
open Go.RowKit Go.Proofs.YtiminjibcafkaaaW.PrintWords Go.Proofs.YtiminjibcafkaaaW.PrintLast Go.Proofs.YtiminjibcafkaaaW.PrintMore
set_option linter.unusedVariables false
set_option linter.unusedSimpArgs false
/-- Has, as a Bool. -/
def hasB (l : List S78) (r m : Int) : Bool := rightK l && l.any (inRun r m)
def itB (rep n r m : Int) : Bool := decide (r = rep) && decide (m = n)
theorem hasB_iff (l : List S78) (r m : Int) (h : rightK l = true) : hasB l r m = true ↔ Mem l r m := by
  unfold hasB
  rw [h, Bool.true_and, any_iff]
theorem itB_iff (rep n r m : Int) : itB rep n r m = true ↔ r = rep ∧ m = n := by unfold itB; simp
def dropF (r n : Int) (l : List S78) : List S78 × Option Int := if (rightK l && runB ⟨r, n, n⟩) = true then fin (dropR r n l) else ([], some 9)
theorem fin_length (l : List S78) : (fin l).1.length ≤ 64 := by
  unfold fin
  split
  · simp
  · show l.length ≤ 64; omega
theorem fin_snd (l : List S78) (h : (fin l).2.isNone = true) : fin l = (l, none) ∧ l.length ≤ 64 := by
  unfold fin at h ⊢
  split at h
  · cases h
  · rename_i hn
    rw [if_neg hn]
    exact ⟨rfl, by omega⟩
theorem fin_mem (l : List S78) (z : S78) (h : z ∈ (fin l).1) : z ∈ l := by
  unfold fin at h
  split at h
  · cases h
  · exact h
theorem drop_facts (l : List S78) (hl : l.length ≤ 400000) (ok : ∀ z ∈ l, Ok_Run z) (r n : Int) (hr : In8 r) (hn : In32 n) (a b : Int) :
    (if (rightK l && runB ⟨r, n, n⟩) = true then fin (dropR r n l) else ([], some 9)).1.length ≤ 900 ∧ (∀ z ∈ (if (rightK l && runB ⟨r, n, n⟩) = true then fin (dropR r n l) else ([], some 9)).1, Ok_Run z) ∧
    ((if (rightK l && runB ⟨r, n, n⟩) = true then fin (dropR r n l) else ([], some 9)).2.isNone = true → rightK (if (rightK l && runB ⟨r, n, n⟩) = true then fin (dropR r n l) else ([], some 9)).1 = true ∧ hasB (if (rightK l && runB ⟨r, n, n⟩) = true then fin (dropR r n l) else ([], some 9)).1 a b = (hasB l a b && !itB r n a b)) := by
  by_cases h : (rightK l && runB ⟨r, n, n⟩) = true
  · rw [if_pos h]
    rw [Bool.and_eq_true] at h
    obtain ⟨h1, h2⟩ := h
    have hc := ((rightK_iff l).1 h1).1
    have h2' := (runB_iff _).1 h2
    obtain ⟨k1, k2⟩ := dropR_spec r n h2'.2.1 l hc
    have ho : ∀ z ∈ dropR r n l, Ok_Run z := canon_ok k1 (fun a b hm => mem_ok ok a b ((k2 a b).1 hm).1)
    refine ⟨by have := fin_length (dropR r n l); omega, fun z hz => ho z (fin_mem _ z hz), fun he => ?_⟩
    obtain ⟨e1, e2⟩ := fin_snd _ he
    rw [e1]
    have h3 : rightK (dropR r n l) = true := (rightK_iff _).2 ⟨k1, e2⟩
    refine ⟨h3, ?_⟩
    rw [Bool.eq_iff_iff, hasB_iff _ _ _ h3, Bool.and_eq_true, hasB_iff _ _ _ h1, k2, Bool.not_eq_true', ← Bool.not_eq_true, itB_iff]
  · rw [if_neg h]
    exact ⟨by simp, fun z hz => by simp at hz, fun he => by simp at he⟩
end Go.Proofs.Ytiminjibcafkaaa.X
end
section
/- What layer 1 of the document says: right, and has (for a group without what is told). -/
namespace Go.Proofs.Ytiminjibcafkaaa.X
open Go.RowKit Go.Proofs.YtiminjibcafkaaaW.PrintWords Go.Proofs.YtiminjibcafkaaaW.PrintLast Go.Proofs.YtiminjibcafkaaaW.PrintMore
set_option linter.unusedVariables false
set_option linter.unusedSimpArgs false
theorem u64_id (n : Int) (h : 0 ≤ n ∧ n ≤ 18446744073709551615) : IntKind.u64.wrap n = n := by
  have h2 : IntKind.u64.wrap n = n % 18446744073709551616 := by simp [IntKind.wrap, IntKind.signed, IntKind.bits]
  rw [h2]; omega
theorem ref01_Right_from (l : List S78) (hl : l.length ≤ 1000000) (ok : ∀ z ∈ l, Ok_Run z) : ∀ d k i : Nat, i + d = l.length → 2 * d < k → tidingsref01_Right.l0 k l (i : Int) = some (okKFrom l d i && decide ((l.length : Int) ≤ 64)) := by
  intro d
  induction d with
  | zero =>
    intro k i hi hk
    obtain ⟨k, rfl⟩ : ∃ m, k = m + 1 := ⟨k - 1, by omega⟩
    simp only [tidingsref01_Right.l0, okKFrom]
    rw [if_neg (by omega), Bool.true_and]
  | succ d ih =>
    intro k i hi hk
    obtain ⟨k, rfl⟩ : ∃ m, k = m + 1 + 1 := ⟨k - 2, by omega⟩
    obtain ⟨o0, o1, o2⟩ := ok _ (getDR l i (by omega))
    unfold In32 at o1 o2
    have e := ih k (i + 1) (by omega) (by omega)
    have hj : ∀ b : Bool, b = !runB (l.getD i z78) → tidingsref01_Right.j1 (k + 1) l (i : Int) b = some (okKFrom l (d + 1) i && decide ((l.length : Int) ≤ 64)) := by
      intro b hb
      simp only [tidingsref01_Right.j1, okKFrom, okK]
      cases hr : runB (l.getD i z78) with
      | false => rw [hr] at hb; subst hb; simp
      | true =>
        rw [hr] at hb
        subst hb
        simp only [Bool.not_true, Bool.false_eq_true, if_false, Bool.true_and]
        rw [wrapN i (by omega), e]
        by_cases h0 : i = 0
        · subst h0; simp
        · obtain ⟨_, _, p2⟩ := ok _ (getDR l (i - 1) (by omega))
          unfold In32 at p2
          rw [if_pos (by omega), wrapNp i (by omega) (by omega), if_pos (by omega), if_pos (by omega), if_pos (by omega), if_pos (by omega), rdR, rdR, u64_id (l.getD (i - 1) z78).f2 (by omega), u64_id _ (by omega), u64_id _ (by omega), decide_eq_false h0, Bool.false_or]
          unfold apartB
          generalize l.getD (i - 1) z78 = a at *
          generalize l.getD i z78 = b at *
          by_cases h1 : a.f0 > b.f0
          · rw [if_pos h1, decide_eq_false (show ¬ a.f0 < b.f0 by omega), decide_eq_false (show ¬ a.f0 = b.f0 by omega)]; rfl
          · rw [if_neg h1]
            by_cases h2 : a.f0 = b.f0
            · rw [if_pos h2, decide_eq_true h2, decide_eq_false (show ¬ a.f0 < b.f0 by omega)]
              by_cases h3 : a.f2 + 1 ≥ b.f1
              · rw [if_pos h3, decide_eq_false (show ¬ a.f2 + 1 < b.f1 by omega)]; rfl
              · rw [if_neg h3, decide_eq_true (show a.f2 + 1 < b.f1 by omega)]; rfl
            · rw [if_neg h2, decide_eq_true (show a.f0 < b.f0 by omega)]; rfl
    simp only [tidingsref01_Right.l0]
    rw [if_pos (by omega), if_pos (by omega), rdR]
    by_cases h1 : (l.getD i z78).f0 ≥ 8
    · rw [if_pos h1]
      exact hj true (by unfold runB; rw [decide_eq_false (by omega)]; rfl)
    · rw [if_neg h1]
      by_cases h2 : (l.getD i z78).f1 = 0
      · rw [if_pos h2]
        exact hj true (by unfold runB; rw [decide_eq_false (show ¬ 1 ≤ (l.getD i z78).f1 by omega)]; simp)
      · rw [if_neg h2]
        refine hj _ ?_
        unfold runB
        rw [decide_eq_true (show (l.getD i z78).f0 < 8 by omega), decide_eq_true (show 1 ≤ (l.getD i z78).f1 by omega), Bool.true_and, Bool.true_and, ← decide_not]
        exact decide_eq_decide.2 (by omega)
theorem ref01_Right_is (l : List S78) (hl : l.length ≤ 1000000) (ok : ∀ z ∈ l, Ok_Run z) (k : Nat) (hk : 2 * l.length < k) : tidingsref01_Right.f k l = some (rightK l) := ref01_Right_from l hl ok l.length k 0 (by omega) hk
theorem ref01_Has_from (l : List S78) (hl : l.length ≤ 1000000) (r m : Int) : ∀ d k i : Nat, i + d = l.length → d < k → tidingsref01_Has.l0 k l r m (i : Int) = some ((l.drop i).any (inRun r m)) := by
  intro d
  induction d with
  | zero =>
    intro k i hi hk
    obtain ⟨k, rfl⟩ : ∃ q, k = q + 1 := ⟨k - 1, by omega⟩
    simp only [tidingsref01_Has.l0]
    rw [if_neg (by omega), List.drop_of_length_le (by omega)]
    rfl
  | succ d ih =>
    intro k i hi hk
    obtain ⟨k, rfl⟩ : ∃ q, k = q + 1 := ⟨k - 1, by omega⟩
    simp only [tidingsref01_Has.l0]
    rw [if_pos (by omega), if_pos (by omega), rdR, wrapN i (by omega), ih k (i + 1) (by omega) (by omega), dropR_cons l i (by omega), List.any_cons]
    generalize l.getD i z78 = x
    unfold inRun
    by_cases h0 : x.f0 = r
    · rw [if_pos h0]
      by_cases h1 : m ≥ x.f1
      · rw [if_pos h1]
        by_cases h2 : m ≤ x.f2
        · rw [if_pos h2]; simp [h0, h2, show x.f1 ≤ m from h1]
        · rw [if_neg h2]; simp [h2]
      · rw [if_neg h1]; simp [show ¬ x.f1 ≤ m from h1]
    · rw [if_neg h0]; simp [h0]
theorem ref01_Has_is (l : List S78) (hl : l.length ≤ 1000000) (ok : ∀ z ∈ l, Ok_Run z) (r m : Int) (k : Nat) (hk : 2 * l.length < k) : tidingsref01_Has.f k l r m = some (hasB l r m) := by
  unfold tidingsref01_Has.f hasB
  rw [ref01_Right_is l hl ok k hk]
  simp only [Option.bind_some]
  cases rightK l with
  | false => simp
  | true =>
    simp only [if_true, Bool.true_and]
    have := ref01_Has_from l hl r m l.length k 0 (by omega) (by omega)
    simpa using this
end Go.Proofs.Ytiminjibcafkaaa.X
end
section
-- MADE BY wip/prx.py (the kit's printer, with contracts proved by hand). Not trusted: Lean checks it.
namespace Go.Proofs.Ytiminjibcafkaaa.X
open Go.RowKit Go.Proofs.YtiminjibcafkaaaW.PrintWords Go.Proofs.YtiminjibcafkaaaW.PrintLast Go.Proofs.YtiminjibcafkaaaW.PrintMore
attribute [local go_sem] max2_int min2_int max_two min_two max_three min_three max_four min_four   -- for this text's walks alone
set_option linter.unusedVariables false
set_option linter.unusedSimpArgs false
--EXT 
/-! ### item_Find: function 21, by hand -/
def isID (a1 : Int) (x : S27) : Bool := decide (x.f0 = a1)
/-- item.Find. -/
def item_Find.f (l0 : List (S27)) (a1 : Int) : Option (Int × Int × Int × Int × Int × Int × Int × Bool) :=
  match l0.find? (isID a1) with
  | some x => some (x.f0, x.f1.f0, x.f1.f1, x.f1.f2, x.f2, x.f3, x.f4, true)
  | none => some (0, 0, 0, 0, 0, 0, 0, false)
end Go.Proofs.Ytiminjibcafkaaa.X
end
section
-- MADE BY wip/prx.py (the kit's printer, with contracts proved by hand). Not trusted: Lean checks it.
namespace Go.Proofs.Ytiminjibcafkaaa.X
open Go.RowKit Go.Proofs.YtiminjibcafkaaaW.PrintWords Go.Proofs.YtiminjibcafkaaaW.PrintLast Go.Proofs.YtiminjibcafkaaaW.PrintMore
attribute [local go_sem] max2_int min2_int max_two min_two max_three min_three max_four min_four   -- for this text's walks alone
set_option linter.unusedVariables false
set_option linter.unusedSimpArgs false
/-! ### tidingsref02_RightVer: function 16 -/
def tidingsref02_RightVer.f (a0_0 : Int) (a0_1 : Int) (a0_2 : Int) : Option (Bool) := if a0_0 < 8 then (if a0_1 > 0 then (some (decide (a0_2 > 0))) else (some false)) else (some false)
/-! ### tidingsref02_RightEntry: function 10 -/
def tidingsref02_RightEntry.j0 : Nat → Bool → Int → Int → Int → Int → Int → Int → Int → Option (Bool)
  | 0, _, _, _, _, _, _, _, _ => none
  | k + 1, x11, x199000, x199001, x199002, x199003, x199004, x199005, x199006 => if x11 = true then (some false) else (if x199004 = 1 then (some (((x199005) % 4294967296) == (Int.tmod x199006 8))) else (if x199004 = 2 then (if x199005 < 8 then (some (x199006 == 0)) else (some false)) else (if x199004 = 3 then (if x199005 = 0 then (some (x199006 == 0)) else (some false)) else (some false))))
def tidingsref02_RightEntry.f (k : Nat) (a0_0 : Int) (a0_1 : Int) (a0_2 : Int) (a0_3 : Int) (a0_4 : Int) (a0_5 : Int) (a0_6 : Int) : Option (Bool) := (tidingsref02_RightVer.f a0_1 a0_2 a0_3).bind fun t199 => (if t199 = true then (tidingsref02_RightEntry.j0 k (decide (a0_0 ≥ 64)) a0_0 a0_1 a0_2 a0_3 a0_4 a0_5 a0_6) else (tidingsref02_RightEntry.j0 k true a0_0 a0_1 a0_2 a0_3 a0_4 a0_5 a0_6))
end Go.Proofs.Ytiminjibcafkaaa.X
end
section
-- MADE BY wip/prx.py (the kit's printer, with contracts proved by hand). Not trusted: Lean checks it.
namespace Go.Proofs.Ytiminjibcafkaaa.X
open Go.RowKit Go.Proofs.YtiminjibcafkaaaW.PrintWords Go.Proofs.YtiminjibcafkaaaW.PrintLast Go.Proofs.YtiminjibcafkaaaW.PrintMore
attribute [local go_sem] max2_int min2_int max_two min_two max_three min_three max_four min_four   -- for this text's walks alone
set_option linter.unusedVariables false
set_option linter.unusedSimpArgs false
/-! ### tidingsref02_Right: function 9 -/
def tidingsref02_Right.l0 : Nat → List (S27) → Int → Option (Bool)
  | 0, _, _ => none
  | k + 1, x0, x3 => if x3 < (x0.length : Int) then (if 0 ≤ x3 then ((tidingsref02_RightEntry.f k ((rd_T27 x0 x3).f0) ((rd_T27 x0 x3).f1.f0) ((rd_T27 x0 x3).f1.f1) ((rd_T27 x0 x3).f1.f2) ((rd_T27 x0 x3).f2) ((rd_T27 x0 x3).f3) ((rd_T27 x0 x3).f4)).bind fun t201 => (if t201 = true then (if x3 > 0 then (if 0 ≤ (wrap64 (x3 - 1)) then (if (wrap64 (x3 - 1)) < (x0.length : Int) then (if ((rd_T27 x0 (wrap64 (x3 - 1))).f0) ≥ ((rd_T27 x0 x3).f0) then (some false) else (tidingsref02_Right.l0 k x0 (wrap64 (x3 + 1)))) else (none)) else (none)) else (tidingsref02_Right.l0 k x0 (wrap64 (x3 + 1)))) else (some false))) else (none)) else (some true)
def tidingsref02_Right.f (k : Nat) (l0 : List (S27)) : Option (Bool) := tidingsref02_Right.l0 k l0 0
end Go.Proofs.Ytiminjibcafkaaa.X
end
