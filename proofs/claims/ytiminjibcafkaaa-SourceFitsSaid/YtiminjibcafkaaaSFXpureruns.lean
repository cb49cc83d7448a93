/- Sets of versions told by runs, in plain Lean: what makes runs right, that a set has one way to be told, and how runs are merged. -/
import Derived.Test.YtiminjibcafkaaaSFX13
import Derived.Test.YtiminjibcafkaaaSFJ18
import Derived.Test.YtiminjibcafkaaaSFXop
import Derived.Sort.AssemblyPlain
namespace Go.Proofs.Ytiminjibcafkaaa.X
open Go.RowKit Go.Proofs.YtiminjibcafkaaaW.PrintWords Go.Proofs.YtiminjibcafkaaaW.PrintLast Go.Proofs.YtiminjibcafkaaaW.PrintMore
set_option linter.unusedVariables false
set_option linter.unusedSimpArgs false
def runB (x : S78) : Bool := decide (x.f0 < 8) && (decide (1 ≤ x.f1) && decide (x.f1 ≤ x.f2))
def apartB (a b : S78) : Bool := decide (a.f0 < b.f0) || (decide (a.f0 = b.f0) && decide (a.f2 + 1 < b.f1))
theorem runB_iff (x : S78) : runB x = true ↔ x.f0 < 8 ∧ 1 ≤ x.f1 ∧ x.f1 ≤ x.f2 := by unfold runB; simp
theorem apartB_iff (a b : S78) : apartB a b = true ↔ a.f0 < b.f0 ∨ (a.f0 = b.f0 ∧ a.f2 + 1 < b.f1) := by unfold apartB; simp
/-- Runs that are right, however many. -/
def Canon (l : List S78) : Prop := (∀ x ∈ l, runB x = true) ∧ l.Pairwise (fun a b => apartB a b = true)
/-- Is a pair in a set? -/
def Mem (l : List S78) (r n : Int) : Prop := ∃ x ∈ l, x.f0 = r ∧ x.f1 ≤ n ∧ n ≤ x.f2
theorem any_iff (l : List S78) (r n : Int) : l.any (inRun r n) = true ↔ Mem l r n := by
  rw [List.any_eq_true]
  unfold Mem inRun
  constructor
  · rintro ⟨x, hx, h⟩
    simp only [Bool.and_eq_true, decide_eq_true_eq] at h
    exact ⟨x, hx, h⟩
  · rintro ⟨x, hx, h⟩
    refine ⟨x, hx, ?_⟩
    simp only [Bool.and_eq_true, decide_eq_true_eq]
    exact h
theorem Mem_nil (r n : Int) : ¬ Mem [] r n := by rintro ⟨x, hx, _⟩; cases hx
theorem Mem_cons (x : S78) (l : List S78) (r n : Int) : Mem (x :: l) r n ↔ (x.f0 = r ∧ x.f1 ≤ n ∧ n ≤ x.f2) ∨ Mem l r n := by
  unfold Mem
  constructor
  · rintro ⟨y, hy, h⟩
    rcases List.mem_cons.1 hy with rfl | hy
    · exact .inl h
    · exact .inr ⟨y, hy, h⟩
  · rintro (h | ⟨y, hy, h⟩)
    · exact ⟨x, by simp, h⟩
    · exact ⟨y, by simp [hy], h⟩
theorem Mem_append (a b : List S78) (r n : Int) : Mem (a ++ b) r n ↔ Mem a r n ∨ Mem b r n := by
  induction a with
  | nil => simp [Mem_nil]
  | cons x a ih => rw [List.cons_append, Mem_cons, Mem_cons, ih, or_assoc]
theorem Canon_nil : Canon [] := ⟨fun x hx => (by cases hx), List.Pairwise.nil⟩
theorem Canon_cons {x : S78} {l : List S78} : Canon (x :: l) ↔ runB x = true ∧ (∀ y ∈ l, apartB x y = true) ∧ Canon l := by
  unfold Canon
  rw [List.pairwise_cons]
  constructor
  · rintro ⟨h1, h2, h3⟩; exact ⟨h1 x (by simp), h2, fun y hy => h1 y (by simp [hy]), h3⟩
  · rintro ⟨h1, h2, h3, h4⟩
    refine ⟨fun y hy => ?_, h2, h4⟩
    rcases List.mem_cons.1 hy with rfl | hy
    · exact h1
    · exact h3 y hy
theorem apart_trans {a b c : S78} (hb : runB b = true) (h1 : apartB a b = true) (h2 : apartB b c = true) : apartB a c = true := by
  rw [runB_iff] at hb
  rw [apartB_iff] at *
  omega
/-- By replica, then by where it begins. -/
def leR (a b : S78) : Prop := a.f0 < b.f0 ∨ (a.f0 = b.f0 ∧ a.f1 ≤ b.f1)
/-- Runs that rise, merged: c is the run that is grown. -/
def mrgR : S78 → List S78 → List S78
  | c, [] => [c]
  | c, r :: l => if apartB c r = true then c :: mrgR r l else if r.f2 ≤ c.f2 then mrgR c l else mrgR ⟨r.f0, c.f1, r.f2⟩ l
/-- Runs sorted as slices.SortFunc sorts them. -/
def sortR (l : List S78) : List S78 := (Sort.pdq (ltOf runCmp) l.toArray 0 l.toArray.size (Lib.bitLen l.toArray.size) true true).toList
theorem sortR_spec (l : List S78) : (sortR l).Perm l ∧ (sortR l).Pairwise leR := by
  obtain ⟨⟨h1, _, h3⟩, h4⟩ := Sort.pdq_sorts (ltOf runCmp) runCmp_swo l.toArray 0 l.toArray.size (Lib.bitLen l.toArray.size) true true (Nat.zero_le _) (Nat.le_refl _) (.inl rfl)
  unfold sortR
  generalize Sort.pdq (ltOf runCmp) l.toArray 0 l.toArray.size (Lib.bitLen l.toArray.size) true true = d at *
  constructor
  · rw [← h1, Array.extract_size, h1, Array.extract_size] at h3
    simpa using h3
  · rw [List.pairwise_iff_getElem]
    intro i j hi hj hij
    have hs := h4 i j (Nat.zero_le _) hij (by rw [← h1]; simpa using hj)
    have ei : d[i]! = d.toList[i] := by rw [getElem!_pos d i (by simpa using hi)]; simp
    have ej : d[j]! = d.toList[j] := by rw [getElem!_pos d j (by simpa using hj)]; simp
    rw [ei, ej, runCmp_lt] at hs
    simp only [Bool.or_eq_false_iff, Bool.and_eq_false_iff, decide_eq_false_iff_not] at hs
    unfold leR
    omega
/-- The runs of all pairs of some. -/
def mergeL (l : List S78) : List S78 := match sortR l with
  | [] => []
  | c :: m => mrgR c m
/-- Runs without a pair. -/
def dropOne (rep n : Int) (r : S78) : List S78 :=
  if r.f0 = rep ∧ r.f1 ≤ n ∧ n ≤ r.f2 then (if r.f1 < n then [⟨rep, r.f1, n - 1⟩] else []) ++ (if n < r.f2 then [⟨rep, n + 1, r.f2⟩] else []) else [r]
def dropR (rep n : Int) (l : List S78) : List S78 := l.flatMap (dropOne rep n)
theorem dropOne_in (rep n : Int) (r x : S78) (h : x ∈ dropOne rep n r) : x.f0 = r.f0 ∧ r.f1 ≤ x.f1 ∧ x.f2 ≤ r.f2 := by
  unfold dropOne at h
  split at h
  · rename_i hc
    rcases List.mem_append.1 h with h | h
    · split at h
      · obtain rfl := List.mem_singleton.1 h
        exact ⟨hc.1.symm, by show r.f1 ≤ r.f1; omega, by show n - 1 ≤ r.f2; omega⟩
      · cases h
    · split at h
      · obtain rfl := List.mem_singleton.1 h
        exact ⟨hc.1.symm, by show r.f1 ≤ n + 1; omega, by show r.f2 ≤ r.f2; omega⟩
      · cases h
  · obtain rfl := List.mem_singleton.1 h
    exact ⟨rfl, Int.le_refl _, Int.le_refl _⟩
theorem dropOne_canon (rep n : Int) (r : S78) (hr : runB r = true) (hn : 1 ≤ n) : Canon (dropOne rep n r) := by
  have br := (runB_iff r).1 hr
  unfold dropOne
  split
  · rename_i hc
    have k1 : r.f1 < n → runB ⟨rep, r.f1, n - 1⟩ = true := fun h => (runB_iff _).2 ⟨by show rep < 8; omega, br.2.1, by show r.f1 ≤ n - 1; omega⟩
    have k2 : n < r.f2 → runB ⟨rep, n + 1, r.f2⟩ = true := fun h => (runB_iff _).2 ⟨by show rep < 8; omega, by show 1 ≤ n + 1; omega, by show n + 1 ≤ r.f2; omega⟩
    have k3 : apartB ⟨rep, r.f1, n - 1⟩ ⟨rep, n + 1, r.f2⟩ = true := (apartB_iff _ _).2 (.inr ⟨rfl, by show n - 1 + 1 < n + 1; omega⟩)
    by_cases h1 : r.f1 < n <;> by_cases h2 : n < r.f2 <;> simp only [h1, h2, if_true, if_false, List.nil_append, List.append_nil, List.cons_append]
    · exact Canon_cons.2 ⟨k1 h1, fun y hy => by obtain rfl := List.mem_singleton.1 hy; exact k3, Canon_cons.2 ⟨k2 h2, fun y hy => (by cases hy), Canon_nil⟩⟩
    · exact Canon_cons.2 ⟨k1 h1, fun y hy => (by cases hy), Canon_nil⟩
    · exact Canon_cons.2 ⟨k2 h2, fun y hy => (by cases hy), Canon_nil⟩
    · exact Canon_nil
  · exact Canon_cons.2 ⟨hr, fun y hy => (by cases hy), Canon_nil⟩
theorem dropOne_mem (rep n : Int) (r : S78) (a b : Int) : Mem (dropOne rep n r) a b ↔ (r.f0 = a ∧ r.f1 ≤ b ∧ b ≤ r.f2) ∧ ¬ (a = rep ∧ b = n) := by
  unfold dropOne
  split
  · rename_i hc
    rw [Mem_append]
    have m1 : Mem (if r.f1 < n then [⟨rep, r.f1, n - 1⟩] else []) a b ↔ r.f1 < n ∧ (rep = a ∧ r.f1 ≤ b ∧ b ≤ n - 1) := by
      split
      · rename_i h; rw [Mem_cons]; simp [Mem_nil, h]
      · rename_i h; simp [Mem_nil, h]
    have m2 : Mem (if n < r.f2 then [⟨rep, n + 1, r.f2⟩] else []) a b ↔ n < r.f2 ∧ (rep = a ∧ n + 1 ≤ b ∧ b ≤ r.f2) := by
      split
      · rename_i h; rw [Mem_cons]; simp [Mem_nil, h]
      · rename_i h; simp [Mem_nil, h]
    rw [m1, m2]
    omega
  · rename_i hc
    rw [Mem_cons]
    simp only [Mem_nil, or_false]
    omega
theorem Canon_append {a b : List S78} (ha : Canon a) (hb : Canon b) (h : ∀ x ∈ a, ∀ y ∈ b, apartB x y = true) : Canon (a ++ b) := by
  refine ⟨fun x hx => ?_, List.pairwise_append.2 ⟨ha.2, hb.2, h⟩⟩
  rcases List.mem_append.1 hx with hx | hx
  · exact ha.1 x hx
  · exact hb.1 x hx
theorem dropR_spec (rep n : Int) (hn : 1 ≤ n) : ∀ l : List S78, Canon l → Canon (dropR rep n l) ∧ ∀ a b, Mem (dropR rep n l) a b ↔ Mem l a b ∧ ¬ (a = rep ∧ b = n)
  | [], _ => ⟨Canon_nil, fun a b => by simp [dropR, Mem_nil]⟩
  | x :: l, h => by
    obtain ⟨h1, h2, h3⟩ := Canon_cons.1 h
    obtain ⟨k1, k2⟩ := dropR_spec rep n hn l h3
    have e : dropR rep n (x :: l) = dropOne rep n x ++ dropR rep n l := by unfold dropR; rw [List.flatMap_cons]
    rw [e]
    refine ⟨Canon_append (dropOne_canon rep n x h1 hn) k1 (fun y hy z hz => ?_), fun a b => ?_⟩
    · obtain ⟨q1, q2, q3⟩ := dropOne_in rep n x y hy
      obtain ⟨u, hu, hz⟩ := List.mem_flatMap.1 hz
      obtain ⟨r1, r2, r3⟩ := dropOne_in rep n u z hz
      have := h2 u hu
      rw [apartB_iff] at this ⊢
      omega
    · rw [Mem_append, dropOne_mem, k2, Mem_cons]
      constructor
      · rintro (⟨p, q⟩ | ⟨p, q⟩)
        · exact ⟨.inl p, q⟩
        · exact ⟨.inr p, q⟩
      · rintro ⟨p | p, q⟩
        · exact .inl ⟨p, q⟩
        · exact .inr ⟨p, q⟩
end Go.Proofs.Ytiminjibcafkaaa.X
