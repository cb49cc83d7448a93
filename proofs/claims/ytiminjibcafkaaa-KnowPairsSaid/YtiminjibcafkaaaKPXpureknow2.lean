/- What layer 1 tells, as sets of pairs. -/
import Derived.Test.YtiminjibcafkaaaKPXpureknow
namespace Go.Proofs.Ytiminjibcafkaaa.X
open Go.RowKit Go.Proofs.YtiminjibcafkaaaW.PrintWords Go.Proofs.YtiminjibcafkaaaW.PrintLast Go.Proofs.YtiminjibcafkaaaW.PrintMore
set_option linter.unusedVariables false
set_option linter.unusedSimpArgs false
/-- Has, as a Bool. -/
def hasB (l : List S78) (r m : Int) : Bool := rightK l && l.any (inRun r m)
def itB (rep n r m : Int) : Bool := decide (r = rep) && decide (m = n)
theorem hasB_iff (l : List S78) (r m : Int) (h : rightK l = true) : hasB l r m = true ↔ Mem l r m := by
  unfold hasB
  rw [h, Bool.true_and, any_iff]
theorem itB_iff (rep n r m : Int) : itB rep n r m = true ↔ r = rep ∧ m = n := by unfold itB; simp
theorem fin_length (l : List S78) : (fin l).1.length ≤ 64 := by
  unfold fin
  split
  · simp
  · show l.length ≤ 64; omega
theorem fin_snd (l : List S78) (h : (fin l).2.isNone = true) : fin l = (l, none) ∧ l.length ≤ 64 := by
  unfold fin at h ⊢
  split at h
  · cases h
  · rename_i hn
    rw [if_neg hn]
    exact ⟨rfl, by omega⟩
theorem fin_mem (l : List S78) (z : S78) (h : z ∈ (fin l).1) : z ∈ l := by
  unfold fin at h
  split at h
  · cases h
  · exact h
theorem addR_spec (r n : Int) (l : List S78) (h : Canon l) (h1 : runB ⟨r, n, n⟩ = true) : Canon (addR r n l) ∧ ∀ a b, Mem (addR r n l) a b ↔ Mem l a b ∨ (a = r ∧ b = n) := by
  obtain ⟨k1, k2⟩ := mergeL_spec (l ++ [⟨r, n, n⟩]) (fun x hx => by
    rcases List.mem_append.1 hx with hx | hx
    · exact h.1 x hx
    · obtain rfl := List.mem_singleton.1 hx; exact h1)
  refine ⟨k1, fun a b => ?_⟩
  unfold addR
  rw [k2, Mem_append, Mem_cons]
  simp only [Mem_nil, or_false]
  constructor
  · rintro (h | h)
    · exact .inl h
    · exact .inr (by omega)
  · rintro (h | h)
    · exact .inl h
    · exact .inr (by omega)
theorem union_spec (a b : List S78) (ha : Canon a) (hb : Canon b) : Canon (mergeL (a ++ b)) ∧ ∀ r n, Mem (mergeL (a ++ b)) r n ↔ Mem a r n ∨ Mem b r n := by
  obtain ⟨k1, k2⟩ := mergeL_spec (a ++ b) (fun x hx => by
    rcases List.mem_append.1 hx with hx | hx
    · exact ha.1 x hx
    · exact hb.1 x hx)
  exact ⟨k1, fun r n => by rw [k2, Mem_append]⟩
theorem add_facts (l : List S78) (hl : l.length ≤ 400000) (ok : ∀ z ∈ l, Ok_Run z) (r n : Int) (hr : In8 r) (hn : In32 n) (a b : Int) :
    (if (rightK l && runB ⟨r, n, n⟩) = true then fin (addR r n l) else ([], some 9)).1.length ≤ 900 ∧ (∀ z ∈ (if (rightK l && runB ⟨r, n, n⟩) = true then fin (addR r n l) else ([], some 9)).1, Ok_Run z) ∧
    ((if (rightK l && runB ⟨r, n, n⟩) = true then fin (addR r n l) else ([], some 9)).2.isNone = true → rightK (if (rightK l && runB ⟨r, n, n⟩) = true then fin (addR r n l) else ([], some 9)).1 = true ∧ hasB (if (rightK l && runB ⟨r, n, n⟩) = true then fin (addR r n l) else ([], some 9)).1 a b = (hasB l a b || itB r n a b)) := by
  by_cases h : (rightK l && runB ⟨r, n, n⟩) = true
  · rw [if_pos h]
    rw [Bool.and_eq_true] at h
    obtain ⟨h1, h2⟩ := h
    have hc := ((rightK_iff l).1 h1).1
    obtain ⟨k1, k2⟩ := addR_spec r n l hc h2
    have ho : ∀ z ∈ addR r n l, Ok_Run z := canon_ok k1 (fun a b hm => by
      rcases (k2 a b).1 hm with hm | ⟨rfl, rfl⟩
      · exact mem_ok ok a b hm
      · exact ⟨hr, hn⟩)
    refine ⟨by have := fin_length (addR r n l); omega, fun z hz => ho z (fin_mem _ z hz), fun he => ?_⟩
    obtain ⟨e1, e2⟩ := fin_snd _ he
    rw [e1]
    have h3 : rightK (addR r n l) = true := (rightK_iff _).2 ⟨k1, e2⟩
    refine ⟨h3, ?_⟩
    rw [Bool.eq_iff_iff, hasB_iff _ _ _ h3, Bool.or_eq_true, hasB_iff _ _ _ h1, itB_iff, k2]
  · rw [if_neg h]
    exact ⟨by simp, fun z hz => by simp at hz, fun he => by simp at he⟩
theorem drop_facts (l : List S78) (hl : l.length ≤ 400000) (ok : ∀ z ∈ l, Ok_Run z) (r n : Int) (hr : In8 r) (hn : In32 n) (a b : Int) :
    (if (rightK l && runB ⟨r, n, n⟩) = true then fin (dropR r n l) else ([], some 9)).1.length ≤ 900 ∧ (∀ z ∈ (if (rightK l && runB ⟨r, n, n⟩) = true then fin (dropR r n l) else ([], some 9)).1, Ok_Run z) ∧
    ((if (rightK l && runB ⟨r, n, n⟩) = true then fin (dropR r n l) else ([], some 9)).2.isNone = true → rightK (if (rightK l && runB ⟨r, n, n⟩) = true then fin (dropR r n l) else ([], some 9)).1 = true ∧ hasB (if (rightK l && runB ⟨r, n, n⟩) = true then fin (dropR r n l) else ([], some 9)).1 a b = (hasB l a b && !itB r n a b)) := by
  by_cases h : (rightK l && runB ⟨r, n, n⟩) = true
  · rw [if_pos h]
    rw [Bool.and_eq_true] at h
    obtain ⟨h1, h2⟩ := h
    have hc := ((rightK_iff l).1 h1).1
    have h2' := (runB_iff _).1 h2
    obtain ⟨k1, k2⟩ := dropR_spec r n h2'.2.1 l hc
    have ho : ∀ z ∈ dropR r n l, Ok_Run z := canon_ok k1 (fun a b hm => mem_ok ok a b ((k2 a b).1 hm).1)
    refine ⟨by have := fin_length (dropR r n l); omega, fun z hz => ho z (fin_mem _ z hz), fun he => ?_⟩
    obtain ⟨e1, e2⟩ := fin_snd _ he
    rw [e1]
    have h3 : rightK (dropR r n l) = true := (rightK_iff _).2 ⟨k1, e2⟩
    refine ⟨h3, ?_⟩
    rw [Bool.eq_iff_iff, hasB_iff _ _ _ h3, Bool.and_eq_true, hasB_iff _ _ _ h1, k2, Bool.not_eq_true', ← Bool.not_eq_true, itB_iff]
  · rw [if_neg h]
    exact ⟨by simp, fun z hz => by simp at hz, fun he => by simp at he⟩
theorem union_facts (x y : List S78) (hx : x.length ≤ 400000) (hy : y.length ≤ 400000) (ox : ∀ z ∈ x, Ok_Run z) (oy : ∀ z ∈ y, Ok_Run z) (a b : Int) :
    (if (rightK x && rightK y) = true then fin (mergeL (x ++ y)) else ([], some 9)).1.length ≤ 900 ∧ (∀ z ∈ (if (rightK x && rightK y) = true then fin (mergeL (x ++ y)) else ([], some 9)).1, Ok_Run z) ∧
    ((if (rightK x && rightK y) = true then fin (mergeL (x ++ y)) else ([], some 9)).2.isNone = true → rightK (if (rightK x && rightK y) = true then fin (mergeL (x ++ y)) else ([], some 9)).1 = true ∧ hasB (if (rightK x && rightK y) = true then fin (mergeL (x ++ y)) else ([], some 9)).1 a b = (hasB x a b || hasB y a b)) := by
  by_cases h : (rightK x && rightK y) = true
  · rw [if_pos h]
    rw [Bool.and_eq_true] at h
    obtain ⟨h1, h2⟩ := h
    obtain ⟨k1, k2⟩ := union_spec x y ((rightK_iff x).1 h1).1 ((rightK_iff y).1 h2).1
    have ho : ∀ z ∈ mergeL (x ++ y), Ok_Run z := canon_ok k1 (fun a b hm => by
      rcases (k2 a b).1 hm with hm | hm
      · exact mem_ok ox a b hm
      · exact mem_ok oy a b hm)
    refine ⟨by have := fin_length (mergeL (x ++ y)); omega, fun z hz => ho z (fin_mem _ z hz), fun he => ?_⟩
    obtain ⟨e1, e2⟩ := fin_snd _ he
    rw [e1]
    have h3 : rightK (mergeL (x ++ y)) = true := (rightK_iff _).2 ⟨k1, e2⟩
    refine ⟨h3, ?_⟩
    rw [Bool.eq_iff_iff, hasB_iff _ _ _ h3, Bool.or_eq_true, hasB_iff _ _ _ h1, hasB_iff _ _ _ h2, k2]
  · rw [if_neg h]
    exact ⟨by simp, fun z hz => by simp at hz, fun he => by simp at he⟩
theorem awake01 : tidingslaw01_awake.f 60 = some true := by
  have ok : ∀ z ∈ [(⟨0, 1, 1⟩ : S78), (⟨0, 3, 5⟩ : S78)], Ok_Run z := by
    intro z hz
    simp only [List.mem_cons, List.not_mem_nil, or_false] at hz
    rcases hz with rfl | rfl
    · exact ⟨by unfold In8; decide, by unfold In32; decide, by unfold In32; decide⟩
    · exact ⟨by unfold In8; decide, by unfold In32; decide, by unfold In32; decide⟩
  have ok2 : ∀ z ∈ [(⟨0, 1, 5⟩ : S78)], Ok_Run z := by
    intro z hz
    obtain rfl := List.mem_singleton.1 hz
    exact ⟨by unfold In8; decide, by unfold In32; decide, by unfold In32; decide⟩
  have hr : rightK [(⟨0, 1, 1⟩ : S78), (⟨0, 3, 5⟩ : S78)] = true := by decide
  have hr2 : rightK [(⟨0, 1, 5⟩ : S78)] = true := by decide
  have h1 : runB (⟨0, 2, 2⟩ : S78) = true := by decide
  obtain ⟨k1, k2⟩ := addR_spec 0 2 _ ((rightK_iff _).1 hr).1 h1
  have e : addR 0 2 [(⟨0, 1, 1⟩ : S78), (⟨0, 3, 5⟩ : S78)] = [⟨0, 1, 5⟩] := Canon_uniq _ _ k1 ((rightK_iff _).1 hr2).1 (fun r n => by
    rw [k2, Mem_cons, Mem_cons, Mem_cons]
    simp only [Mem_nil, or_false]
    omega)
  unfold tidingslaw01_awake.f
  rw [AddK_is _ (by decide) ok 0 2 (by unfold In8; decide) (by unfold In32; decide) 60 (by decide), hr, h1, e]
  have hf : fin [(⟨0, 1, 5⟩ : S78)] = ([⟨0, 1, 5⟩], none) := rfl
  simp only [Bool.and_self, if_true, hf, Option.bind_some]
  rw [HasK_is [(⟨0, 1, 5⟩ : S78)] (by decide) ok2 0 4 60 (by decide), HasK_is [(⟨0, 1, 5⟩ : S78)] (by decide) ok2 1 4 60 (by decide), hr2]
  rfl
theorem awake01_any (k : Nat) (hk : 60 ≤ k) : tidingslaw01_awake.f k = some true := by
  obtain ⟨d, rfl⟩ := Nat.exists_eq_add_of_le hk
  induction d with
  | zero => exact awake01
  | succ d ih => exact tidingslaw01_awake.mono (60 + d) true (ih (by omega))
end Go.Proofs.Ytiminjibcafkaaa.X
