/- The law KnowPairs in plain Lean. -/
import Derived.Test.YtiminjibcafkaaaKPX17
import Derived.Test.YtiminjibcafkaaaKPXpureknow2
namespace Go.Proofs.Ytiminjibcafkaaa.X
open Go.RowKit Go.Proofs.YtiminjibcafkaaaW.PrintWords Go.Proofs.YtiminjibcafkaaaW.PrintLast Go.Proofs.YtiminjibcafkaaaW.PrintMore
set_option linter.unusedVariables false
set_option linter.unusedSimpArgs false
theorem KnowPairs_end (a b la ld lu : List S78) (ea ed eu : Option Int) (r m : Int) (it : Bool) (k : Nat) (hk : 1000 ≤ k)
    (la0 : la.length ≤ 900) (ld0 : ld.length ≤ 900) (lu0 : lu.length ≤ 900) (a0 : a.length ≤ 900) (b0 : b.length ≤ 900)
    (oa : ∀ z ∈ a, Ok_Run z) (ob : ∀ z ∈ b, Ok_Run z) (ola : ∀ z ∈ la, Ok_Run z) (old_ : ∀ z ∈ ld, Ok_Run z) (olu : ∀ z ∈ lu, Ok_Run z)
    (hA : ea.isNone = true → rightK la = true ∧ hasB la r m = (hasB a r m || it)) (hD : ed.isNone = true → rightK ld = true ∧ hasB ld r m = (hasB a r m && !it)) (hU : eu.isNone = true → rightK lu = true ∧ hasB lu r m = (hasB a r m || hasB b r m)) :
    tidingslaw01_KnowPairs.j1 (k + 3) a b r m la ea ld ed lu eu it = some true := by
  have R : ∀ (l : List S78), l.length ≤ 900 → (∀ z ∈ l, Ok_Run z) → ∀ K, 1000 ≤ K → know_Right.f K l = some (rightK l) := fun l hl ok K hK => RightK_is l (by omega) ok K (by omega)
  have H : ∀ (l : List S78), l.length ≤ 900 → (∀ z ∈ l, Ok_Run z) → ∀ K, 1000 ≤ K → know_Has.f K l r m = some (hasB l r m) := fun l hl ok K hK => HasK_is l (by omega) ok r m K (by omega)
  have J3 : tidingslaw01_KnowPairs.j3 (k + 1) a b r m lu eu false = some true := by
    simp only [tidingslaw01_KnowPairs.j3, Bool.false_eq_true, if_false]
    cases hu : eu.isNone with
    | false => simp
    | true =>
      obtain ⟨u1, u2⟩ := hU hu
      simp only [if_true, R lu lu0 olu k (by omega), H lu lu0 olu k (by omega), H a a0 oa k (by omega), H b b0 ob k (by omega), Option.bind_some, u1, u2]
      cases hasB a r m <;> cases hasB b r m <;> rfl
  have J2 : tidingslaw01_KnowPairs.j2 (k + 2) a b r m ld ed lu eu it false = some true := by
    simp only [tidingslaw01_KnowPairs.j2, Bool.false_eq_true, if_false]
    cases hd : ed.isNone with
    | false => simpa using J3
    | true =>
      obtain ⟨u1, u2⟩ := hD hd
      simp only [if_true, R ld ld0 old_ (k + 1) (by omega), H ld ld0 old_ (k + 1) (by omega), H a a0 oa (k + 1) (by omega), Option.bind_some, u1, u2]
      cases hasB a r m <;> cases it <;> simpa using J3
  simp only [tidingslaw01_KnowPairs.j1]
  cases ha : ea.isNone with
  | false => simpa using J2
  | true =>
    obtain ⟨u1, u2⟩ := hA ha
    simp only [if_true, R la la0 ola (k + 2) (by omega), H la la0 ola (k + 2) (by omega), H a a0 oa (k + 2) (by omega), Option.bind_some, u1, u2]
    cases hasB a r m <;> cases it <;> simpa using J2
theorem KnowPairs_pure (x0 x1 : List S78) (x2 x3 x4 x5 : Int) (o0 : ∀ z ∈ x0, Ok_Run z) (o1 : ∀ z ∈ x1, Ok_Run z) (o2 : In8 x2) (o3 : In32 x3) (o4 : In8 x4) (o5 : In32 x5) :
    ∃ k, tidingslaw01_KnowPairs.f k x0 x1 x2 x3 x4 x5 = some true := by
  refine ⟨5000, ?_⟩
  unfold tidingslaw01_KnowPairs.f
  rw [awake01_any 5000 (by decide)]
  simp only [Option.bind_some, if_true]
  by_cases h0 : (x0.length : Int) > 300
  · rw [if_pos h0]; rfl
  rw [if_neg h0]
  by_cases h1 : (x1.length : Int) > 300
  · rw [decide_eq_true h1]; rfl
  rw [decide_eq_false h1]
  simp only [tidingslaw01_KnowPairs.j0, Bool.false_eq_true, if_false]
  rw [AddK_is x0 (by omega) o0 x2 x3 o2 o3 4999 (by omega), DropK_is x0 (by omega) o0 x2 x3 o3 4999 (by omega), UnionK_is x0 x1 (by omega) (by omega) o0 o1 4999 (by omega)]
  simp only [Option.bind_some]
  obtain ⟨p1, p2, p3⟩ := add_facts x0 (by omega) o0 x2 x3 o2 o3 x4 x5
  obtain ⟨q1, q2, q3⟩ := drop_facts x0 (by omega) o0 x2 x3 o2 o3 x4 x5
  obtain ⟨u1, u2, u3⟩ := union_facts x0 x1 (by omega) (by omega) o0 o1 x4 x5
  generalize (if (rightK x0 && runB ⟨x2, x3, x3⟩) = true then fin (addR x2 x3 x0) else ([], some 9)) = A at *
  generalize (if (rightK x0 && runB ⟨x2, x3, x3⟩) = true then fin (dropR x2 x3 x0) else ([], some 9)) = D at *
  generalize (if (rightK x0 && rightK x1) = true then fin (mergeL (x0 ++ x1)) else ([], some 9)) = U at *
  have key := fun it hA hD => KnowPairs_end x0 x1 A.1 D.1 U.1 A.2 D.2 U.2 x4 x5 it 4996 (by decide) p1 q1 u1 (by omega) (by omega) o0 o1 p2 q2 u2 hA hD u3
  by_cases h2 : x4 = x2
  · rw [if_pos h2, show (x5 == x3) = decide (x5 = x3) from rfl]
    refine key _ (fun h => ?_) (fun h => ?_)
    · have := p3 h; simpa [itB, h2] using this
    · have := q3 h; simpa [itB, h2] using this
  · rw [if_neg h2]
    refine key _ (fun h => ?_) (fun h => ?_)
    · have := p3 h; simpa [itB, h2] using this
    · have := q3 h; simpa [itB, h2] using this
end Go.Proofs.Ytiminjibcafkaaa.X
