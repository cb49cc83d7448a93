/- Texts that this claim's law comes to, joined by wip/slim.py: Xpurefits, Xpurefits2. -/
import Derived.Test.YtiminjibcafkaaaSFXhsourceAnswer
import Derived.Test.YtiminjibcafkaaaSFJ31
import Derived.Test.YtiminjibcafkaaaSFX20
import Derived.Test.YtiminjibcafkaaaSFXhsourceoffer
import Derived.Test.YtiminjibcafkaaaSFX22
import Derived.Test.YtiminjibcafkaaaSFJ14
import Derived.Test.YtiminjibcafkaaaSFJ36
import Derived.Test.YtiminjibcafkaaaSFXpureright
section
/- What is answered fits what was asked, in plain Lean. -/
namespace Go.Proofs.Ytiminjibcafkaaa.X
open Go.RowKit Go.Proofs.YtiminjibcafkaaaW.PrintWords Go.Proofs.YtiminjibcafkaaaW.PrintLast Go.Proofs.YtiminjibcafkaaaW.PrintMore
set_option linter.unusedVariables false
set_option linter.unusedSimpArgs false
theorem rightL_filter (p : S27 → Bool) : ∀ l : List S27, rightL l = true → rightL (l.filter p) = true
  | [], _ => rfl
  | x :: l, h => by
    obtain ⟨h1, h2, h3⟩ := rightL_cons x l h
    have ih := rightL_filter p l h2
    by_cases hp : p x = true
    · rw [List.filter_cons_of_pos hp]
      exact rightL_of x _ h1 ih (fun y hy => h3 y (List.mem_filter.1 hy).1)
    · rw [List.filter_cons_of_neg hp]
      exact ih
theorem rightL_take : ∀ (l : List S27) (n : Nat), rightL l = true → rightL (l.take n) = true
  | [], n, _ => by simp; rfl
  | x :: l, 0, _ => rfl
  | x :: l, n + 1, h => by
    obtain ⟨h1, h2, h3⟩ := rightL_cons x l h
    exact rightL_of x _ h1 (rightL_take l n h2) (fun y hy => h3 y (List.mem_of_mem_take hy))
theorem rightL_map (f : S27 → S27) (hf : ∀ x, (f x).f0 = x.f0) (hr : ∀ x, rightE x = true → rightE (f x) = true) : ∀ l : List S27, rightL l = true → rightL (l.map f) = true
  | [], _ => rfl
  | x :: l, h => by
    obtain ⟨h1, h2, h3⟩ := rightL_cons x l h
    refine rightL_of _ _ (hr x h1) (rightL_map f hf hr l h2) (fun y hy => ?_)
    obtain ⟨z, hz, rfl⟩ := List.mem_map.1 hy
    rw [hf, hf]
    exact h3 z hz
theorem rightL_pairs : ∀ l : List S27, rightL l = true → l.Pairwise (fun a b => a.f0 < b.f0)
  | [], _ => List.Pairwise.nil
  | x :: l, h => by
    obtain ⟨h1, h2, h3⟩ := rightL_cons x l h
    exact List.Pairwise.cons h3 (rightL_pairs l h2)
theorem rightL_mem : ∀ l : List S27, rightL l = true → ∀ x ∈ l, rightE x = true
  | [], _, x, hx => by cases hx
  | y :: l, h, x, hx => by
    obtain ⟨h1, h2, h3⟩ := rightL_cons y l h
    rcases List.mem_cons.1 hx with rfl | hx
    · exact h1
    · exact rightL_mem l h2 x hx
theorem rightE_lt (x : S27) (h : rightE x = true) : x.f0 < 64 := by
  unfold rightE at h
  simp only [Bool.and_eq_true, decide_eq_true_eq] at h
  exact h.2.1
theorem fadeV_right (x : S27) (h : rightE x = true) : rightE (fadeV x) = true := by
  unfold fadeV
  by_cases h1 : x.f2 = 1
  · rw [if_pos h1]
    unfold rightE at h ⊢
    rw [if_pos h1] at h
    simp only [Bool.and_eq_true, decide_eq_true_eq] at h ⊢
    refine ⟨h.1, h.2.1, ?_⟩
    have := h.2.2
    simp
    omega
  · rw [if_neg h1]
    exact h
theorem ansV_f0 (fil : Int) (x : S27) : (ansV fil x).f0 = x.f0 := by
  unfold ansV
  split
  · rfl
  · exact fadeV_f0 x
theorem fadeV_f1 (x : S27) : (fadeV x).f1 = x.f1 := by unfold fadeV; split <;> rfl
theorem ansV_f1 (fil : Int) (x : S27) : (ansV fil x).f1 = x.f1 := by
  unfold ansV
  split
  · rfl
  · exact fadeV_f1 x
theorem ansV_right (fil : Int) (x : S27) (h : rightE x = true) : rightE (ansV fil x) = true := by
  unfold ansV
  split
  · exact h
  · exact fadeV_right x h
theorem fadeV_ok (x : S27) (h : Ok_Entry x) : Ok_Entry (fadeV x) := by
  unfold fadeV
  split
  · obtain ⟨h1, h2, h3, h4, h5⟩ := h
    exact ⟨h1, h2, (by show In64 2; unfold In64; omega), h4, (by show In32 0; unfold In32; omega)⟩
  · exact h
theorem ansV_ok (fil : Int) (x : S27) (h : Ok_Entry x) : Ok_Entry (ansV fil x) := by
  unfold ansV
  split
  · exact h
  · exact fadeV_ok x h
theorem ansV_in (fil : Int) (x : S27) (h : Ok_Entry x) (hf : In8 fil) (h1 : (ansV fil x).f2 = 1) : inE (ansV fil x) fil = true := by
  unfold ansV inO at h1 ⊢
  rw [In_is x h fil hf] at h1 ⊢
  by_cases hi : inE x fil = true
  · rw [hi, if_pos rfl]
    exact hi
  · rw [if_neg (by simpa using hi)] at h1
    unfold fadeV at h1
    by_cases h2 : x.f2 = 1
    · rw [if_pos h2] at h1
      cases h1
    · rw [if_neg h2] at h1
      exact absurd h1 h2
theorem nextI_nextB (f : S27 → S27) (hf : ∀ x, (f x).f0 = x.f0) (cur : Int) (l : List S27) : nextI cur l = nextB cur (l.map f) := by
  rcases List.eq_nil_or_concat l with rfl | ⟨l', x, rfl⟩
  · rfl
  · rw [List.concat_eq_append, nextI_snoc]
    unfold nextB
    have hlen : ((l' ++ [x]).map f).length = l'.length + 1 := by simp
    rw [if_pos (by omega), hlen, Nat.add_sub_cancel]
    have : ((l' ++ [x]).map f).getD l'.length z27 = f x := by simp
    rw [this, hf]
theorem dueB_iff (cur : Int) (kn : List S78) (x : S27) : dueB cur kn x = true ↔ cur ≤ x.f0 ∧ kn.any (inRun x.f1.f0 x.f1.f1) = false := by
  unfold dueB
  simp
/-- The rest of what is due. -/
theorem due_rest (cur : Int) (kn : List S78) (l : List S27) (hl : rightL l = true) (hp : ∀ x ∈ l, 0 ≤ x.f0) (hn : 4 < (l.filter (dueB cur kn)).length) :
    l.filter (dueB (nextI cur ((l.filter (dueB cur kn)).take 4)) kn) = (l.filter (dueB cur kn)).drop 4 ∧ nextI cur ((l.filter (dueB cur kn)).take 4) < 64 ∧ 0 ≤ nextI cur ((l.filter (dueB cur kn)).take 4) := by
  have hD := rightL_filter (dueB cur kn) l hl
  have hm : ∀ x ∈ l.filter (dueB cur kn), 0 ≤ x.f0 ∧ cur ≤ x.f0 := fun x hx => ⟨hp x (List.mem_filter.1 hx).1, ((dueB_iff _ _ _).1 (List.mem_filter.1 hx).2).1⟩
  have hll : ∀ n : Int, cur ≤ n → l.filter (dueB n kn) = (l.filter (dueB cur kn)).filter (fun y => decide (n ≤ y.f0)) := by
    intro n hcn
    rw [List.filter_filter]
    congr 1
    funext y
    unfold dueB
    by_cases h1 : n ≤ y.f0
    · rw [decide_eq_true h1, decide_eq_true (show cur ≤ y.f0 by omega)]; simp
    · rw [decide_eq_false h1]; simp
  generalize l.filter (dueB cur kn) = D at hn hD hm hll ⊢
  have hpw := rightL_pairs D hD
  have hE := rightL_mem D hD
  have e3 : D.take 4 = D.take 3 ++ [D[3]] := by rw [← List.take_succ_eq_append_getElem (by omega)]
  have h3 : D[3] ∈ D := List.getElem_mem _
  have h4 : D[4] ∈ D := List.getElem_mem _
  have hlt : D[3].f0 < D[4].f0 := List.pairwise_iff_getElem.1 hpw 3 4 (by omega) (by omega) (by omega)
  have h64 := rightE_lt _ (hE _ h4)
  have hnx : nextI cur (D.take 4) = D[3].f0 + 1 := by
    rw [e3, nextI_snoc]
    have := (hm _ h3).1
    omega
  refine ⟨?_, by rw [hnx]; omega, by rw [hnx]; have := (hm _ h3).1; omega⟩
  rw [hnx, hll _ (by have := (hm _ h3).2; omega)]
  have hsplit : ∀ q : S27 → Bool, D.filter q = (D.take 4).filter q ++ (D.drop 4).filter q := fun q => by rw [← List.filter_append, List.take_append_drop]
  rw [hsplit]
  have k1 : (D.take 4).filter (fun y => decide (D[3].f0 + 1 ≤ y.f0)) = [] := by
    rw [List.filter_eq_nil_iff]
    intro y hy
    obtain ⟨i, hi, rfl⟩ := List.mem_iff_getElem.1 hy
    have hi' : i < 4 := by simp at hi; omega
    rw [List.getElem_take]
    simp only [decide_eq_true_eq]
    rcases Nat.lt_or_ge i 3 with h | h
    · have := List.pairwise_iff_getElem.1 hpw i 3 (by omega) (by omega) h
      omega
    · have : i = 3 := by omega
      subst this
      omega
  have k2 : (D.drop 4).filter (fun y => decide (D[3].f0 + 1 ≤ y.f0)) = D.drop 4 := by
    rw [List.filter_eq_self]
    intro y hy
    obtain ⟨i, hi, rfl⟩ := List.mem_iff_getElem.1 hy
    rw [List.getElem_drop]
    simp only [decide_eq_true_eq]
    have hi' : 4 + i < D.length := by simp at hi; omega
    have := List.pairwise_iff_getElem.1 hpw 3 (4 + i) (by omega) hi' (by omega)
    omega
  rw [k1, k2, List.nil_append]
theorem Same02_from (a : List S27) (hl : a.length ≤ 1000000) : ∀ d k i : Nat, i + d = a.length → d < k → tidingsref02_Same.l0 k a a (i : Int) = some true := by
  intro d
  induction d with
  | zero =>
    intro k i hi hk
    obtain ⟨k, rfl⟩ : ∃ q, k = q + 1 := ⟨k - 1, by omega⟩
    simp only [tidingsref02_Same.l0]
    rw [if_neg (by omega)]
  | succ d ih =>
    intro k i hi hk
    obtain ⟨k, rfl⟩ : ∃ q, k = q + 1 := ⟨k - 1, by omega⟩
    simp only [tidingsref02_Same.l0]
    rw [if_pos (by omega), if_pos (by omega), if_pos (by omega), if_neg (by simp), wrapN i (by omega), ih k (i + 1) (by omega) (by omega)]
theorem Same02_is (a : List S27) (hl : a.length ≤ 1000000) (k : Nat) (hk : a.length < k) : tidingsref02_Same.f k a a = some true := by
  unfold tidingsref02_Same.f
  rw [if_pos rfl]
  exact Same02_from a hl a.length k 0 (by omega) hk
theorem drop_ok (l : List S78) (hl : l.length ≤ 400000) (ok : ∀ z ∈ l, Ok_Run z) (r n : Int) (hr : In8 r) (hn : In32 n) : (∀ z ∈ (dropF r n l).1, Ok_Run z) ∧ (dropF r n l).1.length ≤ 900 ∧ ((dropF r n l).2 = none → rightK (dropF r n l).1 = true) := by
  have h := drop_facts l hl ok r n hr hn 0 0
  exact ⟨h.2.1, h.1, fun e => (h.2.2 (by show (dropF r n l).2.isNone = true; rw [e]; rfl)).1⟩
/-- What is offered is right. -/
theorem offer_is (k : Nat) (fil : Int) (hf : In8 fil) (hk : 2000 < k) : ∀ (l : List S27) (out : List S78), (∀ z ∈ l, Ok_Entry z) → (∀ z ∈ out, Ok_Run z) → out.length ≤ 900 → rightK out = true →
    ∃ l' e, source_offer.l0 k fil l out = some (l', e) ∧ (e = none → rightK l' = true ∧ l'.length ≤ 900 ∧ ∀ z ∈ l', Ok_Run z) ∧ (e ≠ none → l' = [])
  | [], out, _, ok, hl, hr => ⟨out, none, by simp only [source_offer.l0, slices_Clone_Run.f]; rw [if_pos (by omega)]; rfl, fun _ => ⟨hr, hl, ok⟩, fun h => absurd rfl h⟩
  | x :: l, out, okl, ok, hl, hr => by
    obtain ⟨o0, o1, o2, o3, o4⟩ := okl x (by simp)
    have hx : Ok_Entry x := ⟨o0, o1, o2, o3, o4⟩
    have hq : ∀ z ∈ l, Ok_Entry z := fun z hz => okl z (List.mem_cons_of_mem _ hz)
    simp only [source_offer.l0]
    have hin : ∃ b, (if x.f2 = 2 then item_In.f x.f0 x.f1.f0 x.f1.f1 x.f1.f2 x.f2 x.f3 x.f4 fil else some false) = some b := by
      split
      · exact ⟨_, In_is x hx fil hf⟩
      · exact ⟨_, rfl⟩
    obtain ⟨b, hb⟩ := hin
    rw [hb]
    simp only [Option.bind_some]
    cases b with
    | false =>
      rw [if_neg (by decide)]
      exact offer_is k fil hf hk l out hq ok hl hr
    | true =>
      rw [if_pos rfl, DropK_is out (by omega) ok x.f1.f0 x.f1.f1 o1.2.1 k (by omega)]
      obtain ⟨d1, d2, d3⟩ := drop_ok out (by omega) ok x.f1.f0 x.f1.f1 o1.1 o1.2.1
      show ∃ l' e, ((some (dropF x.f1.f0 x.f1.f1 out)).bind fun p => match p.2 with
        | some c => some ([], some c)
        | none => source_offer.l0 k fil l p.1) = some (l', e) ∧ _
      generalize dropF x.f1.f0 x.f1.f1 out = p at d1 d2 d3
      obtain ⟨p1, p2⟩ := p
      cases p2 with
      | some c => exact ⟨[], some c, rfl, fun h => (by cases h), fun _ => rfl⟩
      | none => exact offer_is k fil hf hk l p1 hq d1 d2 (d3 rfl)
end Go.Proofs.Ytiminjibcafkaaa.X
end
section
/- What is answered fits what was asked. -/
namespace Go.Proofs.Ytiminjibcafkaaa.X
open Go.RowKit Go.Proofs.YtiminjibcafkaaaW.PrintWords Go.Proofs.YtiminjibcafkaaaW.PrintLast Go.Proofs.YtiminjibcafkaaaW.PrintMore
set_option linter.unusedVariables false
set_option linter.unusedSimpArgs false
section
variable (a0 a1 a2 a3 : Int) (l4 : List S78) (l5 : List S27) (a6 : Bool) (a7 a8 a9 a10 : Int) (l11 : List S78) (a12 : Int)
variable (b0 b1 b2 b3 b4 b5 : Int) (m6 : List S78) (b7 : Int) (m8 : List S27) (b9 : Int) (b10 : Bool) (m11 : List S78)
theorem check_is (h4 : l4.length ≤ 300) (h5 : l5.length ≤ 300) (h11 : l11.length ≤ 300) (ok4 : ∀ z ∈ l4, Ok_Run z) (ok5 : ∀ z ∈ l5, Ok_Entry z) (ok11 : ∀ z ∈ l11, Ok_Run z) (hf : In8 a1)
    (n6 : m6.length ≤ 300) (n8 : m8.length ≤ 300) (n11 : m11.length ≤ 300) (pk6 : ∀ z ∈ m6, Ok_Run z) (pk8 : ∀ z ∈ m8, Ok_Entry z) (pk11 : ∀ z ∈ m11, Ok_Run z) :
    source_check.f 100000 a0 a1 a2 a3 l4 l5 a6 a7 a8 a9 a10 l11 a12 b0 b1 b2 b3 b4 b5 m6 b7 m8 b9 b10 m11 = some (if repB a0 a1 a2 a3 l4 l5 a6 a7 a8 a9 a10 l11 a12 = true then if noteB b0 b1 b2 b3 b4 b5 m6 b7 m8 b9 b10 m11 = true then if b0 = 1 ∧ b2 = a0 then none else some 4 else some 3 else some 9) := by
  unfold source_check.f
  rw [rep_is 100000 a0 a1 a2 a3 l4 l5 a6 a7 a8 a9 a10 l11 a12 (by omega) (by omega) (by omega) ok4 ok5 ok11 hf (by omega) (by omega) (by omega), note_is 100000 b0 b1 b2 b3 b4 b5 m6 b7 m8 b9 b10 m11 (by omega) (by omega) (by omega) pk6 pk8 pk11 (by omega) (by omega) (by omega)]
  simp only [Option.bind_some]
  cases repB a0 a1 a2 a3 l4 l5 a6 a7 a8 a9 a10 l11 a12 with
  | false => rfl
  | true =>
    cases noteB b0 b1 b2 b3 b4 b5 m6 b7 m8 b9 b10 m11 with
    | false => rfl
    | true =>
      simp only [if_true]
      by_cases h1 : b0 = 1
      · by_cases h2 : b2 = a0
        · rw [if_pos h1, if_pos h2, if_pos ⟨h1, h2⟩]
        · rw [if_pos h1, if_neg h2, if_neg (fun h => h2 h.2)]
      · rw [if_neg h1, if_neg (fun h => h1 h.1)]
theorem fits (h4 : l4.length ≤ 300) (h5 : l5.length ≤ 300) (h11 : l11.length ≤ 300) (ok4 : ∀ z ∈ l4, Ok_Run z) (ok5 : ∀ z ∈ l5, Ok_Entry z) (ok11 : ∀ z ∈ l11, Ok_Run z) (hf : In8 a1)
    (n6 : m6.length ≤ 300) (n8 : m8.length ≤ 300) (n11 : m11.length ≤ 300) (pk6 : ∀ z ∈ m6, Ok_Run z) (pk8 : ∀ z ∈ m8, Ok_Entry z) (pk11 : ∀ z ∈ m11, Ok_Run z) (hg : In8 b5) (hc : In8 b4) :
    (∃ c, source_Answer.f 100000 a0 a1 a2 a3 l4 l5 a6 a7 a8 a9 a10 l11 a12 b0 b1 b2 b3 b4 b5 m6 b7 m8 b9 b10 m11 = some (0, 0, 0, 0, 0, 0, [], 0, [], 0, false, [], some c)) ∨
    (∃ (D L : List S27) (nx : Int) (of : List S78), source_Answer.f 100000 a0 a1 a2 a3 l4 l5 a6 a7 a8 a9 a10 l11 a12 b0 b1 b2 b3 b4 b5 m6 b7 m8 b9 b10 m11 = some (2, a0, b1, b3, b4, 0, [], a2, L, nx, decide (D.length ≤ 4), of, none) ∧
      source_Due.f 100000 a0 a1 a2 a3 l4 l5 a6 a7 a8 a9 a10 l11 a12 b0 b1 b2 b3 b4 b5 m6 b7 m8 b9 b10 m11 = some (D, none) ∧ D.length ≤ 300 ∧
      note_Right.f 100000 2 a0 b1 b3 b4 0 [] a2 L nx (decide (D.length ≤ 4)) of = some true ∧ L.length ≤ 4 ∧ (4 < D.length → L.length = 4) ∧
      (∀ x ∈ L, b4 ≤ x.f0 ∧ tidingsref01_Has.f 100000 m6 x.f1.f0 x.f1.f1 = some false ∧ (x.f2 = 1 → tidingsref02_In.f 100000 x.f0 x.f1.f0 x.f1.f1 x.f1.f2 x.f2 x.f3 x.f4 b5 = some true)) ∧
      (4 < D.length → source_Due.f 100000 a0 a1 a2 a3 l4 l5 a6 a7 a8 a9 a10 l11 a12 b0 b1 b2 b3 nx b5 m6 b7 m8 b9 b10 m11 = some (D.drop 4, none) ∧ tidingsref02_Same.f 100000 (D.drop 4) (D.drop 4) = some true)) := by
  have hck := check_is a0 a1 a2 a3 l4 l5 a6 a7 a8 a9 a10 l11 a12 b0 b1 b2 b3 b4 b5 m6 b7 m8 b9 b10 m11 h4 h5 h11 ok4 ok5 ok11 hf n6 n8 n11 pk6 pk8 pk11
  by_cases hR : repB a0 a1 a2 a3 l4 l5 a6 a7 a8 a9 a10 l11 a12 = true
  case neg =>
    rw [if_neg hR] at hck
    exact .inl ⟨9, by unfold source_Answer.f; rw [hck]; rfl⟩
  by_cases hN : noteB b0 b1 b2 b3 b4 b5 m6 b7 m8 b9 b10 m11 = true
  case neg =>
    rw [if_pos hR, if_neg hN] at hck
    exact .inl ⟨3, by unfold source_Answer.f; rw [hck]; rfl⟩
  by_cases hP : b0 = 1 ∧ b2 = a0
  case neg =>
    rw [if_pos hR, if_pos hN, if_neg hP] at hck
    exact .inl ⟨4, by unfold source_Answer.f; rw [hck]; rfl⟩
  rw [if_pos hR, if_pos hN, if_pos hP] at hck
  obtain ⟨rfl, rfl⟩ := hP
  -- what is right
  have hR' := hR
  unfold repB at hR'
  simp only [Bool.and_eq_true, decide_eq_true_eq] at hR'
  obtain ⟨r1, r2, r3, _⟩ := hR'
  have hN' := hN
  unfold noteB at hN'
  rw [decide_eq_true (show (1 : Int) = 1 from rfl), decide_eq_false (show ¬ (1 : Int) = 2 by decide)] at hN'
  simp only [Bool.and_eq_true, Bool.true_and, Bool.false_and, Bool.or_false, Bool.not_eq_true', decide_eq_true_eq, decide_eq_false_iff_not] at hN'
  obtain ⟨p1, p2, p3, p4, p5, p6⟩ := hN'
  unfold pullB at p6
  simp only [Bool.and_eq_true, decide_eq_true_eq, Bool.not_eq_true'] at p6
  obtain ⟨k6, _⟩ := p6
  have hall : l5.all (fun x => (inO b5 x).isSome) = true := List.all_eq_true.2 (fun x hx => by unfold inO; rw [In_is x (ok5 x hx) b5 hg]; rfl)
  have hkr : know_Right.f 100000 m6 = some true := by rw [RightK_is m6 (by omega) pk6 100000 (by omega), k6]
  have hpos : ∀ x ∈ l5, 0 ≤ x.f0 := fun x hx => (ok5 x hx).1.1
  unfold In8 at hc
  have hDue : ∀ cur : Int, cur < 64 → source_Due.f 100000 b2 a1 a2 a3 l4 l5 a6 a7 a8 a9 a10 l11 a12 1 b1 b2 b3 cur b5 m6 b7 m8 b9 b10 m11 = some (l5.filter (dueB cur m6), none) := by
    intro cur hcur
    unfold source_Due.f
    rw [check_is b2 a1 a2 a3 l4 l5 a6 a7 a8 a9 a10 l11 a12 1 b1 b2 b3 cur b5 m6 b7 m8 b9 b10 m11 h4 h5 h11 ok4 ok5 ok11 hf n6 n8 n11 pk6 pk8 pk11, if_pos hR, if_pos (by
      unfold noteB at hN ⊢
      rw [decide_eq_true hcur]
      rw [decide_eq_true p5] at hN
      rw [decide_eq_false (show ¬ (1 : Int) = 2 by decide), Bool.false_and] at hN ⊢
      exact hN), if_pos ⟨rfl, rfl⟩]
    simp only [Option.bind_some]
    rw [hkr]
    simp only [Option.bind_some, if_true]
    rw [if_pos (by omega)]
  have hAns : source_Answer.f 100000 b2 a1 a2 a3 l4 l5 a6 a7 a8 a9 a10 l11 a12 1 b1 b2 b3 b4 b5 m6 b7 m8 b9 b10 m11 = ((if 0 < b4 then some (2, b2, b1, b3, b4, 0, [], a2, ((l5.filter (dueB b4 m6)).take 4).map (ansV b5), nextI b4 ((l5.filter (dueB b4 m6)).take 4), decide ((l5.filter (dueB b4 m6)).length ≤ 4), [], none)
        else (source_offer.l0 100000 b5 l5 l4).bind fun p => match p.2 with
          | some c => some (0, 0, 0, 0, 0, 0, [], 0, [], 0, false, [], some c)
          | none => some (2, b2, b1, b3, b4, 0, [], a2, ((l5.filter (dueB b4 m6)).take 4).map (ansV b5), nextI b4 ((l5.filter (dueB b4 m6)).take 4), decide ((l5.filter (dueB b4 m6)).length ≤ 4), p.1, none) : Option (Int × Int × Int × Int × Int × Int × (List (S78)) × Int × (List (S27)) × Int × Bool × (List (S78)) × Option Int))) := by
    unfold source_Answer.f
    rw [hck]
    simp only [Option.bind_some]
    rw [hkr]
    simp only [Option.bind_some, if_true]
    rw [if_pos (by omega), if_pos hall]
    rfl
  have hDR := rightL_filter (dueB b4 m6) l5 r3
  have hDlen : (l5.filter (dueB b4 m6)).length ≤ 300 := Nat.le_trans (List.length_filter_le _ _) h5
  have hDm : ∀ x ∈ l5.filter (dueB b4 m6), x ∈ l5 ∧ b4 ≤ x.f0 ∧ m6.any (inRun x.f1.f0 x.f1.f1) = false := fun x hx => ⟨(List.mem_filter.1 hx).1, (dueB_iff _ _ _).1 (List.mem_filter.1 hx).2⟩
  have hrest := due_rest b4 m6 l5 r3 hpos
  have hDb := hDue b4 p5
  -- all but what is offered
  have hmain : ∀ of : List S78, rightK of = true → of.length ≤ 900 → (∀ z ∈ of, Ok_Run z) → (0 < b4 → of = []) →
      note_Right.f 100000 2 b2 b1 b3 b4 0 [] a2 (((l5.filter (dueB b4 m6)).take 4).map (ansV b5)) (nextI b4 ((l5.filter (dueB b4 m6)).take 4)) (decide ((l5.filter (dueB b4 m6)).length ≤ 4)) of = some true := by
    intro of o1 o2 o3 o4
    have okL : ∀ z ∈ ((l5.filter (dueB b4 m6)).take 4).map (ansV b5), Ok_Entry z := fun z hz => by
      obtain ⟨y, hy, rfl⟩ := List.mem_map.1 hz
      exact ansV_ok b5 y (ok5 y (hDm y (List.mem_of_mem_take hy)).1)
    rw [note_is 100000 2 b2 b1 b3 b4 0 [] a2 _ _ _ of (by simp) (by simp; omega) (by omega) (by simp) okL o3 (by simp) (by simp; omega) (by omega)]
    congr 1
    unfold noteB
    rw [decide_eq_true p2, decide_eq_true p1, decide_eq_false (fun h => p3 h.symm), decide_eq_false p4, decide_eq_true p5, decide_eq_false (show ¬ (2 : Int) = 1 by decide), decide_eq_true (show (2 : Int) = 2 from rfl)]
    simp only [Bool.true_and, Bool.not_false, Bool.false_and, Bool.false_or]
    unfold batchB
    have hLR := rightL_map (ansV b5) (ansV_f0 b5) (ansV_right b5) _ (rightL_take _ 4 hDR)
    rw [decide_eq_true (show (0 : Int) = 0 from rfl), decide_eq_true (show ([] : List S78).length = 0 from rfl), hLR, o1, nextI_nextB (ansV b5) (ansV_f0 b5) b4 ((l5.filter (dueB b4 m6)).take 4), decide_eq_true (show nextB b4 (((l5.filter (dueB b4 m6)).take 4).map (ansV b5)) = _ from rfl)]
    have hl4 : (((l5.filter (dueB b4 m6)).take 4).map (ansV b5)).length ≤ 4 := by simp; omega
    rw [decide_eq_true hl4]
    simp only [Bool.true_and]
    rw [← nextI_nextB (ansV b5) (ansV_f0 b5) b4 ((l5.filter (dueB b4 m6)).take 4)]
    have hfirst : (decide (0 < (((l5.filter (dueB b4 m6)).take 4).map (ansV b5)).length) && decide (((((l5.filter (dueB b4 m6)).take 4).map (ansV b5)).getD 0 z27).f0 < b4)) = false := by
      by_cases h0 : 0 < (((l5.filter (dueB b4 m6)).take 4).map (ansV b5)).length
      · have hm := getD_mem _ 0 z27 h0
        obtain ⟨y, hy, e⟩ := List.mem_map.1 hm
        rw [← e, ansV_f0]
        have := (hDm y (List.mem_of_mem_take hy)).2.1
        rw [decide_eq_false (show ¬ y.f0 < b4 by omega), Bool.and_false]
      · rw [decide_eq_false h0]; rfl
    rw [hfirst]
    have hoff : (decide (0 < b4) && decide (0 < of.length)) = false := by
      by_cases h0 : 0 < b4
      · rw [o4 h0]; simp
      · rw [decide_eq_false h0]; rfl
    rw [hoff]
    simp only [Bool.not_false, Bool.true_and]
    by_cases h0 : (l5.filter (dueB b4 m6)).length ≤ 4
    · rw [decide_eq_true h0]; rfl
    · obtain ⟨_, q2, _⟩ := hrest (by omega)
      rw [decide_eq_false h0, decide_eq_true q2, decide_eq_true (show (((l5.filter (dueB b4 m6)).take 4).map (ansV b5)).length = 4 by simp; omega)]
      rfl
  have hloop : ∀ x ∈ ((l5.filter (dueB b4 m6)).take 4).map (ansV b5), b4 ≤ x.f0 ∧ tidingsref01_Has.f 100000 m6 x.f1.f0 x.f1.f1 = some false ∧ (x.f2 = 1 → tidingsref02_In.f 100000 x.f0 x.f1.f0 x.f1.f1 x.f1.f2 x.f2 x.f3 x.f4 b5 = some true) := by
    intro x hx
    obtain ⟨y, hy, rfl⟩ := List.mem_map.1 hx
    obtain ⟨y1, y2, y3⟩ := hDm y (List.mem_of_mem_take hy)
    refine ⟨by rw [ansV_f0]; exact y2, ?_, fun h => ?_⟩
    · rw [ansV_f1, ref01_Has_is m6 (by omega) pk6 _ _ 100000 (by omega)]
      unfold hasB
      rw [y3, Bool.and_false]
    · rw [In_is' (ansV b5 y) (ansV_ok b5 y (ok5 y y1)) b5 hg 100000 (by omega), ansV_in b5 y (ok5 y y1) hg h]
  have hlast : 4 < (l5.filter (dueB b4 m6)).length → source_Due.f 100000 b2 a1 a2 a3 l4 l5 a6 a7 a8 a9 a10 l11 a12 1 b1 b2 b3 (nextI b4 ((l5.filter (dueB b4 m6)).take 4)) b5 m6 b7 m8 b9 b10 m11 = some ((l5.filter (dueB b4 m6)).drop 4, none) ∧ tidingsref02_Same.f 100000 ((l5.filter (dueB b4 m6)).drop 4) ((l5.filter (dueB b4 m6)).drop 4) = some true := by
    intro h
    obtain ⟨q1, q2, q3⟩ := hrest h
    refine ⟨?_, Same02_is _ (by simp; omega) _ (by simp; omega)⟩
    rw [hDue _ q2, q1]
  by_cases h0 : 0 < b4
  · rw [if_pos h0] at hAns
    exact .inr ⟨_, _, _, _, hAns, hDb, hDlen, hmain [] (by rfl) (by simp) (by simp) (fun _ => rfl), by simp; omega, fun h => by simp; omega, hloop, hlast⟩
  · rw [if_neg h0] at hAns
    obtain ⟨of, e, he, o1, o2⟩ := offer_is 100000 b5 hg (by omega) l5 l4 ok5 ok4 (by omega) r2
    rw [he] at hAns
    cases e with
    | some c =>
      exact .inl ⟨c, hAns⟩
    | none =>
      obtain ⟨o3, o4, o5⟩ := o1 rfl
      exact .inr ⟨_, _, _, _, hAns, hDb, hDlen, hmain of o3 o4 o5 (fun h => absurd h h0), by simp; omega, fun h => by simp; omega, hloop, hlast⟩
end
end Go.Proofs.Ytiminjibcafkaaa.X
end
