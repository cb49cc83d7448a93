/- The law ItemAny at every input. -/
import Derived.Test.YtiminjibcafkaaaANXwItemAny
import Derived.Test.YtiminjibcafkaaaANXop
import Derived.OpenShut
namespace Go.Proofs.Ytiminjibcafkaaa.X
open Go.RowKit Go.Proofs.YtiminjibcafkaaaW.PrintWords Go.Proofs.YtiminjibcafkaaaW.PrintLast Go.Proofs.YtiminjibcafkaaaW.PrintMore
set_option linter.unusedVariables false
section
variable {H : Type} {enc : TypeId × Value → H} {w : World} {base : Nat} {spare : Nat → Bool} {held : Bool} {fuel : Nat} {cs : List Value} {y : DataW H × List MemPlace}
theorem cut21 {α : Type} (l : List α) (h : l.length = 21) : l = (l.drop (0 * 7)).take 7 ++ ((l.drop (1 * 7)).take 7 ++ (l.drop (2 * 7)).take 7) := by
  have a1 := List.take_append_drop 7 l
  have a2 := List.take_append_drop 7 (l.drop 7)
  have a3 : (l.drop 14).take 7 = l.drop 14 := List.take_of_length_le (by simp; omega)
  rw [List.drop_drop] at a2
  show l = (l.drop 0).take 7 ++ ((l.drop 7).take 7 ++ (l.drop 14).take 7)
  rw [a3, List.drop_zero]
  rw [a2]
  exact a1.symm
theorem op_arr3 (h : DataW.trod enc Try.prog w base spare held fuel 28 cs = some y) : ∃ e0 e1 e2 : S27, cs = [.int .u8 e0.f0, .int .u8 e0.f1.f0, .int .u32 e0.f1.f1, .int .u32 e0.f1.f2, .int .i64 e0.f2, .int .u8 e0.f3, .int .u32 e0.f4, .int .u8 e1.f0, .int .u8 e1.f1.f0, .int .u32 e1.f1.f1, .int .u32 e1.f1.f2, .int .i64 e1.f2, .int .u8 e1.f3, .int .u32 e1.f4, .int .u8 e2.f0, .int .u8 e2.f1.f0, .int .u32 e2.f1.f1, .int .u32 e2.f1.f2, .int .i64 e2.f2, .int .u8 e2.f3, .int .u32 e2.f4] ∧ Ok_Entry e0 ∧ Ok_Entry e1 ∧ Ok_Entry e2 := by
  obtain ⟨xs, m, _, _, hl, hn, hel⟩ := DataW.trod_array Try.underlying28 h
  match xs, hn with
  | [a, b, c], _ =>
    have hc : Try.prog.cellsOf 27 = 7 := by kernel_rfl
    have h28 : Try.prog.cellsOf 28 = 21 := by kernel_rfl
    rw [hc] at hel
    rw [h28] at hl
    obtain ⟨e0, k0, o0⟩ := op_Entry ((hel 0 (by omega)).trans (rfl : [a, b, c][0]? = some a))
    obtain ⟨e1, k1, o1⟩ := op_Entry ((hel 1 (by omega)).trans (rfl : [a, b, c][1]? = some b))
    obtain ⟨e2, k2, o2⟩ := op_Entry ((hel 2 (by omega)).trans (rfl : [a, b, c][2]? = some c))
    have e := cut21 cs hl
    rw [k27_open k0, k27_open k1, k27_open k2] at e
    exact ⟨e0, e1, e2, e, o0, o1, o2⟩
theorem okWide_array {P : Program} {r : Reach} {base : Nat} {t e : TypeId} {n : Nat} {v : Value} (ht : P.underlying t = some (.array n e)) (h : Value.okWide P w r base t v) : ∃ cs, v = .agg cs ∧ cs.size = P.cellsOf t := by
  simp only [Value.okWide, ht] at h
  obtain ⟨cs, h1, h2, _⟩ := h
  exact ⟨cs, h1, h2⟩
end
theorem Any_take (l : List S27) (e : S27) (hl : l.length ≤ 310) (ok : ∀ z ∈ l, Ok_Entry z) (oe : Ok_Entry e) (hR : rightL l = true) (hE : rightE e = true) :
    item_Take.f 2000 l e.f0 e.f1.f0 e.f1.f1 e.f1.f2 e.f2 e.f3 e.f4 = some (insE l e, none) := by
  rw [Take_is l e (by omega) ok oe 2000 (by omega), hR, hE]; rfl
theorem ItemAny_law (w : World) (l : List S27) (e0 e1 e2 : S27) (a b d : Int) (ok : ∀ z ∈ l, Ok_Entry z) (o0 : Ok_Entry e0) (o1 : Ok_Entry e1) (o2 : Ok_Entry e2) (ha : In8 a) (hb : In8 b) (hd : In8 d) {A : Option Addr} {c : Nat} (hr : Kd.C k27 w A l.length l) (hc : l.length ≤ c) :
    Calls Try.prog 3 #[.slice A l.length c, .agg #[.int .u8 e0.f0, .int .u8 e0.f1.f0, .int .u32 e0.f1.f1, .int .u32 e0.f1.f2, .int .i64 e0.f2, .int .u8 e0.f3, .int .u32 e0.f4, .int .u8 e1.f0, .int .u8 e1.f1.f0, .int .u32 e1.f1.f1, .int .u32 e1.f1.f2, .int .i64 e1.f2, .int .u8 e1.f3, .int .u32 e1.f4, .int .u8 e2.f0, .int .u8 e2.f1.f0, .int .u32 e2.f1.f1, .int .u32 e2.f1.f2, .int .i64 e2.f2, .int .u8 e2.f3, .int .u32 e2.f4], .int .u8 a, .int .u8 b, .int .u8 d] w fun e w' => e = .returned (.bool true) ∧ Below w.heap.size w w' := by
  by_cases hlt : l.length ≤ 300
  case neg => exact ItemAny_long l e0 e1 e2 A c a b d w hlt
  have hRr := Right_is' l (by omega) ok 2000 (by omega)
  cases hR : rightL l with
  | false => exact ItemAny_wrong l e0 e1 e2 A c a b d w hr hc hlt (hRr.trans (congrArg some hR))
  | true =>
    replace hRr := hRr.trans (congrArg some hR)
    have k0 := RightEntry_is 1999 e0 o0
    have k1 := RightEntry_is 1999 e1 o1
    have k2 := RightEntry_is 1999 e2 o2
    cases h0 : rightE e0 with
    | false => exact ItemAny_wrong0 l e0 e1 e2 A c a b d w hr hc hlt hRr (k0.trans (congrArg some h0))
    | true =>
      replace k0 := k0.trans (congrArg some h0)
      cases h1 : rightE e1 with
      | false => exact ItemAny_wrong1 l e0 e1 e2 A c a b d w hr hc hlt hRr k0 (k1.trans (congrArg some h1))
      | true =>
        replace k1 := k1.trans (congrArg some h1)
        cases h2 : rightE e2 with
        | false => exact ItemAny_wrong2 l e0 e1 e2 A c a b d w hr hc hlt hRr k0 k1 (k2.trans (congrArg some h2))
        | true =>
          replace k2 := k2.trans (congrArg some h2)
          have rE : ∀ j, rightE (E3 e0 e1 e2 j) = true := fun j => by
            rcases E3_in e0 e1 e2 j with h | h | h <;> rw [h] <;> assumption
          have oE : ∀ j, Ok_Entry (E3 e0 e1 e2 j) := fun j => by
            rcases E3_in e0 e1 e2 j with h | h | h <;> rw [h] <;> assumption
          have st : ∀ (x : List S27) (n : Nat) (e : S27), (x.length ≤ n ∧ (∀ z ∈ x, Ok_Entry z) ∧ rightL x = true) → Ok_Entry e → rightE e = true → ((insE x e).length ≤ n + 1 ∧ (∀ z ∈ insE x e, Ok_Entry z) ∧ rightL (insE x e) = true) :=
            fun x n e h oe re => ⟨by have := insE_length x e; omega, insE_ok x e h.2.1 oe, insE_right x e h.2.2 re⟩
          have s0 : l.length ≤ 300 ∧ (∀ z ∈ l, Ok_Entry z) ∧ rightL l = true := ⟨hlt, ok, hR⟩
          have sx1 := st l 300 e0 s0 o0 h0
          have sx2 := st _ _ e1 sx1 o1 h1
          have sx3 := st _ _ e2 sx2 o2 h2
          have sx4 := st _ _ (E3 e0 e1 e2 (a % 3)) sx3 (oE _) (rE _)
          have sy1 := st l 300 (E3 e0 e1 e2 (b % 3)) s0 (oE _) (rE _)
          have sy2 := st _ _ (E3 e0 e1 e2 ((b + 1 + d % 2) % 3)) sy1 (oE _) (rE _)
          have sy3 := st _ _ (E3 e0 e1 e2 ((b + 2 - d % 2) % 3)) sy2 (oE _) (rE _)
          unfold In8 at ha hb hd
          obtain ⟨hlen, hat⟩ := any_at l e0 e1 e2 (a % 3) b (d % 2) (d % 3) (by omega) (by omega) (by omega) (by omega) hR h0 h1 h2
          have tk : ∀ (x : List S27) (n : Nat) (e : S27), (x.length ≤ n ∧ (∀ z ∈ x, Ok_Entry z) ∧ rightL x = true) → n ≤ 310 → Ok_Entry e → rightE e = true → item_Take.f 2000 x e.f0 e.f1.f0 e.f1.f1 e.f1.f2 e.f2 e.f3 e.f4 = some (insE x e, none) :=
            fun x n e h hn oe re => Any_take x e (Nat.le_trans h.1 hn) h.2.1 oe h.2.2 re
          refine ItemAny_four l e0 e1 e2 A c a b d w hr hc hlt hRr k0 k1 k2 ha hb hd _ _ _ _ _ _ _ _ (tk _ _ _ s0 (by omega) o0 h0) (tk _ _ _ sx1 (by omega) o1 h1) (tk _ _ _ sx2 (by omega) o2 h2) (tk _ _ _ sx3 (by omega) (oE _) (rE _)) (Nat.le_trans sx4.1 (by omega)) hlen.symm (fun i hi => ?_) (tk _ _ _ s0 (by omega) (oE _) (rE _)) (tk _ _ _ sy1 (by omega) (oE _) (rE _)) (tk _ _ _ sy2 (by omega) (oE _) (rE _)) (tk _ _ _ sy3 (by omega) (oE _) (rE _))
          obtain ⟨q1, q2, q3⟩ := hat i hi
          exact ⟨findE l _, _, Find_is' l _ (by omega) 2000 (by omega), fun hp => (Less_is _ _).trans (congrArg some (q3 hp)), q1.symm, q2.symm⟩
end Go.Proofs.Ytiminjibcafkaaa.X
