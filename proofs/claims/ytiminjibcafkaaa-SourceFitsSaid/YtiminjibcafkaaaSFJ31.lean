/- Texts that this claim's law comes to, joined by wip/slim.py: XhsourceDue, X21. -/
import Derived.Test.YtiminjibcafkaaaSFX0
import Derived.Test.YtiminjibcafkaaaSFJ8
import Derived.Test.YtiminjibcafkaaaSFX13
import Derived.Test.YtiminjibcafkaaaSFX20
import Derived.Test.YtiminjibcafkaaaSFJ29
section
-- MADE BY wip/prx.py (the kit's printer, with contracts proved by hand). Not trusted: Lean checks it.
namespace Go.Proofs.Ytiminjibcafkaaa.X
open Go.RowKit Go.Proofs.YtiminjibcafkaaaW.PrintWords Go.Proofs.YtiminjibcafkaaaW.PrintLast Go.Proofs.YtiminjibcafkaaaW.PrintMore
attribute [local go_sem] max2_int min2_int max_two min_two max_three min_three max_four min_four   -- for this text's walks alone
set_option linter.unusedVariables false
set_option linter.unusedSimpArgs false
--EXT Derived.Test.YtiminjibcafkaaaXdue
/-! ### source_Due: function 28, by hand -/
/-- source.Due. -/
def source_Due.f (k : Nat) (a0_0 : Int) (a0_1 : Int) (a0_2 : Int) (a0_3 : Int) (l0_4 : List (S78)) (l0_5 : List (S27)) (a0_6 : Bool) (a0_7 : Int) (a0_8 : Int) (a0_9 : Int) (a0_10 : Int) (l0_11 : List (S78)) (a0_12 : Int) (a1_0 : Int) (a1_1 : Int) (a1_2 : Int) (a1_3 : Int) (a1_4 : Int) (a1_5 : Int) (l1_6 : List (S78)) (a1_7 : Int) (l1_8 : List (S27)) (a1_9 : Int) (a1_10 : Bool) (l1_11 : List (S78)) : Option (List S27 × Option Int) :=
  (source_check.f k a0_0 a0_1 a0_2 a0_3 l0_4 l0_5 a0_6 a0_7 a0_8 a0_9 a0_10 l0_11 a0_12 a1_0 a1_1 a1_2 a1_3 a1_4 a1_5 l1_6 a1_7 l1_8 a1_9 a1_10 l1_11).bind fun e => match e with
    | some c => some ([], some c)
    | none => (know_Right.f k l1_6).bind fun b => if b = true then if l0_5.length ≤ 400000 then some (l0_5.filter (dueB a1_4 l1_6), none) else none else none
set_option maxHeartbeats 8000000 in
set_option maxRecDepth 100000 in
theorem source_Due.calls (k : Nat) (a0_0 : Int) (a0_1 : Int) (a0_2 : Int) (a0_3 : Int) (A0_4 : Option Addr) (c0_4 : Nat) (l0_4 : List (S78)) (A0_5 : Option Addr) (c0_5 : Nat) (l0_5 : List (S27)) (a0_6 : Bool) (a0_7 : Int) (a0_8 : Int) (a0_9 : Int) (a0_10 : Int) (A0_11 : Option Addr) (c0_11 : Nat) (l0_11 : List (S78)) (a0_12 : Int) (a1_0 : Int) (a1_1 : Int) (a1_2 : Int) (a1_3 : Int) (a1_4 : Int) (a1_5 : Int) (A1_6 : Option Addr) (c1_6 : Nat) (l1_6 : List (S78)) (a1_7 : Int) (A1_8 : Option Addr) (c1_8 : Nat) (l1_8 : List (S27)) (a1_9 : Int) (a1_10 : Bool) (A1_11 : Option Addr) (c1_11 : Nat) (l1_11 : List (S78)) (r1 : List (S27)) (r2 : Option Int) (w : World) (hr0_4 : Kd.C k78 w A0_4 l0_4.length l0_4) (hc0_4 : l0_4.length ≤ c0_4) (hr0_5 : Kd.C k27 w A0_5 l0_5.length l0_5) (hc0_5 : l0_5.length ≤ c0_5) (hr0_11 : Kd.C k78 w A0_11 l0_11.length l0_11) (hc0_11 : l0_11.length ≤ c0_11) (hr1_6 : Kd.C k78 w A1_6 l1_6.length l1_6) (hc1_6 : l1_6.length ≤ c1_6) (hr1_8 : Kd.C k27 w A1_8 l1_8.length l1_8) (hc1_8 : l1_8.length ≤ c1_8) (hr1_11 : Kd.C k78 w A1_11 l1_11.length l1_11) (hc1_11 : l1_11.length ≤ c1_11) (h : source_Due.f k a0_0 a0_1 a0_2 a0_3 l0_4 l0_5 a0_6 a0_7 a0_8 a0_9 a0_10 l0_11 a0_12 a1_0 a1_1 a1_2 a1_3 a1_4 a1_5 l1_6 a1_7 l1_8 a1_9 a1_10 l1_11 = some (r1, r2)) :
    Calls Try.prog 28 #[.agg #[.int .u8 a0_0, .int .u8 a0_1, .int .u32 a0_2, .int .u32 a0_3, .slice A0_4 l0_4.length c0_4, .slice A0_5 l0_5.length c0_5, .bool a0_6, .int .u32 a0_7, .int .u8 a0_8, .int .u8 a0_9, .int .u32 a0_10, .slice A0_11 l0_11.length c0_11, .int .u32 a0_12], .agg #[.int .i64 a1_0, .int .u8 a1_1, .int .u8 a1_2, .int .u32 a1_3, .int .u8 a1_4, .int .u8 a1_5, .slice A1_6 l1_6.length c1_6, .int .u32 a1_7, .slice A1_8 l1_8.length c1_8, .int .u8 a1_9, .bool a1_10, .slice A1_11 l1_11.length c1_11]] w fun e w' => ∃ v0_ : Value, e = .returned (.tuple #[v0_, errW r2]) ∧ Kd.R k27 27 w' w.heap.size (fun _ => True) v0_ r1 ∧ Below w.heap.size w w' := by
  have hu34 := Try.underlying34
  have eN := errW_none
  have eS := errW_some
  have HR4 := Aside0.mk hr0_4
  have HR5 := Aside0.mk hr0_5
  have HR11 := Aside0.mk hr0_11
  have HC4 := Aside0.mk hc0_4
  have HC5 := Aside0.mk hc0_5
  have HC11 := Aside0.mk hc0_11
  have HN6 := Aside0.mk hr1_6
  have HN8 := Aside0.mk hr1_8
  have HN11 := Aside0.mk hr1_11
  have HD6 := Aside0.mk hc1_6
  have HD8 := Aside0.mk hc1_8
  have HD11 := Aside0.mk hc1_11
  clear hr0_4 hr0_5 hr0_11 hc0_4 hc0_5 hc0_11 hr1_6 hr1_8 hr1_11 hc1_6 hc1_8 hc1_11
  obtain ⟨e, hck, h⟩ := Option.bind_eq_some_iff.mp h
  have HCK := Aside0.mk hck
  clear hck
  have HL := Aside0.mk h
  clear h
  go_enter Try.func28, Try.ntmps28
  go_wp2_with fail
  have B1a := Aside0.mk (blk_alloc (blk_new w (.cells #[.int .u8 a0_0, .int .u8 a0_1, .int .u32 a0_2, .int .u32 a0_3, .slice A0_4 l0_4.length c0_4, .slice A0_5 l0_5.length c0_5, .bool a0_6, .int .u32 a0_7, .int .u8 a0_8, .int .u8 a0_9, .int .u32 a0_10, .slice A0_11 l0_11.length c0_11, .int .u32 a0_12] 51)) (.cells #[.int .i64 a1_0, .int .u8 a1_1, .int .u8 a1_2, .int .u32 a1_3, .int .u8 a1_4, .int .u8 a1_5, .slice A1_6 l1_6.length c1_6, .int .u32 a1_7, .slice A1_8 l1_8.length c1_8, .int .u8 a1_9, .bool a1_10, .slice A1_11 l1_11.length c1_11] 53))
  have B2a := Aside0.mk (show ((w.alloc (.cells #[.int .u8 a0_0, .int .u8 a0_1, .int .u32 a0_2, .int .u32 a0_3, .slice A0_4 l0_4.length c0_4, .slice A0_5 l0_5.length c0_5, .bool a0_6, .int .u32 a0_7, .int .u8 a0_8, .int .u8 a0_9, .int .u32 a0_10, .slice A0_11 l0_11.length c0_11, .int .u32 a0_12] 51)).alloc (.cells #[.int .i64 a1_0, .int .u8 a1_1, .int .u8 a1_2, .int .u32 a1_3, .int .u8 a1_4, .int .u8 a1_5, .slice A1_6 l1_6.length c1_6, .int .u32 a1_7, .slice A1_8 l1_8.length c1_8, .int .u8 a1_9, .bool a1_10, .slice A1_11 l1_11.length c1_11] 53)).heap[w.heap.size + 1]? = some (.cells #[.int .i64 a1_0, .int .u8 a1_1, .int .u8 a1_2, .int .u32 a1_3, .int .u8 a1_4, .int .u8 a1_5, .slice A1_6 l1_6.length c1_6, .int .u32 a1_7, .slice A1_8 l1_8.length c1_8, .int .u8 a1_9, .bool a1_10, .slice A1_11 l1_11.length c1_11] 53 (0, 0)) by simpa using blk_new (w.alloc (.cells #[.int .u8 a0_0, .int .u8 a0_1, .int .u32 a0_2, .int .u32 a0_3, .slice A0_4 l0_4.length c0_4, .slice A0_5 l0_5.length c0_5, .bool a0_6, .int .u32 a0_7, .int .u8 a0_8, .int .u8 a0_9, .int .u32 a0_10, .slice A0_11 l0_11.length c0_11, .int .u32 a0_12] 51)) (.cells #[.int .i64 a1_0, .int .u8 a1_1, .int .u8 a1_2, .int .u32 a1_3, .int .u8 a1_4, .int .u8 a1_5, .slice A1_6 l1_6.length c1_6, .int .u32 a1_7, .slice A1_8 l1_8.length c1_8, .int .u8 a1_9, .bool a1_10, .slice A1_11 l1_11.length c1_11] 53))
  have HBa := Aside0.mk (((Below.refl _ w).alloc (Nat.le_refl _) (.cells #[.int .u8 a0_0, .int .u8 a0_1, .int .u32 a0_2, .int .u32 a0_3, .slice A0_4 l0_4.length c0_4, .slice A0_5 l0_5.length c0_5, .bool a0_6, .int .u32 a0_7, .int .u8 a0_8, .int .u8 a0_9, .int .u32 a0_10, .slice A0_11 l0_11.length c0_11, .int .u32 a0_12] 51)).alloc (by simp) (.cells #[.int .i64 a1_0, .int .u8 a1_1, .int .u8 a1_2, .int .u32 a1_3, .int .u8 a1_4, .int .u8 a1_5, .slice A1_6 l1_6.length c1_6, .int .u32 a1_7, .slice A1_8 l1_8.length c1_8, .int .u8 a1_9, .bool a1_10, .slice A1_11 l1_11.length c1_11] 53))
  generalize (w.alloc (.cells #[.int .u8 a0_0, .int .u8 a0_1, .int .u32 a0_2, .int .u32 a0_3, .slice A0_4 l0_4.length c0_4, .slice A0_5 l0_5.length c0_5, .bool a0_6, .int .u32 a0_7, .int .u8 a0_8, .int .u8 a0_9, .int .u32 a0_10, .slice A0_11 l0_11.length c0_11, .int .u32 a0_12] 51)).alloc (.cells #[.int .i64 a1_0, .int .u8 a1_1, .int .u8 a1_2, .int .u32 a1_3, .int .u8 a1_4, .int .u8 a1_5, .slice A1_6 l1_6.length c1_6, .int .u32 a1_7, .slice A1_8 l1_8.length c1_8, .int .u8 a1_9, .bool a1_10, .slice A1_11 l1_11.length c1_11] 53) = w2 at B1a B2a HBa ⊢
  refine (source_check.calls k a0_0 a0_1 a0_2 a0_3 _ _ l0_4 _ _ l0_5 a0_6 a0_7 a0_8 a0_9 a0_10 _ _ l0_11 a0_12 a1_0 a1_1 a1_2 a1_3 a1_4 a1_5 _ _ l1_6 a1_7 _ _ l1_8 a1_9 a1_10 _ _ l1_11 e _ (Kd.C_below HR4.out HBa.out) HC4.out (Kd.C_below HR5.out HBa.out) HC5.out (Kd.C_below HR11.out HBa.out) HC11.out (Kd.C_below HN6.out HBa.out) HD6.out (Kd.C_below HN8.out HBa.out) HD8.out (Kd.C_below HN11.out HBa.out) HD11.out HCK.out).mono ?_
  rintro ev w3 ⟨rfl, hx⟩
  have B1b := Aside0.mk (blk_below B1a.out hx)
  have B2b := Aside0.mk (blk_below B2a.out hx)
  have HBb := Aside0.mk (below_step HBa.out hx)
  clear hx B1a B2a HBa HCK
  have hLL := HL.out
  clear HL
  cases e with
  | some c =>
    obtain ⟨rfl, rfl⟩ : ([] : List S27) = r1 ∧ some c = r2 := by
      have := Option.some.inj hLL
      exact ⟨congrArg Prod.fst this, congrArg Prod.snd this⟩
    clear hLL
    go_wp2_with fail
    go_ret2
    exact ⟨_, by first | rfl | rw [eS], Kd.R_nil _ _ _ _ _, HBb.out⟩
  | none =>
    obtain ⟨b, hb, hLL⟩ := Option.bind_eq_some_iff.mp hLL
    by_cases hbt : b = true
    case neg => rw [if_neg hbt] at hLL; cases hLL
    subst hbt
    rw [if_pos rfl] at hLL
    by_cases hlen : l0_5.length ≤ 400000
    case neg => rw [if_neg hlen] at hLL; cases hLL
    rw [if_pos hlen] at hLL
    obtain ⟨rfl, rfl⟩ : l0_5.filter (dueB a1_4 l1_6) = r1 ∧ none = r2 := by
      have := Option.some.inj hLL
      exact ⟨congrArg Prod.fst this, congrArg Prod.snd this⟩
    clear hLL
    have HKR := Aside0.mk hb
    have HLEN := Aside0.mk hlen
    clear hb hlen
    obtain ⟨q0, q1, q2, q3, q4, q5, q6, q7, q8, q9, q10, q11, q12⟩ := cells13 B1b.out
    obtain ⟨s0, s1, s2, s3, s4, s5, s6, s7, s8, s9, s10, s11⟩ := cells12 B2b.out
    go_wp2_with fail
    refine (due_call a0_0 a0_1 a0_2 a0_3 _ _ l0_4 _ _ l0_5 a0_6 a0_7 a0_8 a0_9 a0_10 _ _ l0_11 a0_12 a1_0 a1_1 a1_2 a1_3 a1_4 a1_5 _ _ l1_6 a1_7 _ _ l1_8 a1_9 a1_10 _ _ l1_11 _).mono ?_
    rintro ev w4 ⟨rfl, hw4⟩
    have B1c := Aside0.mk (show w4.heap[w3.heap.size]? = some (.cells #[.int .u8 a0_0, .int .u8 a0_1, .int .u32 a0_2, .int .u32 a0_3, .slice A0_4 l0_4.length c0_4, .slice A0_5 l0_5.length c0_5, .bool a0_6, .int .u32 a0_7, .int .u8 a0_8, .int .u8 a0_9, .int .u32 a0_10, .slice A0_11 l0_11.length c0_11, .int .u32 a0_12] 51 (0, 0)) by rw [hw4]; exact blk_alloc (blk_new w3 (.cells #[.int .u8 a0_0, .int .u8 a0_1, .int .u32 a0_2, .int .u32 a0_3, .slice A0_4 l0_4.length c0_4, .slice A0_5 l0_5.length c0_5, .bool a0_6, .int .u32 a0_7, .int .u8 a0_8, .int .u8 a0_9, .int .u32 a0_10, .slice A0_11 l0_11.length c0_11, .int .u32 a0_12] 51)) (.cells #[.int .i64 a1_0, .int .u8 a1_1, .int .u8 a1_2, .int .u32 a1_3, .int .u8 a1_4, .int .u8 a1_5, .slice A1_6 l1_6.length c1_6, .int .u32 a1_7, .slice A1_8 l1_8.length c1_8, .int .u8 a1_9, .bool a1_10, .slice A1_11 l1_11.length c1_11] 53))
    have B2c := Aside0.mk (show w4.heap[w3.heap.size + 1]? = some (.cells #[.int .i64 a1_0, .int .u8 a1_1, .int .u8 a1_2, .int .u32 a1_3, .int .u8 a1_4, .int .u8 a1_5, .slice A1_6 l1_6.length c1_6, .int .u32 a1_7, .slice A1_8 l1_8.length c1_8, .int .u8 a1_9, .bool a1_10, .slice A1_11 l1_11.length c1_11] 53 (0, 0)) by rw [hw4]; simpa using blk_new (w3.alloc (.cells #[.int .u8 a0_0, .int .u8 a0_1, .int .u32 a0_2, .int .u32 a0_3, .slice A0_4 l0_4.length c0_4, .slice A0_5 l0_5.length c0_5, .bool a0_6, .int .u32 a0_7, .int .u8 a0_8, .int .u8 a0_9, .int .u32 a0_10, .slice A0_11 l0_11.length c0_11, .int .u32 a0_12] 51)) (.cells #[.int .i64 a1_0, .int .u8 a1_1, .int .u8 a1_2, .int .u32 a1_3, .int .u8 a1_4, .int .u8 a1_5, .slice A1_6 l1_6.length c1_6, .int .u32 a1_7, .slice A1_8 l1_8.length c1_8, .int .u8 a1_9, .bool a1_10, .slice A1_11 l1_11.length c1_11] 53))
    have HBc := Aside0.mk (show Below w.heap.size w w4 by rw [hw4]; exact (HBb.out.alloc HBb.out.size (.cells #[.int .u8 a0_0, .int .u8 a0_1, .int .u32 a0_2, .int .u32 a0_3, .slice A0_4 l0_4.length c0_4, .slice A0_5 l0_5.length c0_5, .bool a0_6, .int .u32 a0_7, .int .u8 a0_8, .int .u8 a0_9, .int .u32 a0_10, .slice A0_11 l0_11.length c0_11, .int .u32 a0_12] 51)).alloc (by have := HBb.out.size; simp; omega) (.cells #[.int .i64 a1_0, .int .u8 a1_1, .int .u8 a1_2, .int .u32 a1_3, .int .u8 a1_4, .int .u8 a1_5, .slice A1_6 l1_6.length c1_6, .int .u32 a1_7, .slice A1_8 l1_8.length c1_8, .int .u8 a1_9, .bool a1_10, .slice A1_11 l1_11.length c1_11] 53))
    clear hw4 B1b B2b HBb q0 q1 q2 q3 q4 q5 q6 q7 q8 q9 q10 q11 q12 s0 s1 s2 s3 s4 s5 s6 s7 s8 s9 s10 s11
    generalize w3.heap.size = g3 at B1c B2c ⊢
    go_wp2_with fail
    refine (Collect_due k w g3 (g3 + 1) _ _ _ _ _ _ l0_5 a1_4 _ _ l1_6 rfl rfl rfl HR5.out HN6.out HD6.out HKR.out HLEN.out _ HBc.out B1c.out B2c.out).mono ?_
    rintro ev w5 ⟨v, rfl, hR, hx⟩
    have HB5 := Aside0.mk (HBc.out.trans (hx.mono HBc.out.size))
    have HR := Aside0.mk (Kd.R_lower hR HBc.out.size)
    clear hx hR
    go_wp2_with fail
    go_ret2
    exact ⟨_, by first | rfl | rw [eN], HR.out, HB5.out⟩
end Go.Proofs.Ytiminjibcafkaaa.X
end
section
-- MADE BY wip/prx.py (the kit's printer, with contracts proved by hand). Not trusted: Lean checks it.
namespace Go.Proofs.Ytiminjibcafkaaa.X
open Go.RowKit Go.Proofs.YtiminjibcafkaaaW.PrintWords Go.Proofs.YtiminjibcafkaaaW.PrintLast Go.Proofs.YtiminjibcafkaaaW.PrintMore
attribute [local go_sem] max2_int min2_int max_two min_two max_three min_three max_four min_four   -- for this text's walks alone
set_option linter.unusedVariables false
set_option linter.unusedSimpArgs false
-- NOT PRINTED: function 24 (tidingslaw06_awake)
/-! ### tidingsref05_Short: function 25 -/
def tidingsref05_Short.f (a0_0 : Int) (a0_1 : Int) (a0_2 : Int) (a0_3 : Int) (l0_4 : List (S78)) (l0_5 : List (S27)) (a0_6 : Bool) (a0_7 : Int) (a0_8 : Int) (a0_9 : Int) (a0_10 : Int) (l0_11 : List (S78)) (a0_12 : Int) : Option (Bool) := if (l0_4.length : Int) ≤ 300 then (if (l0_5.length : Int) ≤ 300 then (some (decide ((l0_11.length : Int) ≤ 300))) else (some false)) else (some false)
set_option maxHeartbeats 8000000 in
set_option maxRecDepth 100000 in
theorem tidingsref05_Short.calls (a0_0 : Int) (a0_1 : Int) (a0_2 : Int) (a0_3 : Int) (A0_4 : Option Addr) (c0_4 : Nat) (l0_4 : List (S78)) (A0_5 : Option Addr) (c0_5 : Nat) (l0_5 : List (S27)) (a0_6 : Bool) (a0_7 : Int) (a0_8 : Int) (a0_9 : Int) (a0_10 : Int) (A0_11 : Option Addr) (c0_11 : Nat) (l0_11 : List (S78)) (a0_12 : Int) (r : Bool) (w : World) (hr0_4 : Kd.C k78 w A0_4 l0_4.length l0_4) (hc0_4 : l0_4.length ≤ c0_4) (hr0_5 : Kd.C k27 w A0_5 l0_5.length l0_5) (hc0_5 : l0_5.length ≤ c0_5) (hr0_11 : Kd.C k78 w A0_11 l0_11.length l0_11) (hc0_11 : l0_11.length ≤ c0_11) (h : tidingsref05_Short.f a0_0 a0_1 a0_2 a0_3 l0_4 l0_5 a0_6 a0_7 a0_8 a0_9 a0_10 l0_11 a0_12 = some r) :
    Calls Try.prog 25 #[.agg #[.int .u8 a0_0, .int .u8 a0_1, .int .u32 a0_2, .int .u32 a0_3, .slice A0_4 l0_4.length c0_4, .slice A0_5 l0_5.length c0_5, .bool a0_6, .int .u32 a0_7, .int .u8 a0_8, .int .u8 a0_9, .int .u32 a0_10, .slice A0_11 l0_11.length c0_11, .int .u32 a0_12]] w fun e w' => e = .returned (.bool r) ∧ Below w.heap.size w w' := by
  have hu51 := Try.underlying51
  have HR0_4 := Aside0.mk hr0_4
  have HC0_4 := Aside0.mk hc0_4
  clear hr0_4 hc0_4
  have HR0_5 := Aside0.mk hr0_5
  have HC0_5 := Aside0.mk hc0_5
  clear hr0_5 hc0_5
  have HR0_11 := Aside0.mk hr0_11
  have HC0_11 := Aside0.mk hc0_11
  clear hr0_11 hc0_11
  have HB := Aside0.mk (Below.refl w.heap.size w)
  have H : (if (l0_4.length : Int) ≤ 300 then (if (l0_5.length : Int) ≤ 300 then (some (decide ((l0_11.length : Int) ≤ 300))) else (some false)) else (some false)) = some r := h
  clear h
  by_cases c2 : (l0_4.length : Int) ≤ 300
  · rw [if_pos c2] at H
    have c2b0 : decide ((l0_4.length : Int) ≤ 300) = true := decide_eq_true c2
    have c2b1 : decide (l0_4.length ≤ 300) = true := decide_eq_true (by omega)
    clear c2
    by_cases c3 : (l0_5.length : Int) ≤ 300
    · rw [if_pos c3] at H
      have c3b0 : decide ((l0_5.length : Int) ≤ 300) = true := decide_eq_true c3
      have c3b1 : decide (l0_5.length ≤ 300) = true := decide_eq_true (by omega)
      clear c3
      obtain rfl := Option.some.inj H
      go_enter Try.func25, Try.ntmps25
      go_wp2_with (first | ((with_reducible refine gate_dst (N := 1) rfl ?_); (try (refine gate_guard (by rfl) ?_; dsimp only)); refine box_event ?hg (N := 1) ?hd (cs := #[.int .u8 a0_0, .int .u8 a0_1, .int .u32 a0_2, .int .u32 a0_3, .slice A0_4 l0_4.length c0_4, .slice A0_5 l0_5.length c0_5, .bool a0_6, .int .u32 a0_7, .int .u8 a0_8, .int .u8 a0_9, .int .u32 a0_10, .slice A0_11 l0_11.length c0_11, .int .u32 a0_12]) (t := 51) ?hr ?_; (case hd => rfl); (case hg => rfl); (case hr => first | (go_simp; done) | (go_simp; rfl)); intro gb424 hg w4 hbox hb; have n0_ := Aside0.mk (below_step (by repeat (first | (with_reducible first | exact HB.out | apply below_alloc | apply pw_below_drewN | apply below_drew1) | exact HB.out)) hb); have n1_ := Aside0.mk (hbox); have n2_ := Aside0.mk ((by rw [hg]; exact (below_size (by repeat (first | (with_reducible first | exact HB.out | apply below_alloc | apply pw_below_drewN | apply below_drew1) | exact HB.out))) : w.heap.size ≤ gb424)); have n3_ := Aside0.mk ((by rw [hg]; exact (below_size (by repeat (first | (with_reducible first | exact HB.out | apply below_alloc | apply pw_below_drewN | apply below_drew1) | exact HB.out))) : w.heap.size ≤ gb424)); clear HB; have HB := n0_; have BK424 := n1_; have GW424 := n2_; have GE424 := n3_; clear n0_ n1_ n2_ n3_; clear hb hbox hg; have hcz5_0 : w4.cell? ⟨gb424, 0, none⟩ = some (.int .u8 a0_0) := (blk_cell BK424.out 0).trans rfl; have hcz5_1 : w4.cell? ⟨gb424, 1, none⟩ = some (.int .u8 a0_1) := (blk_cell BK424.out 1).trans rfl; have hcz5_2 : w4.cell? ⟨gb424, 2, none⟩ = some (.int .u32 a0_2) := (blk_cell BK424.out 2).trans rfl; have hcz5_3 : w4.cell? ⟨gb424, 3, none⟩ = some (.int .u32 a0_3) := (blk_cell BK424.out 3).trans rfl; have hcz5_4 : w4.cell? ⟨gb424, 4, none⟩ = some (.slice A0_4 l0_4.length c0_4) := (blk_cell BK424.out 4).trans rfl; have hcz5_5 : w4.cell? ⟨gb424, 5, none⟩ = some (.slice A0_5 l0_5.length c0_5) := (blk_cell BK424.out 5).trans rfl; have hcz5_6 : w4.cell? ⟨gb424, 6, none⟩ = some (.bool a0_6) := (blk_cell BK424.out 6).trans rfl; have hcz5_7 : w4.cell? ⟨gb424, 7, none⟩ = some (.int .u32 a0_7) := (blk_cell BK424.out 7).trans rfl; have hcz5_8 : w4.cell? ⟨gb424, 8, none⟩ = some (.int .u8 a0_8) := (blk_cell BK424.out 8).trans rfl; have hcz5_9 : w4.cell? ⟨gb424, 9, none⟩ = some (.int .u8 a0_9) := (blk_cell BK424.out 9).trans rfl; have hcz5_10 : w4.cell? ⟨gb424, 10, none⟩ = some (.int .u32 a0_10) := (blk_cell BK424.out 10).trans rfl; have hcz5_11 : w4.cell? ⟨gb424, 11, none⟩ = some (.slice A0_11 l0_11.length c0_11) := (blk_cell BK424.out 11).trans rfl; have hcz5_12 : w4.cell? ⟨gb424, 12, none⟩ = some (.int .u32 a0_12) := (blk_cell BK424.out 12).trans rfl; have hfz5_0 := blk_frozen BK424.out 0; have hfz5_1 := blk_frozen BK424.out 1; have hfz5_2 := blk_frozen BK424.out 2; have hfz5_3 := blk_frozen BK424.out 3; have hfz5_4 := blk_frozen BK424.out 4; have hfz5_5 := blk_frozen BK424.out 5; have hfz5_6 := blk_frozen BK424.out 6; have hfz5_7 := blk_frozen BK424.out 7; have hfz5_8 := blk_frozen BK424.out 8; have hfz5_9 := blk_frozen BK424.out 9; have hfz5_10 := blk_frozen BK424.out 10; have hfz5_11 := blk_frozen BK424.out 11; have hfz5_12 := blk_frozen BK424.out 12))
      go_ret
      exact ⟨by first | rfl | (simp [errW_none, errW_some] <;> rfl) | (simp [*, errW_none, errW_some] <;> rfl), by repeat (first | (with_reducible first | exact HB.out | apply below_alloc | apply pw_below_drewN | apply below_drew1 | refine below_set ?_ GE424.out) | exact HB.out)⟩
    · rw [if_neg c3] at H
      have c3b0 : decide ((l0_5.length : Int) ≤ 300) = false := decide_eq_false c3
      have c3b1 : decide (l0_5.length ≤ 300) = false := decide_eq_false (by omega)
      clear c3
      obtain rfl := Option.some.inj H
      go_enter Try.func25, Try.ntmps25
      go_wp2_with (first | ((with_reducible refine gate_dst (N := 1) rfl ?_); (try (refine gate_guard (by rfl) ?_; dsimp only)); refine box_event ?hg (N := 1) ?hd (cs := #[.int .u8 a0_0, .int .u8 a0_1, .int .u32 a0_2, .int .u32 a0_3, .slice A0_4 l0_4.length c0_4, .slice A0_5 l0_5.length c0_5, .bool a0_6, .int .u32 a0_7, .int .u8 a0_8, .int .u8 a0_9, .int .u32 a0_10, .slice A0_11 l0_11.length c0_11, .int .u32 a0_12]) (t := 51) ?hr ?_; (case hd => rfl); (case hg => rfl); (case hr => first | (go_simp; done) | (go_simp; rfl)); intro gb424 hg w6 hbox hb; have n0_ := Aside0.mk (below_step (by repeat (first | (with_reducible first | exact HB.out | apply below_alloc | apply pw_below_drewN | apply below_drew1) | exact HB.out)) hb); have n1_ := Aside0.mk (hbox); have n2_ := Aside0.mk ((by rw [hg]; exact (below_size (by repeat (first | (with_reducible first | exact HB.out | apply below_alloc | apply pw_below_drewN | apply below_drew1) | exact HB.out))) : w.heap.size ≤ gb424)); have n3_ := Aside0.mk ((by rw [hg]; exact (below_size (by repeat (first | (with_reducible first | exact HB.out | apply below_alloc | apply pw_below_drewN | apply below_drew1) | exact HB.out))) : w.heap.size ≤ gb424)); clear HB; have HB := n0_; have BK424 := n1_; have GW424 := n2_; have GE424 := n3_; clear n0_ n1_ n2_ n3_; clear hb hbox hg; have hcz7_0 : w6.cell? ⟨gb424, 0, none⟩ = some (.int .u8 a0_0) := (blk_cell BK424.out 0).trans rfl; have hcz7_1 : w6.cell? ⟨gb424, 1, none⟩ = some (.int .u8 a0_1) := (blk_cell BK424.out 1).trans rfl; have hcz7_2 : w6.cell? ⟨gb424, 2, none⟩ = some (.int .u32 a0_2) := (blk_cell BK424.out 2).trans rfl; have hcz7_3 : w6.cell? ⟨gb424, 3, none⟩ = some (.int .u32 a0_3) := (blk_cell BK424.out 3).trans rfl; have hcz7_4 : w6.cell? ⟨gb424, 4, none⟩ = some (.slice A0_4 l0_4.length c0_4) := (blk_cell BK424.out 4).trans rfl; have hcz7_5 : w6.cell? ⟨gb424, 5, none⟩ = some (.slice A0_5 l0_5.length c0_5) := (blk_cell BK424.out 5).trans rfl; have hcz7_6 : w6.cell? ⟨gb424, 6, none⟩ = some (.bool a0_6) := (blk_cell BK424.out 6).trans rfl; have hcz7_7 : w6.cell? ⟨gb424, 7, none⟩ = some (.int .u32 a0_7) := (blk_cell BK424.out 7).trans rfl; have hcz7_8 : w6.cell? ⟨gb424, 8, none⟩ = some (.int .u8 a0_8) := (blk_cell BK424.out 8).trans rfl; have hcz7_9 : w6.cell? ⟨gb424, 9, none⟩ = some (.int .u8 a0_9) := (blk_cell BK424.out 9).trans rfl; have hcz7_10 : w6.cell? ⟨gb424, 10, none⟩ = some (.int .u32 a0_10) := (blk_cell BK424.out 10).trans rfl; have hcz7_11 : w6.cell? ⟨gb424, 11, none⟩ = some (.slice A0_11 l0_11.length c0_11) := (blk_cell BK424.out 11).trans rfl; have hcz7_12 : w6.cell? ⟨gb424, 12, none⟩ = some (.int .u32 a0_12) := (blk_cell BK424.out 12).trans rfl; have hfz7_0 := blk_frozen BK424.out 0; have hfz7_1 := blk_frozen BK424.out 1; have hfz7_2 := blk_frozen BK424.out 2; have hfz7_3 := blk_frozen BK424.out 3; have hfz7_4 := blk_frozen BK424.out 4; have hfz7_5 := blk_frozen BK424.out 5; have hfz7_6 := blk_frozen BK424.out 6; have hfz7_7 := blk_frozen BK424.out 7; have hfz7_8 := blk_frozen BK424.out 8; have hfz7_9 := blk_frozen BK424.out 9; have hfz7_10 := blk_frozen BK424.out 10; have hfz7_11 := blk_frozen BK424.out 11; have hfz7_12 := blk_frozen BK424.out 12))
      go_ret
      exact ⟨by first | rfl | (simp [errW_none, errW_some] <;> rfl) | (simp [*, errW_none, errW_some] <;> rfl), by repeat (first | (with_reducible first | exact HB.out | apply below_alloc | apply pw_below_drewN | apply below_drew1 | refine below_set ?_ GE424.out) | exact HB.out)⟩
  · rw [if_neg c2] at H
    have c2b0 : decide ((l0_4.length : Int) ≤ 300) = false := decide_eq_false c2
    have c2b1 : decide (l0_4.length ≤ 300) = false := decide_eq_false (by omega)
    clear c2
    obtain rfl := Option.some.inj H
    go_enter Try.func25, Try.ntmps25
    go_wp2_with (first | ((with_reducible refine gate_dst (N := 1) rfl ?_); (try (refine gate_guard (by rfl) ?_; dsimp only)); refine box_event ?hg (N := 1) ?hd (cs := #[.int .u8 a0_0, .int .u8 a0_1, .int .u32 a0_2, .int .u32 a0_3, .slice A0_4 l0_4.length c0_4, .slice A0_5 l0_5.length c0_5, .bool a0_6, .int .u32 a0_7, .int .u8 a0_8, .int .u8 a0_9, .int .u32 a0_10, .slice A0_11 l0_11.length c0_11, .int .u32 a0_12]) (t := 51) ?hr ?_; (case hd => rfl); (case hg => rfl); (case hr => first | (go_simp; done) | (go_simp; rfl)); intro gb424 hg w8 hbox hb; have n0_ := Aside0.mk (below_step (by repeat (first | (with_reducible first | exact HB.out | apply below_alloc | apply pw_below_drewN | apply below_drew1) | exact HB.out)) hb); have n1_ := Aside0.mk (hbox); have n2_ := Aside0.mk ((by rw [hg]; exact (below_size (by repeat (first | (with_reducible first | exact HB.out | apply below_alloc | apply pw_below_drewN | apply below_drew1) | exact HB.out))) : w.heap.size ≤ gb424)); have n3_ := Aside0.mk ((by rw [hg]; exact (below_size (by repeat (first | (with_reducible first | exact HB.out | apply below_alloc | apply pw_below_drewN | apply below_drew1) | exact HB.out))) : w.heap.size ≤ gb424)); clear HB; have HB := n0_; have BK424 := n1_; have GW424 := n2_; have GE424 := n3_; clear n0_ n1_ n2_ n3_; clear hb hbox hg; have hcz9_0 : w8.cell? ⟨gb424, 0, none⟩ = some (.int .u8 a0_0) := (blk_cell BK424.out 0).trans rfl; have hcz9_1 : w8.cell? ⟨gb424, 1, none⟩ = some (.int .u8 a0_1) := (blk_cell BK424.out 1).trans rfl; have hcz9_2 : w8.cell? ⟨gb424, 2, none⟩ = some (.int .u32 a0_2) := (blk_cell BK424.out 2).trans rfl; have hcz9_3 : w8.cell? ⟨gb424, 3, none⟩ = some (.int .u32 a0_3) := (blk_cell BK424.out 3).trans rfl; have hcz9_4 : w8.cell? ⟨gb424, 4, none⟩ = some (.slice A0_4 l0_4.length c0_4) := (blk_cell BK424.out 4).trans rfl; have hcz9_5 : w8.cell? ⟨gb424, 5, none⟩ = some (.slice A0_5 l0_5.length c0_5) := (blk_cell BK424.out 5).trans rfl; have hcz9_6 : w8.cell? ⟨gb424, 6, none⟩ = some (.bool a0_6) := (blk_cell BK424.out 6).trans rfl; have hcz9_7 : w8.cell? ⟨gb424, 7, none⟩ = some (.int .u32 a0_7) := (blk_cell BK424.out 7).trans rfl; have hcz9_8 : w8.cell? ⟨gb424, 8, none⟩ = some (.int .u8 a0_8) := (blk_cell BK424.out 8).trans rfl; have hcz9_9 : w8.cell? ⟨gb424, 9, none⟩ = some (.int .u8 a0_9) := (blk_cell BK424.out 9).trans rfl; have hcz9_10 : w8.cell? ⟨gb424, 10, none⟩ = some (.int .u32 a0_10) := (blk_cell BK424.out 10).trans rfl; have hcz9_11 : w8.cell? ⟨gb424, 11, none⟩ = some (.slice A0_11 l0_11.length c0_11) := (blk_cell BK424.out 11).trans rfl; have hcz9_12 : w8.cell? ⟨gb424, 12, none⟩ = some (.int .u32 a0_12) := (blk_cell BK424.out 12).trans rfl; have hfz9_0 := blk_frozen BK424.out 0; have hfz9_1 := blk_frozen BK424.out 1; have hfz9_2 := blk_frozen BK424.out 2; have hfz9_3 := blk_frozen BK424.out 3; have hfz9_4 := blk_frozen BK424.out 4; have hfz9_5 := blk_frozen BK424.out 5; have hfz9_6 := blk_frozen BK424.out 6; have hfz9_7 := blk_frozen BK424.out 7; have hfz9_8 := blk_frozen BK424.out 8; have hfz9_9 := blk_frozen BK424.out 9; have hfz9_10 := blk_frozen BK424.out 10; have hfz9_11 := blk_frozen BK424.out 11; have hfz9_12 := blk_frozen BK424.out 12))
    go_ret
    exact ⟨by first | rfl | (simp [errW_none, errW_some] <;> rfl) | (simp [*, errW_none, errW_some] <;> rfl), by repeat (first | (with_reducible first | exact HB.out | apply below_alloc | apply pw_below_drewN | apply below_drew1 | refine below_set ?_ GE424.out) | exact HB.out)⟩
/-! ### tidingsref04_Short: function 26 -/
def tidingsref04_Short.f (a0_0 : Int) (a0_1 : Int) (a0_2 : Int) (a0_3 : Int) (a0_4 : Int) (a0_5 : Int) (l0_6 : List (S78)) (a0_7 : Int) (l0_8 : List (S27)) (a0_9 : Int) (a0_10 : Bool) (l0_11 : List (S78)) : Option (Bool) := if (l0_6.length : Int) ≤ 300 then (if (l0_8.length : Int) ≤ 300 then (some (decide ((l0_11.length : Int) ≤ 300))) else (some false)) else (some false)
set_option maxHeartbeats 8000000 in
set_option maxRecDepth 100000 in
theorem tidingsref04_Short.calls (a0_0 : Int) (a0_1 : Int) (a0_2 : Int) (a0_3 : Int) (a0_4 : Int) (a0_5 : Int) (A0_6 : Option Addr) (c0_6 : Nat) (l0_6 : List (S78)) (a0_7 : Int) (A0_8 : Option Addr) (c0_8 : Nat) (l0_8 : List (S27)) (a0_9 : Int) (a0_10 : Bool) (A0_11 : Option Addr) (c0_11 : Nat) (l0_11 : List (S78)) (r : Bool) (w : World) (hr0_6 : Kd.C k78 w A0_6 l0_6.length l0_6) (hc0_6 : l0_6.length ≤ c0_6) (hr0_8 : Kd.C k27 w A0_8 l0_8.length l0_8) (hc0_8 : l0_8.length ≤ c0_8) (hr0_11 : Kd.C k78 w A0_11 l0_11.length l0_11) (hc0_11 : l0_11.length ≤ c0_11) (h : tidingsref04_Short.f a0_0 a0_1 a0_2 a0_3 a0_4 a0_5 l0_6 a0_7 l0_8 a0_9 a0_10 l0_11 = some r) :
    Calls Try.prog 26 #[.agg #[.int .i64 a0_0, .int .u8 a0_1, .int .u8 a0_2, .int .u32 a0_3, .int .u8 a0_4, .int .u8 a0_5, .slice A0_6 l0_6.length c0_6, .int .u32 a0_7, .slice A0_8 l0_8.length c0_8, .int .u8 a0_9, .bool a0_10, .slice A0_11 l0_11.length c0_11]] w fun e w' => e = .returned (.bool r) ∧ Below w.heap.size w w' := by
  have hu53 := Try.underlying53
  have HR0_6 := Aside0.mk hr0_6
  have HC0_6 := Aside0.mk hc0_6
  clear hr0_6 hc0_6
  have HR0_8 := Aside0.mk hr0_8
  have HC0_8 := Aside0.mk hc0_8
  clear hr0_8 hc0_8
  have HR0_11 := Aside0.mk hr0_11
  have HC0_11 := Aside0.mk hc0_11
  clear hr0_11 hc0_11
  have HB := Aside0.mk (Below.refl w.heap.size w)
  have H : (if (l0_6.length : Int) ≤ 300 then (if (l0_8.length : Int) ≤ 300 then (some (decide ((l0_11.length : Int) ≤ 300))) else (some false)) else (some false)) = some r := h
  clear h
  by_cases c2 : (l0_6.length : Int) ≤ 300
  · rw [if_pos c2] at H
    have c2b0 : decide ((l0_6.length : Int) ≤ 300) = true := decide_eq_true c2
    have c2b1 : decide (l0_6.length ≤ 300) = true := decide_eq_true (by omega)
    clear c2
    by_cases c3 : (l0_8.length : Int) ≤ 300
    · rw [if_pos c3] at H
      have c3b0 : decide ((l0_8.length : Int) ≤ 300) = true := decide_eq_true c3
      have c3b1 : decide (l0_8.length ≤ 300) = true := decide_eq_true (by omega)
      clear c3
      obtain rfl := Option.some.inj H
      go_enter Try.func26, Try.ntmps26
      go_wp2_with (first | ((with_reducible refine gate_dst (N := 1) rfl ?_); (try (refine gate_guard (by rfl) ?_; dsimp only)); refine box_event ?hg (N := 1) ?hd (cs := #[.int .i64 a0_0, .int .u8 a0_1, .int .u8 a0_2, .int .u32 a0_3, .int .u8 a0_4, .int .u8 a0_5, .slice A0_6 l0_6.length c0_6, .int .u32 a0_7, .slice A0_8 l0_8.length c0_8, .int .u8 a0_9, .bool a0_10, .slice A0_11 l0_11.length c0_11]) (t := 53) ?hr ?_; (case hd => rfl); (case hg => rfl); (case hr => first | (go_simp; done) | (go_simp; rfl)); intro gb425 hg w4 hbox hb; have n0_ := Aside0.mk (below_step (by repeat (first | (with_reducible first | exact HB.out | apply below_alloc | apply pw_below_drewN | apply below_drew1) | exact HB.out)) hb); have n1_ := Aside0.mk (hbox); have n2_ := Aside0.mk ((by rw [hg]; exact (below_size (by repeat (first | (with_reducible first | exact HB.out | apply below_alloc | apply pw_below_drewN | apply below_drew1) | exact HB.out))) : w.heap.size ≤ gb425)); have n3_ := Aside0.mk ((by rw [hg]; exact (below_size (by repeat (first | (with_reducible first | exact HB.out | apply below_alloc | apply pw_below_drewN | apply below_drew1) | exact HB.out))) : w.heap.size ≤ gb425)); clear HB; have HB := n0_; have BK425 := n1_; have GW425 := n2_; have GE425 := n3_; clear n0_ n1_ n2_ n3_; clear hb hbox hg; have hcz5_0 : w4.cell? ⟨gb425, 0, none⟩ = some (.int .i64 a0_0) := (blk_cell BK425.out 0).trans rfl; have hcz5_1 : w4.cell? ⟨gb425, 1, none⟩ = some (.int .u8 a0_1) := (blk_cell BK425.out 1).trans rfl; have hcz5_2 : w4.cell? ⟨gb425, 2, none⟩ = some (.int .u8 a0_2) := (blk_cell BK425.out 2).trans rfl; have hcz5_3 : w4.cell? ⟨gb425, 3, none⟩ = some (.int .u32 a0_3) := (blk_cell BK425.out 3).trans rfl; have hcz5_4 : w4.cell? ⟨gb425, 4, none⟩ = some (.int .u8 a0_4) := (blk_cell BK425.out 4).trans rfl; have hcz5_5 : w4.cell? ⟨gb425, 5, none⟩ = some (.int .u8 a0_5) := (blk_cell BK425.out 5).trans rfl; have hcz5_6 : w4.cell? ⟨gb425, 6, none⟩ = some (.slice A0_6 l0_6.length c0_6) := (blk_cell BK425.out 6).trans rfl; have hcz5_7 : w4.cell? ⟨gb425, 7, none⟩ = some (.int .u32 a0_7) := (blk_cell BK425.out 7).trans rfl; have hcz5_8 : w4.cell? ⟨gb425, 8, none⟩ = some (.slice A0_8 l0_8.length c0_8) := (blk_cell BK425.out 8).trans rfl; have hcz5_9 : w4.cell? ⟨gb425, 9, none⟩ = some (.int .u8 a0_9) := (blk_cell BK425.out 9).trans rfl; have hcz5_10 : w4.cell? ⟨gb425, 10, none⟩ = some (.bool a0_10) := (blk_cell BK425.out 10).trans rfl; have hcz5_11 : w4.cell? ⟨gb425, 11, none⟩ = some (.slice A0_11 l0_11.length c0_11) := (blk_cell BK425.out 11).trans rfl; have hfz5_0 := blk_frozen BK425.out 0; have hfz5_1 := blk_frozen BK425.out 1; have hfz5_2 := blk_frozen BK425.out 2; have hfz5_3 := blk_frozen BK425.out 3; have hfz5_4 := blk_frozen BK425.out 4; have hfz5_5 := blk_frozen BK425.out 5; have hfz5_6 := blk_frozen BK425.out 6; have hfz5_7 := blk_frozen BK425.out 7; have hfz5_8 := blk_frozen BK425.out 8; have hfz5_9 := blk_frozen BK425.out 9; have hfz5_10 := blk_frozen BK425.out 10; have hfz5_11 := blk_frozen BK425.out 11))
      go_ret
      exact ⟨by first | rfl | (simp [errW_none, errW_some] <;> rfl) | (simp [*, errW_none, errW_some] <;> rfl), by repeat (first | (with_reducible first | exact HB.out | apply below_alloc | apply pw_below_drewN | apply below_drew1 | refine below_set ?_ GE425.out) | exact HB.out)⟩
    · rw [if_neg c3] at H
      have c3b0 : decide ((l0_8.length : Int) ≤ 300) = false := decide_eq_false c3
      have c3b1 : decide (l0_8.length ≤ 300) = false := decide_eq_false (by omega)
      clear c3
      obtain rfl := Option.some.inj H
      go_enter Try.func26, Try.ntmps26
      go_wp2_with (first | ((with_reducible refine gate_dst (N := 1) rfl ?_); (try (refine gate_guard (by rfl) ?_; dsimp only)); refine box_event ?hg (N := 1) ?hd (cs := #[.int .i64 a0_0, .int .u8 a0_1, .int .u8 a0_2, .int .u32 a0_3, .int .u8 a0_4, .int .u8 a0_5, .slice A0_6 l0_6.length c0_6, .int .u32 a0_7, .slice A0_8 l0_8.length c0_8, .int .u8 a0_9, .bool a0_10, .slice A0_11 l0_11.length c0_11]) (t := 53) ?hr ?_; (case hd => rfl); (case hg => rfl); (case hr => first | (go_simp; done) | (go_simp; rfl)); intro gb425 hg w6 hbox hb; have n0_ := Aside0.mk (below_step (by repeat (first | (with_reducible first | exact HB.out | apply below_alloc | apply pw_below_drewN | apply below_drew1) | exact HB.out)) hb); have n1_ := Aside0.mk (hbox); have n2_ := Aside0.mk ((by rw [hg]; exact (below_size (by repeat (first | (with_reducible first | exact HB.out | apply below_alloc | apply pw_below_drewN | apply below_drew1) | exact HB.out))) : w.heap.size ≤ gb425)); have n3_ := Aside0.mk ((by rw [hg]; exact (below_size (by repeat (first | (with_reducible first | exact HB.out | apply below_alloc | apply pw_below_drewN | apply below_drew1) | exact HB.out))) : w.heap.size ≤ gb425)); clear HB; have HB := n0_; have BK425 := n1_; have GW425 := n2_; have GE425 := n3_; clear n0_ n1_ n2_ n3_; clear hb hbox hg; have hcz7_0 : w6.cell? ⟨gb425, 0, none⟩ = some (.int .i64 a0_0) := (blk_cell BK425.out 0).trans rfl; have hcz7_1 : w6.cell? ⟨gb425, 1, none⟩ = some (.int .u8 a0_1) := (blk_cell BK425.out 1).trans rfl; have hcz7_2 : w6.cell? ⟨gb425, 2, none⟩ = some (.int .u8 a0_2) := (blk_cell BK425.out 2).trans rfl; have hcz7_3 : w6.cell? ⟨gb425, 3, none⟩ = some (.int .u32 a0_3) := (blk_cell BK425.out 3).trans rfl; have hcz7_4 : w6.cell? ⟨gb425, 4, none⟩ = some (.int .u8 a0_4) := (blk_cell BK425.out 4).trans rfl; have hcz7_5 : w6.cell? ⟨gb425, 5, none⟩ = some (.int .u8 a0_5) := (blk_cell BK425.out 5).trans rfl; have hcz7_6 : w6.cell? ⟨gb425, 6, none⟩ = some (.slice A0_6 l0_6.length c0_6) := (blk_cell BK425.out 6).trans rfl; have hcz7_7 : w6.cell? ⟨gb425, 7, none⟩ = some (.int .u32 a0_7) := (blk_cell BK425.out 7).trans rfl; have hcz7_8 : w6.cell? ⟨gb425, 8, none⟩ = some (.slice A0_8 l0_8.length c0_8) := (blk_cell BK425.out 8).trans rfl; have hcz7_9 : w6.cell? ⟨gb425, 9, none⟩ = some (.int .u8 a0_9) := (blk_cell BK425.out 9).trans rfl; have hcz7_10 : w6.cell? ⟨gb425, 10, none⟩ = some (.bool a0_10) := (blk_cell BK425.out 10).trans rfl; have hcz7_11 : w6.cell? ⟨gb425, 11, none⟩ = some (.slice A0_11 l0_11.length c0_11) := (blk_cell BK425.out 11).trans rfl; have hfz7_0 := blk_frozen BK425.out 0; have hfz7_1 := blk_frozen BK425.out 1; have hfz7_2 := blk_frozen BK425.out 2; have hfz7_3 := blk_frozen BK425.out 3; have hfz7_4 := blk_frozen BK425.out 4; have hfz7_5 := blk_frozen BK425.out 5; have hfz7_6 := blk_frozen BK425.out 6; have hfz7_7 := blk_frozen BK425.out 7; have hfz7_8 := blk_frozen BK425.out 8; have hfz7_9 := blk_frozen BK425.out 9; have hfz7_10 := blk_frozen BK425.out 10; have hfz7_11 := blk_frozen BK425.out 11))
      go_ret
      exact ⟨by first | rfl | (simp [errW_none, errW_some] <;> rfl) | (simp [*, errW_none, errW_some] <;> rfl), by repeat (first | (with_reducible first | exact HB.out | apply below_alloc | apply pw_below_drewN | apply below_drew1 | refine below_set ?_ GE425.out) | exact HB.out)⟩
  · rw [if_neg c2] at H
    have c2b0 : decide ((l0_6.length : Int) ≤ 300) = false := decide_eq_false c2
    have c2b1 : decide (l0_6.length ≤ 300) = false := decide_eq_false (by omega)
    clear c2
    obtain rfl := Option.some.inj H
    go_enter Try.func26, Try.ntmps26
    go_wp2_with (first | ((with_reducible refine gate_dst (N := 1) rfl ?_); (try (refine gate_guard (by rfl) ?_; dsimp only)); refine box_event ?hg (N := 1) ?hd (cs := #[.int .i64 a0_0, .int .u8 a0_1, .int .u8 a0_2, .int .u32 a0_3, .int .u8 a0_4, .int .u8 a0_5, .slice A0_6 l0_6.length c0_6, .int .u32 a0_7, .slice A0_8 l0_8.length c0_8, .int .u8 a0_9, .bool a0_10, .slice A0_11 l0_11.length c0_11]) (t := 53) ?hr ?_; (case hd => rfl); (case hg => rfl); (case hr => first | (go_simp; done) | (go_simp; rfl)); intro gb425 hg w8 hbox hb; have n0_ := Aside0.mk (below_step (by repeat (first | (with_reducible first | exact HB.out | apply below_alloc | apply pw_below_drewN | apply below_drew1) | exact HB.out)) hb); have n1_ := Aside0.mk (hbox); have n2_ := Aside0.mk ((by rw [hg]; exact (below_size (by repeat (first | (with_reducible first | exact HB.out | apply below_alloc | apply pw_below_drewN | apply below_drew1) | exact HB.out))) : w.heap.size ≤ gb425)); have n3_ := Aside0.mk ((by rw [hg]; exact (below_size (by repeat (first | (with_reducible first | exact HB.out | apply below_alloc | apply pw_below_drewN | apply below_drew1) | exact HB.out))) : w.heap.size ≤ gb425)); clear HB; have HB := n0_; have BK425 := n1_; have GW425 := n2_; have GE425 := n3_; clear n0_ n1_ n2_ n3_; clear hb hbox hg; have hcz9_0 : w8.cell? ⟨gb425, 0, none⟩ = some (.int .i64 a0_0) := (blk_cell BK425.out 0).trans rfl; have hcz9_1 : w8.cell? ⟨gb425, 1, none⟩ = some (.int .u8 a0_1) := (blk_cell BK425.out 1).trans rfl; have hcz9_2 : w8.cell? ⟨gb425, 2, none⟩ = some (.int .u8 a0_2) := (blk_cell BK425.out 2).trans rfl; have hcz9_3 : w8.cell? ⟨gb425, 3, none⟩ = some (.int .u32 a0_3) := (blk_cell BK425.out 3).trans rfl; have hcz9_4 : w8.cell? ⟨gb425, 4, none⟩ = some (.int .u8 a0_4) := (blk_cell BK425.out 4).trans rfl; have hcz9_5 : w8.cell? ⟨gb425, 5, none⟩ = some (.int .u8 a0_5) := (blk_cell BK425.out 5).trans rfl; have hcz9_6 : w8.cell? ⟨gb425, 6, none⟩ = some (.slice A0_6 l0_6.length c0_6) := (blk_cell BK425.out 6).trans rfl; have hcz9_7 : w8.cell? ⟨gb425, 7, none⟩ = some (.int .u32 a0_7) := (blk_cell BK425.out 7).trans rfl; have hcz9_8 : w8.cell? ⟨gb425, 8, none⟩ = some (.slice A0_8 l0_8.length c0_8) := (blk_cell BK425.out 8).trans rfl; have hcz9_9 : w8.cell? ⟨gb425, 9, none⟩ = some (.int .u8 a0_9) := (blk_cell BK425.out 9).trans rfl; have hcz9_10 : w8.cell? ⟨gb425, 10, none⟩ = some (.bool a0_10) := (blk_cell BK425.out 10).trans rfl; have hcz9_11 : w8.cell? ⟨gb425, 11, none⟩ = some (.slice A0_11 l0_11.length c0_11) := (blk_cell BK425.out 11).trans rfl; have hfz9_0 := blk_frozen BK425.out 0; have hfz9_1 := blk_frozen BK425.out 1; have hfz9_2 := blk_frozen BK425.out 2; have hfz9_3 := blk_frozen BK425.out 3; have hfz9_4 := blk_frozen BK425.out 4; have hfz9_5 := blk_frozen BK425.out 5; have hfz9_6 := blk_frozen BK425.out 6; have hfz9_7 := blk_frozen BK425.out 7; have hfz9_8 := blk_frozen BK425.out 8; have hfz9_9 := blk_frozen BK425.out 9; have hfz9_10 := blk_frozen BK425.out 10; have hfz9_11 := blk_frozen BK425.out 11))
    go_ret
    exact ⟨by first | rfl | (simp [errW_none, errW_some] <;> rfl) | (simp [*, errW_none, errW_some] <;> rfl), by repeat (first | (with_reducible first | exact HB.out | apply below_alloc | apply pw_below_drewN | apply below_drew1 | refine below_set ?_ GE425.out) | exact HB.out)⟩
end Go.Proofs.Ytiminjibcafkaaa.X
end
