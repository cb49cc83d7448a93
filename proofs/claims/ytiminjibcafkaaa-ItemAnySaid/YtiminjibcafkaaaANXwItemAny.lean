/- The law ItemAny, walked. -/
import Derived.Test.YtiminjibcafkaaaANJ9
import Derived.Test.YtiminjibcafkaaaANX6
import Derived.Test.YtiminjibcafkaaaANX7
import Derived.Test.YtiminjibcafkaaaANX9
import Derived.Test.YtiminjibcafkaaaANX10
import Derived.Test.YtiminjibcafkaaaANJ20
import Derived.Test.YtiminjibcafkaaaANJ16
import Derived.Test.YtiminjibcafkaaaANJ22
namespace Go.Proofs.Ytiminjibcafkaaa.X
open Go.RowKit Go.Proofs.YtiminjibcafkaaaW.PrintWords Go.Proofs.YtiminjibcafkaaaW.PrintLast Go.Proofs.YtiminjibcafkaaaW.PrintMore
set_option linter.unusedVariables false
set_option linter.unusedSimpArgs false
attribute [local go_sem high] eqA25
theorem cells21 {w : World} {g : Nat} {v0 v1 v2 v3 v4 v5 v6 v7 v8 v9 v10 v11 v12 v13 v14 v15 v16 v17 v18 v19 v20 : Value} {t : TypeId} (h : w.heap[g]? = some (.cells #[v0, v1, v2, v3, v4, v5, v6, v7, v8, v9, v10, v11, v12, v13, v14, v15, v16, v17, v18, v19, v20] t (0, 0))) : w.cell? ⟨g, 0, none⟩ = some v0 ∧ w.cell? ⟨g, 1, none⟩ = some v1 ∧ w.cell? ⟨g, 2, none⟩ = some v2 ∧ w.cell? ⟨g, 3, none⟩ = some v3 ∧ w.cell? ⟨g, 4, none⟩ = some v4 ∧ w.cell? ⟨g, 5, none⟩ = some v5 ∧ w.cell? ⟨g, 6, none⟩ = some v6 ∧ w.cell? ⟨g, 7, none⟩ = some v7 ∧ w.cell? ⟨g, 8, none⟩ = some v8 ∧ w.cell? ⟨g, 9, none⟩ = some v9 ∧ w.cell? ⟨g, 10, none⟩ = some v10 ∧ w.cell? ⟨g, 11, none⟩ = some v11 ∧ w.cell? ⟨g, 12, none⟩ = some v12 ∧ w.cell? ⟨g, 13, none⟩ = some v13 ∧ w.cell? ⟨g, 14, none⟩ = some v14 ∧ w.cell? ⟨g, 15, none⟩ = some v15 ∧ w.cell? ⟨g, 16, none⟩ = some v16 ∧ w.cell? ⟨g, 17, none⟩ = some v17 ∧ w.cell? ⟨g, 18, none⟩ = some v18 ∧ w.cell? ⟨g, 19, none⟩ = some v19 ∧ w.cell? ⟨g, 20, none⟩ = some v20 :=
  ⟨(blk_cell h 0).trans rfl, (blk_cell h 1).trans rfl, (blk_cell h 2).trans rfl, (blk_cell h 3).trans rfl, (blk_cell h 4).trans rfl, (blk_cell h 5).trans rfl, (blk_cell h 6).trans rfl, (blk_cell h 7).trans rfl, (blk_cell h 8).trans rfl, (blk_cell h 9).trans rfl, (blk_cell h 10).trans rfl, (blk_cell h 11).trans rfl, (blk_cell h 12).trans rfl, (blk_cell h 13).trans rfl, (blk_cell h 14).trans rfl, (blk_cell h 15).trans rfl, (blk_cell h 16).trans rfl, (blk_cell h 17).trans rfl, (blk_cell h 18).trans rfl, (blk_cell h 19).trans rfl, (blk_cell h 20).trans rfl⟩
theorem cells4 {w : World} {g : Nat} {v0 v1 v2 v3 : Value} {t : TypeId} (h : w.heap[g]? = some (.cells #[v0, v1, v2, v3] t (0, 0))) : w.cell? ⟨g, 0, none⟩ = some v0 ∧ w.cell? ⟨g, 1, none⟩ = some v1 ∧ w.cell? ⟨g, 2, none⟩ = some v2 ∧ w.cell? ⟨g, 3, none⟩ = some v3 :=
  ⟨(blk_cell h 0).trans rfl, (blk_cell h 1).trans rfl, (blk_cell h 2).trans rfl, (blk_cell h 3).trans rfl⟩
theorem wrap64_nat' (n : Nat) (h : n ≤ 4611686018427387904) : wrap64 ((n : Int) + 1) = ((n + 1 : Nat) : Int) := by unfold wrap64; omega
theorem arr3 {w : World} {g : Nat} {e0 e1 e2 : S27} (h : w.heap[g]? = some (.cells #[.int .u8 e0.f0, .int .u8 e0.f1.f0, .int .u32 e0.f1.f1, .int .u32 e0.f1.f2, .int .i64 e0.f2, .int .u8 e0.f3, .int .u32 e0.f4, .int .u8 e1.f0, .int .u8 e1.f1.f0, .int .u32 e1.f1.f1, .int .u32 e1.f1.f2, .int .i64 e1.f2, .int .u8 e1.f3, .int .u32 e1.f4, .int .u8 e2.f0, .int .u8 e2.f1.f0, .int .u32 e2.f1.f1, .int .u32 e2.f1.f2, .int .i64 e2.f2, .int .u8 e2.f3, .int .u32 e2.f4] 28 (0, 0))) (j : Int) (h0 : 0 ≤ j) (h1 : j < 3) : w.cell? ⟨g, j.toNat * 7, none⟩ = some (.int .u8 (E3 e0 e1 e2 j).f0) ∧ w.cell? ⟨g, j.toNat * 7 + 1, none⟩ = some (.int .u8 (E3 e0 e1 e2 j).f1.f0) ∧ w.cell? ⟨g, j.toNat * 7 + 2, none⟩ = some (.int .u32 (E3 e0 e1 e2 j).f1.f1) ∧ w.cell? ⟨g, j.toNat * 7 + 3, none⟩ = some (.int .u32 (E3 e0 e1 e2 j).f1.f2) ∧ w.cell? ⟨g, j.toNat * 7 + 4, none⟩ = some (.int .i64 (E3 e0 e1 e2 j).f2) ∧ w.cell? ⟨g, j.toNat * 7 + 5, none⟩ = some (.int .u8 (E3 e0 e1 e2 j).f3) ∧ w.cell? ⟨g, j.toNat * 7 + 6, none⟩ = some (.int .u32 (E3 e0 e1 e2 j).f4) := by
  obtain ⟨q0, q1, q2, q3, q4, q5, q6, q7, q8, q9, q10, q11, q12, q13, q14, q15, q16, q17, q18, q19, q20⟩ := cells21 h
  rcases (show j = 0 ∨ j = 1 ∨ j = 2 by omega) with rfl | rfl | rfl
  · exact ⟨q0, q1, q2, q3, q4, q5, q6⟩
  · exact ⟨q7, q8, q9, q10, q11, q12, q13⟩
  · exact ⟨q14, q15, q16, q17, q18, q19, q20⟩
set_option maxRecDepth 100000 in
set_option maxHeartbeats 4000000 in
theorem ItemAny_long (l : List S27) (e0 e1 e2 : S27) (A : Option Addr) (c : Nat) (a b d : Int) (w : World) (hlt : ¬ l.length ≤ 300) : Calls Try.prog 3 #[.slice A l.length c, .agg #[.int .u8 e0.f0, .int .u8 e0.f1.f0, .int .u32 e0.f1.f1, .int .u32 e0.f1.f2, .int .i64 e0.f2, .int .u8 e0.f3, .int .u32 e0.f4, .int .u8 e1.f0, .int .u8 e1.f1.f0, .int .u32 e1.f1.f1, .int .u32 e1.f1.f2, .int .i64 e1.f2, .int .u8 e1.f3, .int .u32 e1.f4, .int .u8 e2.f0, .int .u8 e2.f1.f0, .int .u32 e2.f1.f1, .int .u32 e2.f1.f2, .int .i64 e2.f2, .int .u8 e2.f3, .int .u32 e2.f4], .int .u8 a, .int .u8 b, .int .u8 d] w fun e w' => e = .returned (.bool true) ∧ Below w.heap.size w w' := by
  have HA := Aside0.mk (awake02_any 60 (Nat.le_refl _))
  have hga_l : decide ((l.length : Int) > 300) = true := decide_eq_true (by omega)
  have hgb_l : decide ((300 : Int) < (l.length : Int)) = true := decide_eq_true (by omega)
  have hgc_l : decide (300 < l.length) = true := decide_eq_true (by omega)
  go_enter Try.func3, Try.ntmps3
  go_wp2_with fail
  refine (tidingslaw02_awake.calls 60 true _ HA.out).mono ?_
  rintro ev w1 ⟨rfl, hx1⟩
  have B1 := Aside0.mk (blk_below (blk_new w (.cells #[.int .u8 e0.f0, .int .u8 e0.f1.f0, .int .u32 e0.f1.f1, .int .u32 e0.f1.f2, .int .i64 e0.f2, .int .u8 e0.f3, .int .u32 e0.f4, .int .u8 e1.f0, .int .u8 e1.f1.f0, .int .u32 e1.f1.f1, .int .u32 e1.f1.f2, .int .i64 e1.f2, .int .u8 e1.f3, .int .u32 e1.f4, .int .u8 e2.f0, .int .u8 e2.f1.f0, .int .u32 e2.f1.f1, .int .u32 e2.f1.f2, .int .i64 e2.f2, .int .u8 e2.f3, .int .u32 e2.f4] 28)) hx1)
  have HB1 := Aside0.mk (((Below.refl _ w).alloc (Nat.le_refl _) (.cells #[.int .u8 e0.f0, .int .u8 e0.f1.f0, .int .u32 e0.f1.f1, .int .u32 e0.f1.f2, .int .i64 e0.f2, .int .u8 e0.f3, .int .u32 e0.f4, .int .u8 e1.f0, .int .u8 e1.f1.f0, .int .u32 e1.f1.f1, .int .u32 e1.f1.f2, .int .i64 e1.f2, .int .u8 e1.f3, .int .u32 e1.f4, .int .u8 e2.f0, .int .u8 e2.f1.f0, .int .u32 e2.f1.f1, .int .u32 e2.f1.f2, .int .i64 e2.f2, .int .u8 e2.f3, .int .u32 e2.f4] 28)).trans (hx1.mono (by simp)))
  clear hx1
  go_wp2_with fail
  go_ret
  exact ⟨rfl, HB1.out⟩
set_option maxRecDepth 100000 in
set_option maxHeartbeats 4000000 in
theorem ItemAny_wrong (l : List S27) (e0 e1 e2 : S27) (A : Option Addr) (c : Nat) (a b d : Int) (w : World) (hr : Kd.C k27 w A l.length l) (hc : l.length ≤ c) (hlt : l.length ≤ 300) (hR : tidingsref02_Right.f 2000 l = some false) : Calls Try.prog 3 #[.slice A l.length c, .agg #[.int .u8 e0.f0, .int .u8 e0.f1.f0, .int .u32 e0.f1.f1, .int .u32 e0.f1.f2, .int .i64 e0.f2, .int .u8 e0.f3, .int .u32 e0.f4, .int .u8 e1.f0, .int .u8 e1.f1.f0, .int .u32 e1.f1.f1, .int .u32 e1.f1.f2, .int .i64 e1.f2, .int .u8 e1.f3, .int .u32 e1.f4, .int .u8 e2.f0, .int .u8 e2.f1.f0, .int .u32 e2.f1.f1, .int .u32 e2.f1.f2, .int .i64 e2.f2, .int .u8 e2.f3, .int .u32 e2.f4], .int .u8 a, .int .u8 b, .int .u8 d] w fun e w' => e = .returned (.bool true) ∧ Below w.heap.size w w' := by
  have HA := Aside0.mk (awake02_any 60 (Nat.le_refl _))
  have HR := Aside0.mk hr
  have HC := Aside0.mk hc
  have HRi := Aside0.mk hR
  have hga_l : decide ((l.length : Int) > 300) = false := decide_eq_false (by omega)
  have hgb_l : decide ((300 : Int) < (l.length : Int)) = false := decide_eq_false (by omega)
  have hgc_l : decide (300 < l.length) = false := decide_eq_false (by omega)
  clear hr hc hlt hR
  go_enter Try.func3, Try.ntmps3
  go_wp2_with fail
  refine (tidingslaw02_awake.calls 60 true _ HA.out).mono ?_
  rintro ev w1 ⟨rfl, hx1⟩
  have B1 := Aside0.mk (blk_below (blk_new w (.cells #[.int .u8 e0.f0, .int .u8 e0.f1.f0, .int .u32 e0.f1.f1, .int .u32 e0.f1.f2, .int .i64 e0.f2, .int .u8 e0.f3, .int .u32 e0.f4, .int .u8 e1.f0, .int .u8 e1.f1.f0, .int .u32 e1.f1.f1, .int .u32 e1.f1.f2, .int .i64 e1.f2, .int .u8 e1.f3, .int .u32 e1.f4, .int .u8 e2.f0, .int .u8 e2.f1.f0, .int .u32 e2.f1.f1, .int .u32 e2.f1.f2, .int .i64 e2.f2, .int .u8 e2.f3, .int .u32 e2.f4] 28)) hx1)
  have HB1 := Aside0.mk (((Below.refl _ w).alloc (Nat.le_refl _) (.cells #[.int .u8 e0.f0, .int .u8 e0.f1.f0, .int .u32 e0.f1.f1, .int .u32 e0.f1.f2, .int .i64 e0.f2, .int .u8 e0.f3, .int .u32 e0.f4, .int .u8 e1.f0, .int .u8 e1.f1.f0, .int .u32 e1.f1.f1, .int .u32 e1.f1.f2, .int .i64 e1.f2, .int .u8 e1.f3, .int .u32 e1.f4, .int .u8 e2.f0, .int .u8 e2.f1.f0, .int .u32 e2.f1.f1, .int .u32 e2.f1.f2, .int .i64 e2.f2, .int .u8 e2.f3, .int .u32 e2.f4] 28)).trans (hx1.mono (by simp)))
  clear hx1
  go_wp2_with fail
  refine (tidingsref02_Right.calls 2000 _ _ l false _ (Kd.C_below HR.out HB1.out) HC.out HRi.out).mono ?_
  rintro ev w2 ⟨rfl, hx2⟩
  have B2 := Aside0.mk (blk_below B1.out hx2)
  have HB2 := Aside0.mk (below_step HB1.out hx2)
  clear hx2 B1 HB1
  go_wp2_with fail
  go_ret
  exact ⟨rfl, HB2.out⟩
set_option maxRecDepth 100000 in
set_option maxHeartbeats 4000000 in
theorem ItemAny_wrong0 (l : List S27) (e0 e1 e2 : S27) (A : Option Addr) (c : Nat) (a b d : Int) (w : World) (hr : Kd.C k27 w A l.length l) (hc : l.length ≤ c) (hlt : l.length ≤ 300) (hR : tidingsref02_Right.f 2000 l = some true) (h0 : tidingsref02_RightEntry.f 2000 e0.f0 e0.f1.f0 e0.f1.f1 e0.f1.f2 e0.f2 e0.f3 e0.f4 = some false) : Calls Try.prog 3 #[.slice A l.length c, .agg #[.int .u8 e0.f0, .int .u8 e0.f1.f0, .int .u32 e0.f1.f1, .int .u32 e0.f1.f2, .int .i64 e0.f2, .int .u8 e0.f3, .int .u32 e0.f4, .int .u8 e1.f0, .int .u8 e1.f1.f0, .int .u32 e1.f1.f1, .int .u32 e1.f1.f2, .int .i64 e1.f2, .int .u8 e1.f3, .int .u32 e1.f4, .int .u8 e2.f0, .int .u8 e2.f1.f0, .int .u32 e2.f1.f1, .int .u32 e2.f1.f2, .int .i64 e2.f2, .int .u8 e2.f3, .int .u32 e2.f4], .int .u8 a, .int .u8 b, .int .u8 d] w fun e w' => e = .returned (.bool true) ∧ Below w.heap.size w w' := by
  have HA := Aside0.mk (awake02_any 60 (Nat.le_refl _))
  have HR := Aside0.mk hr
  have HC := Aside0.mk hc
  have HRi := Aside0.mk hR
  have H0 := Aside0.mk h0
  have hga_l : decide ((l.length : Int) > 300) = false := decide_eq_false (by omega)
  have hgb_l : decide ((300 : Int) < (l.length : Int)) = false := decide_eq_false (by omega)
  have hgc_l : decide (300 < l.length) = false := decide_eq_false (by omega)
  clear hr hc hlt hR h0
  go_enter Try.func3, Try.ntmps3
  go_wp2_with fail
  refine (tidingslaw02_awake.calls 60 true _ HA.out).mono ?_
  rintro ev w1 ⟨rfl, hx1⟩
  have B1 := Aside0.mk (blk_below (blk_new w (.cells #[.int .u8 e0.f0, .int .u8 e0.f1.f0, .int .u32 e0.f1.f1, .int .u32 e0.f1.f2, .int .i64 e0.f2, .int .u8 e0.f3, .int .u32 e0.f4, .int .u8 e1.f0, .int .u8 e1.f1.f0, .int .u32 e1.f1.f1, .int .u32 e1.f1.f2, .int .i64 e1.f2, .int .u8 e1.f3, .int .u32 e1.f4, .int .u8 e2.f0, .int .u8 e2.f1.f0, .int .u32 e2.f1.f1, .int .u32 e2.f1.f2, .int .i64 e2.f2, .int .u8 e2.f3, .int .u32 e2.f4] 28)) hx1)
  have HB1 := Aside0.mk (((Below.refl _ w).alloc (Nat.le_refl _) (.cells #[.int .u8 e0.f0, .int .u8 e0.f1.f0, .int .u32 e0.f1.f1, .int .u32 e0.f1.f2, .int .i64 e0.f2, .int .u8 e0.f3, .int .u32 e0.f4, .int .u8 e1.f0, .int .u8 e1.f1.f0, .int .u32 e1.f1.f1, .int .u32 e1.f1.f2, .int .i64 e1.f2, .int .u8 e1.f3, .int .u32 e1.f4, .int .u8 e2.f0, .int .u8 e2.f1.f0, .int .u32 e2.f1.f1, .int .u32 e2.f1.f2, .int .i64 e2.f2, .int .u8 e2.f3, .int .u32 e2.f4] 28)).trans (hx1.mono (by simp)))
  clear hx1
  go_wp2_with fail
  refine (tidingsref02_Right.calls 2000 _ _ l true _ (Kd.C_below HR.out HB1.out) HC.out HRi.out).mono ?_
  rintro ev w2 ⟨rfl, hx2⟩
  have B2 := Aside0.mk (blk_below B1.out hx2)
  have HB2 := Aside0.mk (below_step HB1.out hx2)
  clear hx2 B1 HB1
  obtain ⟨q0, q1, q2, q3, q4, q5, q6, q7, q8, q9, q10, q11, q12, q13, q14, q15, q16, q17, q18, q19, q20⟩ := cells21 B2.out
  go_wp2_with fail
  refine wp_loop_rounds 4 ?_
  rw [rounds_succ]
  go_wp2_with fail
  refine (tidingsref02_RightEntry.calls 2000 _ _ _ _ _ _ _ false _ H0.out).mono ?_
  rintro ev w3 ⟨rfl, hx3⟩
  have B3 := Aside0.mk (blk_below B2.out hx3)
  have HB3 := Aside0.mk (below_step HB2.out hx3)
  clear q0 q1 q2 q3 q4 q5 q6 q7 q8 q9 q10 q11 q12 q13 q14 q15 q16 q17 q18 q19 q20
  clear hx3 B2 HB2
  obtain ⟨q0, q1, q2, q3, q4, q5, q6, q7, q8, q9, q10, q11, q12, q13, q14, q15, q16, q17, q18, q19, q20⟩ := cells21 B3.out
  go_wp2_with fail
  go_ret
  exact ⟨rfl, HB3.out⟩
set_option maxRecDepth 100000 in
set_option maxHeartbeats 4000000 in
theorem ItemAny_wrong1 (l : List S27) (e0 e1 e2 : S27) (A : Option Addr) (c : Nat) (a b d : Int) (w : World) (hr : Kd.C k27 w A l.length l) (hc : l.length ≤ c) (hlt : l.length ≤ 300) (hR : tidingsref02_Right.f 2000 l = some true) (h0 : tidingsref02_RightEntry.f 2000 e0.f0 e0.f1.f0 e0.f1.f1 e0.f1.f2 e0.f2 e0.f3 e0.f4 = some true) (h1 : tidingsref02_RightEntry.f 2000 e1.f0 e1.f1.f0 e1.f1.f1 e1.f1.f2 e1.f2 e1.f3 e1.f4 = some false) : Calls Try.prog 3 #[.slice A l.length c, .agg #[.int .u8 e0.f0, .int .u8 e0.f1.f0, .int .u32 e0.f1.f1, .int .u32 e0.f1.f2, .int .i64 e0.f2, .int .u8 e0.f3, .int .u32 e0.f4, .int .u8 e1.f0, .int .u8 e1.f1.f0, .int .u32 e1.f1.f1, .int .u32 e1.f1.f2, .int .i64 e1.f2, .int .u8 e1.f3, .int .u32 e1.f4, .int .u8 e2.f0, .int .u8 e2.f1.f0, .int .u32 e2.f1.f1, .int .u32 e2.f1.f2, .int .i64 e2.f2, .int .u8 e2.f3, .int .u32 e2.f4], .int .u8 a, .int .u8 b, .int .u8 d] w fun e w' => e = .returned (.bool true) ∧ Below w.heap.size w w' := by
  have HA := Aside0.mk (awake02_any 60 (Nat.le_refl _))
  have HR := Aside0.mk hr
  have HC := Aside0.mk hc
  have HRi := Aside0.mk hR
  have H0 := Aside0.mk h0
  have H1 := Aside0.mk h1
  have hga_l : decide ((l.length : Int) > 300) = false := decide_eq_false (by omega)
  have hgb_l : decide ((300 : Int) < (l.length : Int)) = false := decide_eq_false (by omega)
  have hgc_l : decide (300 < l.length) = false := decide_eq_false (by omega)
  clear hr hc hlt hR h0 h1
  go_enter Try.func3, Try.ntmps3
  go_wp2_with fail
  refine (tidingslaw02_awake.calls 60 true _ HA.out).mono ?_
  rintro ev w1 ⟨rfl, hx1⟩
  have B1 := Aside0.mk (blk_below (blk_new w (.cells #[.int .u8 e0.f0, .int .u8 e0.f1.f0, .int .u32 e0.f1.f1, .int .u32 e0.f1.f2, .int .i64 e0.f2, .int .u8 e0.f3, .int .u32 e0.f4, .int .u8 e1.f0, .int .u8 e1.f1.f0, .int .u32 e1.f1.f1, .int .u32 e1.f1.f2, .int .i64 e1.f2, .int .u8 e1.f3, .int .u32 e1.f4, .int .u8 e2.f0, .int .u8 e2.f1.f0, .int .u32 e2.f1.f1, .int .u32 e2.f1.f2, .int .i64 e2.f2, .int .u8 e2.f3, .int .u32 e2.f4] 28)) hx1)
  have HB1 := Aside0.mk (((Below.refl _ w).alloc (Nat.le_refl _) (.cells #[.int .u8 e0.f0, .int .u8 e0.f1.f0, .int .u32 e0.f1.f1, .int .u32 e0.f1.f2, .int .i64 e0.f2, .int .u8 e0.f3, .int .u32 e0.f4, .int .u8 e1.f0, .int .u8 e1.f1.f0, .int .u32 e1.f1.f1, .int .u32 e1.f1.f2, .int .i64 e1.f2, .int .u8 e1.f3, .int .u32 e1.f4, .int .u8 e2.f0, .int .u8 e2.f1.f0, .int .u32 e2.f1.f1, .int .u32 e2.f1.f2, .int .i64 e2.f2, .int .u8 e2.f3, .int .u32 e2.f4] 28)).trans (hx1.mono (by simp)))
  clear hx1
  go_wp2_with fail
  refine (tidingsref02_Right.calls 2000 _ _ l true _ (Kd.C_below HR.out HB1.out) HC.out HRi.out).mono ?_
  rintro ev w2 ⟨rfl, hx2⟩
  have B2 := Aside0.mk (blk_below B1.out hx2)
  have HB2 := Aside0.mk (below_step HB1.out hx2)
  clear hx2 B1 HB1
  obtain ⟨q0, q1, q2, q3, q4, q5, q6, q7, q8, q9, q10, q11, q12, q13, q14, q15, q16, q17, q18, q19, q20⟩ := cells21 B2.out
  go_wp2_with fail
  refine wp_loop_rounds 4 ?_
  rw [rounds_succ]
  go_wp2_with fail
  refine (tidingsref02_RightEntry.calls 2000 _ _ _ _ _ _ _ true _ H0.out).mono ?_
  rintro ev w3 ⟨rfl, hx3⟩
  have B3 := Aside0.mk (blk_below B2.out hx3)
  have HB3 := Aside0.mk (below_step HB2.out hx3)
  clear q0 q1 q2 q3 q4 q5 q6 q7 q8 q9 q10 q11 q12 q13 q14 q15 q16 q17 q18 q19 q20
  clear hx3 B2 HB2
  obtain ⟨q0, q1, q2, q3, q4, q5, q6, q7, q8, q9, q10, q11, q12, q13, q14, q15, q16, q17, q18, q19, q20⟩ := cells21 B3.out
  go_wp2_with fail
  rw [rounds_succ]
  go_wp2_with fail
  refine (tidingsref02_RightEntry.calls 2000 _ _ _ _ _ _ _ false _ H1.out).mono ?_
  rintro ev w4 ⟨rfl, hx4⟩
  have B4 := Aside0.mk (blk_below B3.out hx4)
  have HB4 := Aside0.mk (below_step HB3.out hx4)
  clear q0 q1 q2 q3 q4 q5 q6 q7 q8 q9 q10 q11 q12 q13 q14 q15 q16 q17 q18 q19 q20
  clear hx4 B3 HB3
  obtain ⟨q0, q1, q2, q3, q4, q5, q6, q7, q8, q9, q10, q11, q12, q13, q14, q15, q16, q17, q18, q19, q20⟩ := cells21 B4.out
  go_wp2_with fail
  go_ret
  exact ⟨rfl, HB4.out⟩
set_option maxRecDepth 100000 in
set_option maxHeartbeats 4000000 in
theorem ItemAny_wrong2 (l : List S27) (e0 e1 e2 : S27) (A : Option Addr) (c : Nat) (a b d : Int) (w : World) (hr : Kd.C k27 w A l.length l) (hc : l.length ≤ c) (hlt : l.length ≤ 300) (hR : tidingsref02_Right.f 2000 l = some true) (h0 : tidingsref02_RightEntry.f 2000 e0.f0 e0.f1.f0 e0.f1.f1 e0.f1.f2 e0.f2 e0.f3 e0.f4 = some true) (h1 : tidingsref02_RightEntry.f 2000 e1.f0 e1.f1.f0 e1.f1.f1 e1.f1.f2 e1.f2 e1.f3 e1.f4 = some true) (h2 : tidingsref02_RightEntry.f 2000 e2.f0 e2.f1.f0 e2.f1.f1 e2.f1.f2 e2.f2 e2.f3 e2.f4 = some false) : Calls Try.prog 3 #[.slice A l.length c, .agg #[.int .u8 e0.f0, .int .u8 e0.f1.f0, .int .u32 e0.f1.f1, .int .u32 e0.f1.f2, .int .i64 e0.f2, .int .u8 e0.f3, .int .u32 e0.f4, .int .u8 e1.f0, .int .u8 e1.f1.f0, .int .u32 e1.f1.f1, .int .u32 e1.f1.f2, .int .i64 e1.f2, .int .u8 e1.f3, .int .u32 e1.f4, .int .u8 e2.f0, .int .u8 e2.f1.f0, .int .u32 e2.f1.f1, .int .u32 e2.f1.f2, .int .i64 e2.f2, .int .u8 e2.f3, .int .u32 e2.f4], .int .u8 a, .int .u8 b, .int .u8 d] w fun e w' => e = .returned (.bool true) ∧ Below w.heap.size w w' := by
  have HA := Aside0.mk (awake02_any 60 (Nat.le_refl _))
  have HR := Aside0.mk hr
  have HC := Aside0.mk hc
  have HRi := Aside0.mk hR
  have H0 := Aside0.mk h0
  have H1 := Aside0.mk h1
  have H2 := Aside0.mk h2
  have hga_l : decide ((l.length : Int) > 300) = false := decide_eq_false (by omega)
  have hgb_l : decide ((300 : Int) < (l.length : Int)) = false := decide_eq_false (by omega)
  have hgc_l : decide (300 < l.length) = false := decide_eq_false (by omega)
  clear hr hc hlt hR h0 h1 h2
  go_enter Try.func3, Try.ntmps3
  go_wp2_with fail
  refine (tidingslaw02_awake.calls 60 true _ HA.out).mono ?_
  rintro ev w1 ⟨rfl, hx1⟩
  have B1 := Aside0.mk (blk_below (blk_new w (.cells #[.int .u8 e0.f0, .int .u8 e0.f1.f0, .int .u32 e0.f1.f1, .int .u32 e0.f1.f2, .int .i64 e0.f2, .int .u8 e0.f3, .int .u32 e0.f4, .int .u8 e1.f0, .int .u8 e1.f1.f0, .int .u32 e1.f1.f1, .int .u32 e1.f1.f2, .int .i64 e1.f2, .int .u8 e1.f3, .int .u32 e1.f4, .int .u8 e2.f0, .int .u8 e2.f1.f0, .int .u32 e2.f1.f1, .int .u32 e2.f1.f2, .int .i64 e2.f2, .int .u8 e2.f3, .int .u32 e2.f4] 28)) hx1)
  have HB1 := Aside0.mk (((Below.refl _ w).alloc (Nat.le_refl _) (.cells #[.int .u8 e0.f0, .int .u8 e0.f1.f0, .int .u32 e0.f1.f1, .int .u32 e0.f1.f2, .int .i64 e0.f2, .int .u8 e0.f3, .int .u32 e0.f4, .int .u8 e1.f0, .int .u8 e1.f1.f0, .int .u32 e1.f1.f1, .int .u32 e1.f1.f2, .int .i64 e1.f2, .int .u8 e1.f3, .int .u32 e1.f4, .int .u8 e2.f0, .int .u8 e2.f1.f0, .int .u32 e2.f1.f1, .int .u32 e2.f1.f2, .int .i64 e2.f2, .int .u8 e2.f3, .int .u32 e2.f4] 28)).trans (hx1.mono (by simp)))
  clear hx1
  go_wp2_with fail
  refine (tidingsref02_Right.calls 2000 _ _ l true _ (Kd.C_below HR.out HB1.out) HC.out HRi.out).mono ?_
  rintro ev w2 ⟨rfl, hx2⟩
  have B2 := Aside0.mk (blk_below B1.out hx2)
  have HB2 := Aside0.mk (below_step HB1.out hx2)
  clear hx2 B1 HB1
  obtain ⟨q0, q1, q2, q3, q4, q5, q6, q7, q8, q9, q10, q11, q12, q13, q14, q15, q16, q17, q18, q19, q20⟩ := cells21 B2.out
  go_wp2_with fail
  refine wp_loop_rounds 4 ?_
  rw [rounds_succ]
  go_wp2_with fail
  refine (tidingsref02_RightEntry.calls 2000 _ _ _ _ _ _ _ true _ H0.out).mono ?_
  rintro ev w3 ⟨rfl, hx3⟩
  have B3 := Aside0.mk (blk_below B2.out hx3)
  have HB3 := Aside0.mk (below_step HB2.out hx3)
  clear q0 q1 q2 q3 q4 q5 q6 q7 q8 q9 q10 q11 q12 q13 q14 q15 q16 q17 q18 q19 q20
  clear hx3 B2 HB2
  obtain ⟨q0, q1, q2, q3, q4, q5, q6, q7, q8, q9, q10, q11, q12, q13, q14, q15, q16, q17, q18, q19, q20⟩ := cells21 B3.out
  go_wp2_with fail
  rw [rounds_succ]
  go_wp2_with fail
  refine (tidingsref02_RightEntry.calls 2000 _ _ _ _ _ _ _ true _ H1.out).mono ?_
  rintro ev w4 ⟨rfl, hx4⟩
  have B4 := Aside0.mk (blk_below B3.out hx4)
  have HB4 := Aside0.mk (below_step HB3.out hx4)
  clear q0 q1 q2 q3 q4 q5 q6 q7 q8 q9 q10 q11 q12 q13 q14 q15 q16 q17 q18 q19 q20
  clear hx4 B3 HB3
  obtain ⟨q0, q1, q2, q3, q4, q5, q6, q7, q8, q9, q10, q11, q12, q13, q14, q15, q16, q17, q18, q19, q20⟩ := cells21 B4.out
  go_wp2_with fail
  rw [rounds_succ]
  go_wp2_with fail
  refine (tidingsref02_RightEntry.calls 2000 _ _ _ _ _ _ _ false _ H2.out).mono ?_
  rintro ev w5 ⟨rfl, hx5⟩
  have B5 := Aside0.mk (blk_below B4.out hx5)
  have HB5 := Aside0.mk (below_step HB4.out hx5)
  clear q0 q1 q2 q3 q4 q5 q6 q7 q8 q9 q10 q11 q12 q13 q14 q15 q16 q17 q18 q19 q20
  clear hx5 B4 HB4
  obtain ⟨q0, q1, q2, q3, q4, q5, q6, q7, q8, q9, q10, q11, q12, q13, q14, q15, q16, q17, q18, q19, q20⟩ := cells21 B5.out
  go_wp2_with fail
  go_ret
  exact ⟨rfl, HB5.out⟩
set_option maxRecDepth 100000 in
set_option maxHeartbeats 4000000 in
theorem ItemAny_four (l : List S27) (e0 e1 e2 : S27) (A : Option Addr) (c : Nat) (a b d : Int) (w : World) (hr : Kd.C k27 w A l.length l) (hc : l.length ≤ c) (hlt : l.length ≤ 300) (hR : tidingsref02_Right.f 2000 l = some true) (h0 : tidingsref02_RightEntry.f 2000 e0.f0 e0.f1.f0 e0.f1.f1 e0.f1.f2 e0.f2 e0.f3 e0.f4 = some true) (h1 : tidingsref02_RightEntry.f 2000 e1.f0 e1.f1.f0 e1.f1.f1 e1.f1.f2 e1.f2 e1.f3 e1.f4 = some true) (h2 : tidingsref02_RightEntry.f 2000 e2.f0 e2.f1.f0 e2.f1.f1 e2.f1.f2 e2.f2 e2.f3 e2.f4 = some true) (ha : In8 a) (hb : In8 b) (hd : In8 d) (x1 x2 x3 x4 y1 y2 y3 y4 : List S27) (fx1 : item_Take.f 2000 l e0.f0 e0.f1.f0 e0.f1.f1 e0.f1.f2 e0.f2 e0.f3 e0.f4 = some (x1, none)) (fx2 : item_Take.f 2000 x1 e1.f0 e1.f1.f0 e1.f1.f1 e1.f1.f2 e1.f2 e1.f3 e1.f4 = some (x2, none)) (fx3 : item_Take.f 2000 x2 e2.f0 e2.f1.f0 e2.f1.f1 e2.f1.f2 e2.f2 e2.f3 e2.f4 = some (x3, none)) (fx4 : item_Take.f 2000 x3 (E3 e0 e1 e2 (a % 3)).f0 (E3 e0 e1 e2 (a % 3)).f1.f0 (E3 e0 e1 e2 (a % 3)).f1.f1 (E3 e0 e1 e2 (a % 3)).f1.f2 (E3 e0 e1 e2 (a % 3)).f2 (E3 e0 e1 e2 (a % 3)).f3 (E3 e0 e1 e2 (a % 3)).f4 = some (x4, none))  (hx : x4.length ≤ 1000) (hlen : y4.length = x4.length) (hat : ∀ i, i < x4.length → ∃ (z : S27) (p : Bool), tidingsref02_Find.f 2000 l (x4.getD i z27).f0 = some (z.f0, z.f1.f0, z.f1.f1, z.f1.f2, z.f2, z.f3, z.f4, p) ∧ (p = true → tidingsref02_Less.f (x4.getD i z27).f1.f0 (x4.getD i z27).f1.f1 (x4.getD i z27).f1.f2 z.f1.f0 z.f1.f1 z.f1.f2 = some false) ∧ (y4.getD i z27).f0 = (x4.getD i z27).f0 ∧ (y4.getD i z27).f1 = (x4.getD i z27).f1) (fy1 : item_Take.f 2000 l (E3 e0 e1 e2 (b % 3)).f0 (E3 e0 e1 e2 (b % 3)).f1.f0 (E3 e0 e1 e2 (b % 3)).f1.f1 (E3 e0 e1 e2 (b % 3)).f1.f2 (E3 e0 e1 e2 (b % 3)).f2 (E3 e0 e1 e2 (b % 3)).f3 (E3 e0 e1 e2 (b % 3)).f4 = some (y1, none)) (fy2 : item_Take.f 2000 y1 (E3 e0 e1 e2 ((b + 1 + d % 2) % 3)).f0 (E3 e0 e1 e2 ((b + 1 + d % 2) % 3)).f1.f0 (E3 e0 e1 e2 ((b + 1 + d % 2) % 3)).f1.f1 (E3 e0 e1 e2 ((b + 1 + d % 2) % 3)).f1.f2 (E3 e0 e1 e2 ((b + 1 + d % 2) % 3)).f2 (E3 e0 e1 e2 ((b + 1 + d % 2) % 3)).f3 (E3 e0 e1 e2 ((b + 1 + d % 2) % 3)).f4 = some (y2, none)) (fy3 : item_Take.f 2000 y2 (E3 e0 e1 e2 ((b + 2 - d % 2) % 3)).f0 (E3 e0 e1 e2 ((b + 2 - d % 2) % 3)).f1.f0 (E3 e0 e1 e2 ((b + 2 - d % 2) % 3)).f1.f1 (E3 e0 e1 e2 ((b + 2 - d % 2) % 3)).f1.f2 (E3 e0 e1 e2 ((b + 2 - d % 2) % 3)).f2 (E3 e0 e1 e2 ((b + 2 - d % 2) % 3)).f3 (E3 e0 e1 e2 ((b + 2 - d % 2) % 3)).f4 = some (y3, none)) (fy4 : item_Take.f 2000 y3 (E3 e0 e1 e2 (d % 3)).f0 (E3 e0 e1 e2 (d % 3)).f1.f0 (E3 e0 e1 e2 (d % 3)).f1.f1 (E3 e0 e1 e2 (d % 3)).f1.f2 (E3 e0 e1 e2 (d % 3)).f2 (E3 e0 e1 e2 (d % 3)).f3 (E3 e0 e1 e2 (d % 3)).f4 = some (y4, none)) : Calls Try.prog 3 #[.slice A l.length c, .agg #[.int .u8 e0.f0, .int .u8 e0.f1.f0, .int .u32 e0.f1.f1, .int .u32 e0.f1.f2, .int .i64 e0.f2, .int .u8 e0.f3, .int .u32 e0.f4, .int .u8 e1.f0, .int .u8 e1.f1.f0, .int .u32 e1.f1.f1, .int .u32 e1.f1.f2, .int .i64 e1.f2, .int .u8 e1.f3, .int .u32 e1.f4, .int .u8 e2.f0, .int .u8 e2.f1.f0, .int .u32 e2.f1.f1, .int .u32 e2.f1.f2, .int .i64 e2.f2, .int .u8 e2.f3, .int .u32 e2.f4], .int .u8 a, .int .u8 b, .int .u8 d] w fun e w' => e = .returned (.bool true) ∧ Below w.heap.size w w' := by
  have HA := Aside0.mk (awake02_any 60 (Nat.le_refl _))
  have HR := Aside0.mk hr
  have HC := Aside0.mk hc
  have HRi := Aside0.mk hR
  have H0 := Aside0.mk h0
  have H1 := Aside0.mk h1
  have H2 := Aside0.mk h2
  have hga_l : decide ((l.length : Int) > 300) = false := decide_eq_false (by omega)
  have hgb_l : decide ((300 : Int) < (l.length : Int)) = false := decide_eq_false (by omega)
  have hgc_l : decide (300 < l.length) = false := decide_eq_false (by omega)
  unfold In8 at ha hb hd
  obtain ⟨ha0, ha1⟩ := ha
  obtain ⟨hb0, hb1⟩ := hb
  obtain ⟨hd0, hd1⟩ := hd
  clear hr hc hlt hR h0 h1 h2
  have Fx1 := Aside0.mk fx1
  have Fx2 := Aside0.mk fx2
  have Fx3 := Aside0.mk fx3
  have Fx4 := Aside0.mk fx4
  have Fy1 := Aside0.mk fy1
  have Fy2 := Aside0.mk fy2
  have Fy3 := Aside0.mk fy3
  have Fy4 := Aside0.mk fy4
  have HLEN := Aside0.mk hlen
  have HAT := Aside0.mk hat
  clear hlen hat fx1 fx2 fx3 fx4 fy1 fy2 fy3 fy4
  go_enter Try.func3, Try.ntmps3
  go_wp2_with fail
  refine (tidingslaw02_awake.calls 60 true _ HA.out).mono ?_
  rintro ev w1 ⟨rfl, hx1⟩
  have B1 := Aside0.mk (blk_below (blk_new w (.cells #[.int .u8 e0.f0, .int .u8 e0.f1.f0, .int .u32 e0.f1.f1, .int .u32 e0.f1.f2, .int .i64 e0.f2, .int .u8 e0.f3, .int .u32 e0.f4, .int .u8 e1.f0, .int .u8 e1.f1.f0, .int .u32 e1.f1.f1, .int .u32 e1.f1.f2, .int .i64 e1.f2, .int .u8 e1.f3, .int .u32 e1.f4, .int .u8 e2.f0, .int .u8 e2.f1.f0, .int .u32 e2.f1.f1, .int .u32 e2.f1.f2, .int .i64 e2.f2, .int .u8 e2.f3, .int .u32 e2.f4] 28)) hx1)
  have HB1 := Aside0.mk (((Below.refl _ w).alloc (Nat.le_refl _) (.cells #[.int .u8 e0.f0, .int .u8 e0.f1.f0, .int .u32 e0.f1.f1, .int .u32 e0.f1.f2, .int .i64 e0.f2, .int .u8 e0.f3, .int .u32 e0.f4, .int .u8 e1.f0, .int .u8 e1.f1.f0, .int .u32 e1.f1.f1, .int .u32 e1.f1.f2, .int .i64 e1.f2, .int .u8 e1.f3, .int .u32 e1.f4, .int .u8 e2.f0, .int .u8 e2.f1.f0, .int .u32 e2.f1.f1, .int .u32 e2.f1.f2, .int .i64 e2.f2, .int .u8 e2.f3, .int .u32 e2.f4] 28)).trans (hx1.mono (by simp)))
  clear hx1
  go_wp2_with fail
  refine (tidingsref02_Right.calls 2000 _ _ l true _ (Kd.C_below HR.out HB1.out) HC.out HRi.out).mono ?_
  rintro ev w2 ⟨rfl, hx2⟩
  have B2 := Aside0.mk (blk_below B1.out hx2)
  have HB2 := Aside0.mk (below_step HB1.out hx2)
  clear hx2 B1 HB1
  obtain ⟨q0, q1, q2, q3, q4, q5, q6, q7, q8, q9, q10, q11, q12, q13, q14, q15, q16, q17, q18, q19, q20⟩ := cells21 B2.out
  go_wp2_with fail
  refine wp_loop_rounds 4 ?_
  rw [rounds_succ]
  go_wp2_with fail
  refine (tidingsref02_RightEntry.calls 2000 _ _ _ _ _ _ _ true _ H0.out).mono ?_
  rintro ev w3 ⟨rfl, hx3⟩
  have B3 := Aside0.mk (blk_below B2.out hx3)
  have HB3 := Aside0.mk (below_step HB2.out hx3)
  clear q0 q1 q2 q3 q4 q5 q6 q7 q8 q9 q10 q11 q12 q13 q14 q15 q16 q17 q18 q19 q20
  clear hx3 B2 HB2
  obtain ⟨q0, q1, q2, q3, q4, q5, q6, q7, q8, q9, q10, q11, q12, q13, q14, q15, q16, q17, q18, q19, q20⟩ := cells21 B3.out
  go_wp2_with fail
  rw [rounds_succ]
  go_wp2_with fail
  refine (tidingsref02_RightEntry.calls 2000 _ _ _ _ _ _ _ true _ H1.out).mono ?_
  rintro ev w4 ⟨rfl, hx4⟩
  have B4 := Aside0.mk (blk_below B3.out hx4)
  have HB4 := Aside0.mk (below_step HB3.out hx4)
  clear q0 q1 q2 q3 q4 q5 q6 q7 q8 q9 q10 q11 q12 q13 q14 q15 q16 q17 q18 q19 q20
  clear hx4 B3 HB3
  obtain ⟨q0, q1, q2, q3, q4, q5, q6, q7, q8, q9, q10, q11, q12, q13, q14, q15, q16, q17, q18, q19, q20⟩ := cells21 B4.out
  go_wp2_with fail
  rw [rounds_succ]
  go_wp2_with fail
  refine (tidingsref02_RightEntry.calls 2000 _ _ _ _ _ _ _ true _ H2.out).mono ?_
  rintro ev w5 ⟨rfl, hx5⟩
  have B5 := Aside0.mk (blk_below B4.out hx5)
  have HB5 := Aside0.mk (below_step HB4.out hx5)
  clear q0 q1 q2 q3 q4 q5 q6 q7 q8 q9 q10 q11 q12 q13 q14 q15 q16 q17 q18 q19 q20
  clear hx5 B4 HB4
  obtain ⟨q0, q1, q2, q3, q4, q5, q6, q7, q8, q9, q10, q11, q12, q13, q14, q15, q16, q17, q18, q19, q20⟩ := cells21 B5.out
  go_wp2_with fail
  rw [rounds_succ]
  go_wp2_with fail
  have T1 := Aside0.mk (blk_alloc (blk_new w5 (.cells #[.int .i64 0, .int .i64 1, .int .i64 2, .int .i64 (a % 3)] 3)) (.cells #[.int .i64 (b % 3), .int .i64 ((b + 1 + d % 2) % 3), .int .i64 ((b + 2 - d % 2) % 3), .int .i64 (d % 3)] 3))
  have T2 := Aside0.mk (show ((w5.alloc (.cells #[.int .i64 0, .int .i64 1, .int .i64 2, .int .i64 (a % 3)] 3)).alloc (.cells #[.int .i64 (b % 3), .int .i64 ((b + 1 + d % 2) % 3), .int .i64 ((b + 2 - d % 2) % 3), .int .i64 (d % 3)] 3)).heap[w5.heap.size + 1]? = some (.cells #[.int .i64 (b % 3), .int .i64 ((b + 1 + d % 2) % 3), .int .i64 ((b + 2 - d % 2) % 3), .int .i64 (d % 3)] 3) by simpa using blk_new (w5.alloc (.cells #[.int .i64 0, .int .i64 1, .int .i64 2, .int .i64 (a % 3)] 3)) (.cells #[.int .i64 (b % 3), .int .i64 ((b + 1 + d % 2) % 3), .int .i64 ((b + 2 - d % 2) % 3), .int .i64 (d % 3)] 3))
  have B6 := Aside0.mk (blk_alloc (blk_alloc B5.out (.cells #[.int .i64 0, .int .i64 1, .int .i64 2, .int .i64 (a % 3)] 3)) (.cells #[.int .i64 (b % 3), .int .i64 ((b + 1 + d % 2) % 3), .int .i64 ((b + 2 - d % 2) % 3), .int .i64 (d % 3)] 3))
  have HB6 := Aside0.mk ((HB5.out.alloc HB5.out.size (.cells #[.int .i64 0, .int .i64 1, .int .i64 2, .int .i64 (a % 3)] 3)).alloc (by have := HB5.out.size; simp; omega) (.cells #[.int .i64 (b % 3), .int .i64 ((b + 1 + d % 2) % 3), .int .i64 ((b + 2 - d % 2) % 3), .int .i64 (d % 3)] 3))
  generalize (w5.alloc (.cells #[.int .i64 0, .int .i64 1, .int .i64 2, .int .i64 (a % 3)] 3)).alloc (.cells #[.int .i64 (b % 3), .int .i64 ((b + 1 + d % 2) % 3), .int .i64 ((b + 2 - d % 2) % 3), .int .i64 (d % 3)] 3) = w6 at T1 T2 B6 HB6 ⊢
  generalize w5.heap.size = g5 at T1 T2 ⊢
  clear B5 HB5 q0 q1 q2 q3 q4 q5 q6 q7 q8 q9 q10 q11 q12 q13 q14 q15 q16 q17 q18 q19 q20
  have ja0 : 0 ≤ a % 3 := by omega
  have ja1 : a % 3 < 3 := by omega
  have j10 : 0 ≤ b % 3 := by omega
  have j11 : b % 3 < 3 := by omega
  have j20 : 0 ≤ (b + 1 + d % 2) % 3 := by omega
  have j21 : (b + 1 + d % 2) % 3 < 3 := by omega
  have j30 : 0 ≤ (b + 2 - d % 2) % 3 := by omega
  have j31 : (b + 2 - d % 2) % 3 < 3 := by omega
  have j40 : 0 ≤ d % 3 := by omega
  have j41 : d % 3 < 3 := by omega
  generalize a % 3 = ja at *
  generalize (b + 1 + d % 2) % 3 = j2 at *
  generalize (b + 2 - d % 2) % 3 = j3 at *
  generalize b % 3 = j1 at *
  generalize d % 3 = j4 at *
  obtain ⟨t0, t1, t2, t3⟩ := cells4 T1.out
  obtain ⟨u0, u1, u2, u3⟩ := cells4 T2.out
  obtain ⟨q0, q1, q2, q3, q4, q5, q6, q7, q8, q9, q10, q11, q12, q13, q14, q15, q16, q17, q18, q19, q20⟩ := cells21 B6.out
  have eN := errW_none
  refine wp_loop_rounds 5 ?_
  rw [rounds_succ]
  go_wp2_with fail
  refine (item_Take.calls 2000 _ _ l _ _ _ _ _ _ _ x1 none _ (Kd.C_below HR.out HB6.out) HC.out Fx1.out).mono ?_
  rintro ev w7 ⟨vx1, rfl, hRx1, hx7⟩
  obtain ⟨Ax1, cx1, rfl, hDx1, hCx1⟩ := Kd.R_reads hRx1
  have B7 := Aside0.mk (blk_below B6.out hx7)
  have T1_7 := Aside0.mk (blk_below T1.out hx7)
  have T2_7 := Aside0.mk (blk_below T2.out hx7)
  have HB7 := Aside0.mk (below_step HB6.out hx7)
  have XC_x1 := Aside0.mk hCx1
  have XD_x1 := Aside0.mk hDx1
  clear hx7 hRx1 hCx1 hDx1 B6 HB6 T1 T2  t0 t1 t2 t3 u0 u1 u2 u3 q0 q1 q2 q3 q4 q5 q6 q7 q8 q9 q10 q11 q12 q13 q14 q15 q16 q17 q18 q19 q20 
  obtain ⟨t0, t1, t2, t3⟩ := cells4 T1_7.out
  obtain ⟨u0, u1, u2, u3⟩ := cells4 T2_7.out
  obtain ⟨q0, q1, q2, q3, q4, q5, q6, q7, q8, q9, q10, q11, q12, q13, q14, q15, q16, q17, q18, q19, q20⟩ := cells21 B7.out
  obtain ⟨s0, s1, s2, s3, s4, s5, s6⟩ := arr3 B7.out j1 j10 j11
  go_wp2_with fail
  refine (item_Take.calls 2000 _ _ l _ _ _ _ _ _ _ y1 none _ (Kd.C_below HR.out HB7.out) HC.out Fy1.out).mono ?_
  rintro ev w8 ⟨vy1, rfl, hRy1, hx8⟩
  obtain ⟨Ay1, cy1, rfl, hDy1, hCy1⟩ := Kd.R_reads hRy1
  have B8 := Aside0.mk (blk_below B7.out hx8)
  have T1_8 := Aside0.mk (blk_below T1_7.out hx8)
  have T2_8 := Aside0.mk (blk_below T2_7.out hx8)
  have HB8 := Aside0.mk (below_step HB7.out hx8)
  have XC_y1 := Aside0.mk hCy1
  have XD_y1 := Aside0.mk hDy1
  have XC_x1_8 := Aside0.mk (Kd.C_below XC_x1.out hx8)
  clear hx8 hRy1 hCy1 hDy1 B7 HB7 T1_7 T2_7 XC_x1 t0 t1 t2 t3 u0 u1 u2 u3 q0 q1 q2 q3 q4 q5 q6 q7 q8 q9 q10 q11 q12 q13 q14 q15 q16 q17 q18 q19 q20 s0 s1 s2 s3 s4 s5 s6
  obtain ⟨t0, t1, t2, t3⟩ := cells4 T1_8.out
  obtain ⟨u0, u1, u2, u3⟩ := cells4 T2_8.out
  obtain ⟨q0, q1, q2, q3, q4, q5, q6, q7, q8, q9, q10, q11, q12, q13, q14, q15, q16, q17, q18, q19, q20⟩ := cells21 B8.out
  go_wp2_with fail
  rw [rounds_succ]
  go_wp2_with fail
  refine (item_Take.calls 2000 _ _ x1 _ _ _ _ _ _ _ x2 none _ XC_x1_8.out XD_x1.out Fx2.out).mono ?_
  rintro ev w9 ⟨vx2, rfl, hRx2, hx9⟩
  obtain ⟨Ax2, cx2, rfl, hDx2, hCx2⟩ := Kd.R_reads hRx2
  have B9 := Aside0.mk (blk_below B8.out hx9)
  have T1_9 := Aside0.mk (blk_below T1_8.out hx9)
  have T2_9 := Aside0.mk (blk_below T2_8.out hx9)
  have HB9 := Aside0.mk (below_step HB8.out hx9)
  have XC_x2 := Aside0.mk hCx2
  have XD_x2 := Aside0.mk hDx2
  have XC_y1_9 := Aside0.mk (Kd.C_below XC_y1.out hx9)
  clear hx9 hRx2 hCx2 hDx2 B8 HB8 T1_8 T2_8 XC_y1 XC_x1_8 t0 t1 t2 t3 u0 u1 u2 u3 q0 q1 q2 q3 q4 q5 q6 q7 q8 q9 q10 q11 q12 q13 q14 q15 q16 q17 q18 q19 q20 
  obtain ⟨t0, t1, t2, t3⟩ := cells4 T1_9.out
  obtain ⟨u0, u1, u2, u3⟩ := cells4 T2_9.out
  obtain ⟨q0, q1, q2, q3, q4, q5, q6, q7, q8, q9, q10, q11, q12, q13, q14, q15, q16, q17, q18, q19, q20⟩ := cells21 B9.out
  obtain ⟨s0, s1, s2, s3, s4, s5, s6⟩ := arr3 B9.out j2 j20 j21
  go_wp2_with fail
  refine (item_Take.calls 2000 _ _ y1 _ _ _ _ _ _ _ y2 none _ XC_y1_9.out XD_y1.out Fy2.out).mono ?_
  rintro ev w10 ⟨vy2, rfl, hRy2, hx10⟩
  obtain ⟨Ay2, cy2, rfl, hDy2, hCy2⟩ := Kd.R_reads hRy2
  have B10 := Aside0.mk (blk_below B9.out hx10)
  have T1_10 := Aside0.mk (blk_below T1_9.out hx10)
  have T2_10 := Aside0.mk (blk_below T2_9.out hx10)
  have HB10 := Aside0.mk (below_step HB9.out hx10)
  have XC_y2 := Aside0.mk hCy2
  have XD_y2 := Aside0.mk hDy2
  have XC_x2_10 := Aside0.mk (Kd.C_below XC_x2.out hx10)
  clear hx10 hRy2 hCy2 hDy2 B9 HB9 T1_9 T2_9 XC_x2 XC_y1_9 t0 t1 t2 t3 u0 u1 u2 u3 q0 q1 q2 q3 q4 q5 q6 q7 q8 q9 q10 q11 q12 q13 q14 q15 q16 q17 q18 q19 q20 s0 s1 s2 s3 s4 s5 s6
  obtain ⟨t0, t1, t2, t3⟩ := cells4 T1_10.out
  obtain ⟨u0, u1, u2, u3⟩ := cells4 T2_10.out
  obtain ⟨q0, q1, q2, q3, q4, q5, q6, q7, q8, q9, q10, q11, q12, q13, q14, q15, q16, q17, q18, q19, q20⟩ := cells21 B10.out
  go_wp2_with fail
  rw [rounds_succ]
  go_wp2_with fail
  refine (item_Take.calls 2000 _ _ x2 _ _ _ _ _ _ _ x3 none _ XC_x2_10.out XD_x2.out Fx3.out).mono ?_
  rintro ev w11 ⟨vx3, rfl, hRx3, hx11⟩
  obtain ⟨Ax3, cx3, rfl, hDx3, hCx3⟩ := Kd.R_reads hRx3
  have B11 := Aside0.mk (blk_below B10.out hx11)
  have T1_11 := Aside0.mk (blk_below T1_10.out hx11)
  have T2_11 := Aside0.mk (blk_below T2_10.out hx11)
  have HB11 := Aside0.mk (below_step HB10.out hx11)
  have XC_x3 := Aside0.mk hCx3
  have XD_x3 := Aside0.mk hDx3
  have XC_y2_11 := Aside0.mk (Kd.C_below XC_y2.out hx11)
  clear hx11 hRx3 hCx3 hDx3 B10 HB10 T1_10 T2_10 XC_y2 XC_x2_10 t0 t1 t2 t3 u0 u1 u2 u3 q0 q1 q2 q3 q4 q5 q6 q7 q8 q9 q10 q11 q12 q13 q14 q15 q16 q17 q18 q19 q20 
  obtain ⟨t0, t1, t2, t3⟩ := cells4 T1_11.out
  obtain ⟨u0, u1, u2, u3⟩ := cells4 T2_11.out
  obtain ⟨q0, q1, q2, q3, q4, q5, q6, q7, q8, q9, q10, q11, q12, q13, q14, q15, q16, q17, q18, q19, q20⟩ := cells21 B11.out
  obtain ⟨s0, s1, s2, s3, s4, s5, s6⟩ := arr3 B11.out j3 j30 j31
  go_wp2_with fail
  refine (item_Take.calls 2000 _ _ y2 _ _ _ _ _ _ _ y3 none _ XC_y2_11.out XD_y2.out Fy3.out).mono ?_
  rintro ev w12 ⟨vy3, rfl, hRy3, hx12⟩
  obtain ⟨Ay3, cy3, rfl, hDy3, hCy3⟩ := Kd.R_reads hRy3
  have B12 := Aside0.mk (blk_below B11.out hx12)
  have T1_12 := Aside0.mk (blk_below T1_11.out hx12)
  have T2_12 := Aside0.mk (blk_below T2_11.out hx12)
  have HB12 := Aside0.mk (below_step HB11.out hx12)
  have XC_y3 := Aside0.mk hCy3
  have XD_y3 := Aside0.mk hDy3
  have XC_x3_12 := Aside0.mk (Kd.C_below XC_x3.out hx12)
  clear hx12 hRy3 hCy3 hDy3 B11 HB11 T1_11 T2_11 XC_x3 XC_y2_11 t0 t1 t2 t3 u0 u1 u2 u3 q0 q1 q2 q3 q4 q5 q6 q7 q8 q9 q10 q11 q12 q13 q14 q15 q16 q17 q18 q19 q20 s0 s1 s2 s3 s4 s5 s6
  obtain ⟨t0, t1, t2, t3⟩ := cells4 T1_12.out
  obtain ⟨u0, u1, u2, u3⟩ := cells4 T2_12.out
  obtain ⟨q0, q1, q2, q3, q4, q5, q6, q7, q8, q9, q10, q11, q12, q13, q14, q15, q16, q17, q18, q19, q20⟩ := cells21 B12.out
  go_wp2_with fail
  rw [rounds_succ]
  obtain ⟨s0, s1, s2, s3, s4, s5, s6⟩ := arr3 B12.out ja ja0 ja1
  go_wp2_with fail
  refine (item_Take.calls 2000 _ _ x3 _ _ _ _ _ _ _ x4 none _ XC_x3_12.out XD_x3.out Fx4.out).mono ?_
  rintro ev w13 ⟨vx4, rfl, hRx4, hx13⟩
  obtain ⟨Ax4, cx4, rfl, hDx4, hCx4⟩ := Kd.R_reads hRx4
  have B13 := Aside0.mk (blk_below B12.out hx13)
  have T1_13 := Aside0.mk (blk_below T1_12.out hx13)
  have T2_13 := Aside0.mk (blk_below T2_12.out hx13)
  have HB13 := Aside0.mk (below_step HB12.out hx13)
  have XC_x4 := Aside0.mk hCx4
  have XD_x4 := Aside0.mk hDx4
  have XC_y3_13 := Aside0.mk (Kd.C_below XC_y3.out hx13)
  clear hx13 hRx4 hCx4 hDx4 B12 HB12 T1_12 T2_12 XC_y3 XC_x3_12 t0 t1 t2 t3 u0 u1 u2 u3 q0 q1 q2 q3 q4 q5 q6 q7 q8 q9 q10 q11 q12 q13 q14 q15 q16 q17 q18 q19 q20 s0 s1 s2 s3 s4 s5 s6
  obtain ⟨t0, t1, t2, t3⟩ := cells4 T1_13.out
  obtain ⟨u0, u1, u2, u3⟩ := cells4 T2_13.out
  obtain ⟨q0, q1, q2, q3, q4, q5, q6, q7, q8, q9, q10, q11, q12, q13, q14, q15, q16, q17, q18, q19, q20⟩ := cells21 B13.out
  obtain ⟨s0, s1, s2, s3, s4, s5, s6⟩ := arr3 B13.out j4 j40 j41
  go_wp2_with fail
  refine (item_Take.calls 2000 _ _ y3 _ _ _ _ _ _ _ y4 none _ XC_y3_13.out XD_y3.out Fy4.out).mono ?_
  rintro ev w14 ⟨vy4, rfl, hRy4, hx14⟩
  obtain ⟨Ay4, cy4, rfl, hDy4, hCy4⟩ := Kd.R_reads hRy4
  have B14 := Aside0.mk (blk_below B13.out hx14)
  have T1_14 := Aside0.mk (blk_below T1_13.out hx14)
  have T2_14 := Aside0.mk (blk_below T2_13.out hx14)
  have HB14 := Aside0.mk (below_step HB13.out hx14)
  have XC_y4 := Aside0.mk hCy4
  have XD_y4 := Aside0.mk hDy4
  have XC_x4_14 := Aside0.mk (Kd.C_below XC_x4.out hx14)
  clear hx14 hRy4 hCy4 hDy4 B13 HB13 T1_13 T2_13 XC_x4 XC_y3_13 t0 t1 t2 t3 u0 u1 u2 u3 q0 q1 q2 q3 q4 q5 q6 q7 q8 q9 q10 q11 q12 q13 q14 q15 q16 q17 q18 q19 q20 s0 s1 s2 s3 s4 s5 s6
  obtain ⟨t0, t1, t2, t3⟩ := cells4 T1_14.out
  obtain ⟨u0, u1, u2, u3⟩ := cells4 T2_14.out
  obtain ⟨q0, q1, q2, q3, q4, q5, q6, q7, q8, q9, q10, q11, q12, q13, q14, q15, q16, q17, q18, q19, q20⟩ := cells21 B14.out
  go_wp2_with fail
  rw [rounds_succ]
  have hlen := HLEN.out
  go_wp2_with fail
  clear hlen
  go_loopg [23] x4.length (fun gg s23 wr => ∃ kk : Nat, kk ≤ x4.length ∧ x4.length - kk ≤ gg ∧ s23 = .int .i64 kk ∧ Aside0 (Below w14.heap.size w14 wr))
  case atStart => exact ⟨0, Nat.zero_le _, by omega, rfl, ⟨Below.refl _ _⟩⟩
  case round =>
    obtain ⟨kk, hkk, hgg, rfl, BW⟩ := hrel
    clear t0 t1 t2 t3 u0 u1 u2 u3 q0 q1 q2 q3 q4 q5 q6 q7 q8 q9 q10 q11 q12 q13 q14 q15 q16 q17 q18 q19 q20 B14 T1_14 T2_14
    by_cases hlt : kk < x4.length
    · have hltz : (kk : Int) < (x4.length : Int) := by omega
      have hyl : (kk : Int) < (y4.length : Int) := by rw [HLEN.out]; exact hltz
      obtain ⟨z, p, f1, f2, f3, f4⟩ := HAT.out kk hlt
      have F1 := Aside0.mk f1
      have F2 := Aside0.mk f2
      have F3 := Aside0.mk f3
      have F4 := Aside0.mk f4
      clear f1 f2 f3 f4
      obtain ⟨ax, rfl, p0, p1, p2, p3, p4, p5, p6⟩ := at_T27 (Kd.C_below XC_x4_14.out BW.out) (kk : Int) (by omega) hltz
      obtain ⟨ay, rfl, r0, r1, r2, r3, r4, r5, r6⟩ := at_T27 (Kd.C_below XC_y4.out BW.out) (kk : Int) (by omega) hyl
      rw [rd_nat] at p0 p1 p2 p3 p4 p5 p6 r0 r1 r2 r3 r4 r5 r6
      simp only [Int.toNat_natCast] at p0 p1 p2 p3 p4 p5 p6 r0 r1 r2 r3 r4 r5 r6
      generalize hY : y4.getD kk z27 = Y at F3 F4 r0 r1 r2 r3 r4 r5 r6
      generalize hX : x4.getD kk z27 = X at F1 F2 F3 F4 p0 p1 p2 p3 p4 p5 p6
      rw [F4.out] at r1 r2 r3
      rw [F3.out] at r0
      have hfind := fun ww h => tidingsref02_Find.calls 2000 A c l X.f0 z.f0 z.f1.f0 z.f1.f1 z.f1.f2 z.f2 z.f3 z.f4 p ww h HC.out F1.out
      go_wp2_with fail
      refine (hfind _ (Kd.C_below HR.out (below_step HB14.out BW.out))).mono ?_
      rintro ev w15 ⟨rfl, hx15⟩
      clear p0 p1 p2 p3 p4 p5 p6 r0 r1 r2 r3 r4 r5 r6
      go_wp2_with fail
      have CX16 := Aside0.mk (Kd.C_alloc (Kd.C_below (Kd.C_below XC_x4_14.out BW.out) hx15) (.cells #[.int .u8 z.f0, .int .u8 z.f1.f0, .int .u32 z.f1.f1, .int .u32 z.f1.f2, .int .i64 z.f2, .int .u8 z.f3, .int .u32 z.f4] 27))
      have CY16 := Aside0.mk (Kd.C_alloc (Kd.C_below (Kd.C_below XC_y4.out BW.out) hx15) (.cells #[.int .u8 z.f0, .int .u8 z.f1.f0, .int .u32 z.f1.f1, .int .u32 z.f1.f2, .int .i64 z.f2, .int .u8 z.f3, .int .u32 z.f4] 27))
      have BX16 := Aside0.mk (blk_new w15 (.cells #[.int .u8 z.f0, .int .u8 z.f1.f0, .int .u32 z.f1.f1, .int .u32 z.f1.f2, .int .i64 z.f2, .int .u8 z.f3, .int .u32 z.f4] 27))
      have HB16 := Aside0.mk ((BW.out.trans (hx15.mono BW.out.size)).alloc (by have := BW.out.size; have := hx15.size; omega) (.cells #[.int .u8 z.f0, .int .u8 z.f1.f0, .int .u32 z.f1.f1, .int .u32 z.f1.f2, .int .i64 z.f2, .int .u8 z.f3, .int .u32 z.f4] 27))
      generalize w15.alloc (.cells #[.int .u8 z.f0, .int .u8 z.f1.f0, .int .u32 z.f1.f1, .int .u32 z.f1.f2, .int .i64 z.f2, .int .u8 z.f3, .int .u32 z.f4] 27) = w16 at CX16 CY16 BX16 HB16 ⊢
      generalize w15.heap.size = g15 at BX16 ⊢
      clear hx15 BW hfind
      have h0k : (0 : Int) ≤ (kk : Int) := by omega
      cases p
      · clear F2
        refine region_qc (by kernel_rfl) (by kernel_rfl) ?_
        iterate 37 (
          refine @wpQuiet_step _ _ _ _ _ _ _ ?_
          intro K hK
          go_simp
          first
            | (refine hK _ ?_; clear hK K)
            | (apply Exists.intro
               refine ⟨fun w' hw0 => ?_, hK _ ?_⟩
               have hw' := Qc.out hw0
               clear hw0
               (first
                 | (with_reducible rfl)
                 | (obtain ⟨ax2, ex2, p0, p1, p2, p3, p4, p5, p6⟩ := at_T27 (Kd.C_below CX16.out hw') (kk : Int) h0k hltz
                    obtain rfl := Option.some.inj ex2
                    obtain ⟨ay2, ey2, r0, r1, r2, r3, r4, r5, r6⟩ := at_T27 (Kd.C_below CY16.out hw') (kk : Int) h0k hyl
                    obtain rfl := Option.some.inj ey2
                    rw [rd_nat] at p0 p1 p2 p3 p4 p5 p6 r0 r1 r2 r3 r4 r5 r6
                    simp only [Int.toNat_natCast, hX, hY] at p0 p1 p2 p3 p4 p5 p6 r0 r1 r2 r3 r4 r5 r6
                    rw [F4.out] at r1 r2 r3
                    rw [F3.out] at r0
                    obtain ⟨s0, s1, s2, s3, s4, s5, s6⟩ := cells7 (blk_below BX16.out hw')
                    go_simp; with_reducible rfl))
               clear hK K))
        refine wpQuiet_nil ?_
        intro w17 hb17
        have HB17 := Aside0.mk (HB16.out.trans (hb17.mono HB16.out.size))
        clear hb17 HB16
        have hw := wrap64_nat' kk (by omega)
        go_wp2_with fail
        rw [hw]
        clear hw
        go_roundg (x4.length - (kk + 1))
        case measure => omega
        case rel => exact ⟨kk + 1, by omega, Nat.le_refl _, rfl, HB17⟩
      · have F5 := Aside0.mk (F2.out rfl)
        clear F2
        refine region_qc (by kernel_rfl) (by kernel_rfl) ?_
        iterate 37 (
          refine @wpQuiet_step _ _ _ _ _ _ _ ?_
          intro K hK
          go_simp
          first
            | (refine hK _ ?_; clear hK K)
            | (apply Exists.intro
               refine ⟨fun w' hw0 => ?_, hK _ ?_⟩
               have hw' := Qc.out hw0
               clear hw0
               (first
                 | (with_reducible rfl)
                 | (go_at_call 13; (refine (tidingsref02_Less.calls _ _ _ _ _ _ false w' F5.out).mono ?_); rintro e w2 ⟨rfl, hb⟩; exact ⟨rfl, below_step hw' hb⟩)
                 | (obtain ⟨ax2, ex2, p0, p1, p2, p3, p4, p5, p6⟩ := at_T27 (Kd.C_below CX16.out hw') (kk : Int) h0k hltz
                    obtain rfl := Option.some.inj ex2
                    obtain ⟨ay2, ey2, r0, r1, r2, r3, r4, r5, r6⟩ := at_T27 (Kd.C_below CY16.out hw') (kk : Int) h0k hyl
                    obtain rfl := Option.some.inj ey2
                    rw [rd_nat] at p0 p1 p2 p3 p4 p5 p6 r0 r1 r2 r3 r4 r5 r6
                    simp only [Int.toNat_natCast, hX, hY] at p0 p1 p2 p3 p4 p5 p6 r0 r1 r2 r3 r4 r5 r6
                    rw [F4.out] at r1 r2 r3
                    rw [F3.out] at r0
                    obtain ⟨s0, s1, s2, s3, s4, s5, s6⟩ := cells7 (blk_below BX16.out hw')
                    go_simp; with_reducible rfl))
               clear hK K))
        refine wpQuiet_nil ?_
        intro w17 hb17
        have HB17 := Aside0.mk (HB16.out.trans (hb17.mono HB16.out.size))
        clear hb17 HB16
        have hw := wrap64_nat' kk (by omega)
        go_wp2_with fail
        rw [hw]
        clear hw
        go_roundg (x4.length - (kk + 1))
        case measure => omega
        case rel => exact ⟨kk + 1, by omega, Nat.le_refl _, rfl, HB17⟩
    · have hltz : ¬ (kk : Int) < (x4.length : Int) := by omega
      go_wp2_with fail
      go_ret
      exact ⟨rfl, below_step HB14.out BW.out⟩
end Go.Proofs.Ytiminjibcafkaaa.X
