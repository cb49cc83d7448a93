/- tidingslaw06.awake returns true. -/
import Derived.Test.YtiminjibcafkaaaSFXhsourceAnswer
import Derived.Test.YtiminjibcafkaaaSFJ8
import Derived.Test.YtiminjibcafkaaaSFJ25
namespace Go.Proofs.Ytiminjibcafkaaa.X
open Go.RowKit Go.Proofs.YtiminjibcafkaaaW.PrintWords Go.Proofs.YtiminjibcafkaaaW.PrintLast Go.Proofs.YtiminjibcafkaaaW.PrintMore
set_option linter.unusedVariables false
set_option linter.unusedSimpArgs false
theorem one_Run {w : World} {g : Nat} {t : TypeId} (x : S78) (h : w.heap[g]? = some (.cells #[.int .u8 x.f0, .int .u32 x.f1, .int .u32 x.f2] t (0, 0))) : Kd.C k78 w (some ⟨g, 0, none⟩) 1 [x] := by
  refine ⟨rfl, by decide, fun _ => ⟨_, rfl, fun j p hj => ?_⟩⟩
  match j, hj with
  | 0, hj =>
    obtain rfl : x = p := Option.some.inj hj
    refine ⟨_, rfl, k78_mk w x, fun i u hi => ?_⟩
    match i, hi with
    | 0, hi => exact (blk_cell h 0).trans hi
    | 1, hi => exact (blk_cell h 1).trans hi
    | 2, hi => exact (blk_cell h 2).trans hi
theorem one_Entry {w : World} {g : Nat} {t : TypeId} (x : S27) (h : w.heap[g]? = some (.cells #[.int .u8 x.f0, .int .u8 x.f1.f0, .int .u32 x.f1.f1, .int .u32 x.f1.f2, .int .i64 x.f2, .int .u8 x.f3, .int .u32 x.f4] t (0, 0))) : Kd.C k27 w (some ⟨g, 0, none⟩) 1 [x] := by
  refine ⟨rfl, by decide, fun _ => ⟨_, rfl, fun j p hj => ?_⟩⟩
  match j, hj with
  | 0, hj =>
    obtain rfl : x = p := Option.some.inj hj
    refine ⟨_, rfl, k27_mk w x, fun i u hi => ?_⟩
    match i, hi with
    | 0, hi => exact (blk_cell h 0).trans hi
    | 1, hi => exact (blk_cell h 1).trans hi
    | 2, hi => exact (blk_cell h 2).trans hi
    | 3, hi => exact (blk_cell h 3).trans hi
    | 4, hi => exact (blk_cell h 4).trans hi
    | 5, hi => exact (blk_cell h 5).trans hi
    | 6, hi => exact (blk_cell h 6).trans hi
theorem at0_Entry {w : World} {A : Option Addr} {n : Nat} {x : S27} (h : Kd.C k27 w A n [x]) (h1 : 0 < n) : ∃ ad, A = some ad ∧ w.cell? ad = some (.int .u8 x.f0) ∧ w.cell? ⟨ad.block, ad.off + 1, none⟩ = some (.int .u8 x.f1.f0) ∧ w.cell? ⟨ad.block, ad.off + 2, none⟩ = some (.int .u32 x.f1.f1) ∧ w.cell? ⟨ad.block, ad.off + 3, none⟩ = some (.int .u32 x.f1.f2) ∧ w.cell? ⟨ad.block, ad.off + 4, none⟩ = some (.int .i64 x.f2) ∧ w.cell? ⟨ad.block, ad.off + 5, none⟩ = some (.int .u8 x.f3) ∧ w.cell? ⟨ad.block, ad.off + 6, none⟩ = some (.int .u32 x.f4) := by
  obtain ⟨ad, e, p0, p1, p2, p3, p4, p5, p6⟩ := at_T27 h 0 (by decide) (by omega)
  exact ⟨ad, e, p0, p1, p2, p3, p4, p5, p6⟩
theorem none_C {α : Type} (d : Kd α) (w : World) : Kd.C d w none 0 [] := ⟨rfl, by decide, fun h => absurd h (by decide)⟩
theorem awake06_2 : source_Answer.f 20 1 255 0 1 [⟨1, 1, 1⟩] [⟨3, ⟨1, 1, 1⟩, 1, 1, 9⟩] false 0 0 0 0 [] 0 1 2 1 1 0 2 [] 0 [] 0 false [] = some (2, 1, 2, 1, 0, 0, [], 0, [⟨3, ⟨1, 1, 1⟩, 1, 1, 9⟩], 4, true, [⟨1, 1, 1⟩], none) := by kernel_rfl
theorem awake06_1 : source_Answer.f 20 1 255 0 1 [⟨1, 1, 1⟩] [⟨3, ⟨1, 1, 1⟩, 1, 1, 9⟩] false 0 0 0 0 [] 0 1 2 1 1 0 1 [] 0 [] 0 false [] = some (2, 1, 2, 1, 0, 0, [], 0, [⟨3, ⟨1, 1, 1⟩, 2, 1, 0⟩], 4, true, [⟨1, 1, 1⟩], none) := by kernel_rfl
attribute [local go_sem high] eqA27
set_option maxRecDepth 100000 in
set_option maxHeartbeats 4000000 in
theorem awake06_calls (w : World) : Calls Try.prog 24 #[] w fun e w' => e = .returned (.bool true) ∧ Below w.heap.size w w' := by
  have huR := Try.underlying51
  have huN := Try.underlying53
  have huE := Try.underlying27
  have huV := Try.underlying25
  have huU := Try.underlying78
  go_enter Try.func24, Try.ntmps24
  go_wp2_with fail
  have E0 := Aside0.mk (blk_new w (.cells #[.int .u8 3, .int .u8 1, .int .u32 1, .int .u32 1, .int .i64 1, .int .u8 1, .int .u32 9] 27))
  have HB0 := Aside0.mk ((Below.refl _ w).alloc (Nat.le_refl _) (.cells #[.int .u8 3, .int .u8 1, .int .u32 1, .int .u32 1, .int .i64 1, .int .u8 1, .int .u32 9] 27))
  generalize ew0 : w.alloc (.cells #[.int .u8 3, .int .u8 1, .int .u32 1, .int .u32 1, .int .i64 1, .int .u8 1, .int .u32 9] 27) = w0 at E0 HB0 ⊢
  have z0 : w0.heap.size = w.heap.size + 1 := by rw [← ew0]; simp
  have E1 := Aside0.mk (blk_alloc E0.out (.cells #[.int .u8 1, .int .u32 1, .int .u32 1] 78))
  have U1 := Aside0.mk (blk_new w0 (.cells #[.int .u8 1, .int .u32 1, .int .u32 1] 78))
  have HB1 := Aside0.mk (HB0.out.alloc HB0.out.size (.cells #[.int .u8 1, .int .u32 1, .int .u32 1] 78))
  rw [z0] at U1
  generalize ew1 : w0.alloc (.cells #[.int .u8 1, .int .u32 1, .int .u32 1] 78) = w1 at E1 U1 HB1 ⊢
  have z1 : w1.heap.size = w.heap.size + 1 + 1 := by rw [← ew1]; simp [z0]
  have E2 := Aside0.mk (blk_alloc E1.out (.cells #[.int .u8 3, .int .u8 1, .int .u32 1, .int .u32 1, .int .i64 1, .int .u8 1, .int .u32 9] 27))
  have U2 := Aside0.mk (blk_alloc U1.out (.cells #[.int .u8 3, .int .u8 1, .int .u32 1, .int .u32 1, .int .i64 1, .int .u8 1, .int .u32 9] 27))
  have H2 := Aside0.mk (blk_new w1 (.cells #[.int .u8 3, .int .u8 1, .int .u32 1, .int .u32 1, .int .i64 1, .int .u8 1, .int .u32 9] 27))
  have HB2 := Aside0.mk (HB1.out.alloc HB1.out.size (.cells #[.int .u8 3, .int .u8 1, .int .u32 1, .int .u32 1, .int .i64 1, .int .u8 1, .int .u32 9] 27))
  rw [z1] at H2
  generalize ew2 : w1.alloc (.cells #[.int .u8 3, .int .u8 1, .int .u32 1, .int .u32 1, .int .i64 1, .int .u8 1, .int .u32 9] 27) = w2 at E2 U2 H2 HB2 ⊢
  have z2 : w2.heap.size = w.heap.size + 1 + 1 + 1 := by rw [← ew2]; simp [z1]
  have E3 := Aside0.mk (blk_alloc E2.out (.cells #[.int .u8 1, .int .u8 255, .int .u32 0, .int .u32 1, .slice (some ⟨w.heap.size + 1, 0, none⟩) 1 1, .slice (some ⟨w.heap.size + 1 + 1, 0, none⟩) 1 1, .bool false, .int .u32 0, .int .u8 0, .int .u8 0, .int .u32 0, .slice none 0 0, .int .u32 0] 51))
  have U3 := Aside0.mk (blk_alloc U2.out (.cells #[.int .u8 1, .int .u8 255, .int .u32 0, .int .u32 1, .slice (some ⟨w.heap.size + 1, 0, none⟩) 1 1, .slice (some ⟨w.heap.size + 1 + 1, 0, none⟩) 1 1, .bool false, .int .u32 0, .int .u8 0, .int .u8 0, .int .u32 0, .slice none 0 0, .int .u32 0] 51))
  have H3 := Aside0.mk (blk_alloc H2.out (.cells #[.int .u8 1, .int .u8 255, .int .u32 0, .int .u32 1, .slice (some ⟨w.heap.size + 1, 0, none⟩) 1 1, .slice (some ⟨w.heap.size + 1 + 1, 0, none⟩) 1 1, .bool false, .int .u32 0, .int .u8 0, .int .u8 0, .int .u32 0, .slice none 0 0, .int .u32 0] 51))
  have R3 := Aside0.mk (blk_new w2 (.cells #[.int .u8 1, .int .u8 255, .int .u32 0, .int .u32 1, .slice (some ⟨w.heap.size + 1, 0, none⟩) 1 1, .slice (some ⟨w.heap.size + 1 + 1, 0, none⟩) 1 1, .bool false, .int .u32 0, .int .u8 0, .int .u8 0, .int .u32 0, .slice none 0 0, .int .u32 0] 51))
  have HB3 := Aside0.mk (HB2.out.alloc HB2.out.size (.cells #[.int .u8 1, .int .u8 255, .int .u32 0, .int .u32 1, .slice (some ⟨w.heap.size + 1, 0, none⟩) 1 1, .slice (some ⟨w.heap.size + 1 + 1, 0, none⟩) 1 1, .bool false, .int .u32 0, .int .u8 0, .int .u8 0, .int .u32 0, .slice none 0 0, .int .u32 0] 51))
  rw [z2] at R3
  generalize ew3 : w2.alloc (.cells #[.int .u8 1, .int .u8 255, .int .u32 0, .int .u32 1, .slice (some ⟨w.heap.size + 1, 0, none⟩) 1 1, .slice (some ⟨w.heap.size + 1 + 1, 0, none⟩) 1 1, .bool false, .int .u32 0, .int .u8 0, .int .u8 0, .int .u32 0, .slice none 0 0, .int .u32 0] 51) = w3 at E3 U3 H3 R3 HB3 ⊢
  clear ew0 ew1 ew2 ew3 z0 z1 z2 E0 E1 U1 E2 U2 H2 HB0 HB1 HB2
  refine (source_Answer.calls 20 1 255 0 1 (some ⟨w.heap.size + 1, 0, none⟩) 1 [⟨1, 1, 1⟩] (some ⟨w.heap.size + 1 + 1, 0, none⟩) 1 [⟨3, ⟨1, 1, 1⟩, 1, 1, 9⟩] false 0 0 0 0 none 0 [] 0 1 2 1 1 0 2 none 0 [] 0 none 0 [] 0 false none 0 [] _ _ _ _ _ _ _ _ _ _ _ _ _ w3 (one_Run ⟨1, 1, 1⟩ U3.out) (Nat.le_refl _) (one_Entry ⟨3, ⟨1, 1, 1⟩, 1, 1, 9⟩ H3.out) (Nat.le_refl _) (none_C _ _) (Nat.le_refl _) (none_C _ _) (Nat.le_refl _) (none_C _ _) (Nat.le_refl _) (none_C _ _) (Nat.le_refl _) awake06_2).mono ?_
  rintro ev w4 ⟨v6, v8, v11, rfl, hR6, hR8, hR11, hx⟩
  obtain ⟨A6, c6, rfl, hc6, hC6⟩ := Kd.R_reads hR6
  obtain ⟨A8, c8, rfl, hc8, hC8⟩ := Kd.R_reads hR8
  obtain ⟨A11, c11, rfl, hc11, hC11⟩ := Kd.R_reads hR11
  have E4 := Aside0.mk (blk_below E3.out hx)
  have U4 := Aside0.mk (blk_below U3.out hx)
  have H4 := Aside0.mk (blk_below H3.out hx)
  have R4 := Aside0.mk (blk_below R3.out hx)
  have HB4 := Aside0.mk (below_step HB3.out hx)
  have C4 := Aside0.mk hC8
  clear hx hR6 hR8 hR11 hC6 hC8 hC11 hc6 hc11 E3 U3 H3 R3 HB3
  have E5 := Aside0.mk (blk_alloc E4.out ((.cells #[.int .i64 2, .int .u8 1, .int .u8 2, .int .u32 1, .int .u8 0, .int .u8 0, .slice A6 0 c6, .int .u32 0, .slice A8 1 c8, .int .u8 4, .bool true, .slice A11 1 c11] 53)))
  have U5 := Aside0.mk (blk_alloc U4.out ((.cells #[.int .i64 2, .int .u8 1, .int .u8 2, .int .u32 1, .int .u8 0, .int .u8 0, .slice A6 0 c6, .int .u32 0, .slice A8 1 c8, .int .u8 4, .bool true, .slice A11 1 c11] 53)))
  have H5 := Aside0.mk (blk_alloc H4.out ((.cells #[.int .i64 2, .int .u8 1, .int .u8 2, .int .u32 1, .int .u8 0, .int .u8 0, .slice A6 0 c6, .int .u32 0, .slice A8 1 c8, .int .u8 4, .bool true, .slice A11 1 c11] 53)))
  have R5 := Aside0.mk (blk_alloc R4.out ((.cells #[.int .i64 2, .int .u8 1, .int .u8 2, .int .u32 1, .int .u8 0, .int .u8 0, .slice A6 0 c6, .int .u32 0, .slice A8 1 c8, .int .u8 4, .bool true, .slice A11 1 c11] 53)))
  have N5 := Aside0.mk (blk_new w4 ((.cells #[.int .i64 2, .int .u8 1, .int .u8 2, .int .u32 1, .int .u8 0, .int .u8 0, .slice A6 0 c6, .int .u32 0, .slice A8 1 c8, .int .u8 4, .bool true, .slice A11 1 c11] 53)))
  have HB5 := Aside0.mk (HB4.out.alloc HB4.out.size ((.cells #[.int .i64 2, .int .u8 1, .int .u8 2, .int .u32 1, .int .u8 0, .int .u8 0, .slice A6 0 c6, .int .u32 0, .slice A8 1 c8, .int .u8 4, .bool true, .slice A11 1 c11] 53)))
  have C5 := Aside0.mk (Kd.C_below C4.out ((Below.refl _ w4).alloc (Nat.le_refl _) ((.cells #[.int .i64 2, .int .u8 1, .int .u8 2, .int .u32 1, .int .u8 0, .int .u8 0, .slice A6 0 c6, .int .u32 0, .slice A8 1 c8, .int .u8 4, .bool true, .slice A11 1 c11] 53))))
  obtain ⟨q0, q1, q2, q3, q4, q5, q6, q7, q8, q9, q10, q11, q12⟩ := cells13 R5.out
  go_wp2_with fail
  have eN := errW_none
  clear q0 q1 q2 q3 q4 q5 q6 q7 q8 q9 q10 q11 q12
  generalize w4.alloc (.cells #[.int .i64 2, .int .u8 1, .int .u8 2, .int .u32 1, .int .u8 0, .int .u8 0, .slice A6 0 c6, .int .u32 0, .slice A8 1 c8, .int .u8 4, .bool true, .slice A11 1 c11] 53) = w5 at E5 U5 H5 R5 N5 HB5 C5 ⊢
  generalize w4.heap.size = g5 at N5 ⊢
  clear E4 U4 H4 R4 HB4 C4
  refine (source_Answer.calls 20 1 255 0 1 (some ⟨w.heap.size + 1, 0, none⟩) 1 [⟨1, 1, 1⟩] (some ⟨w.heap.size + 1 + 1, 0, none⟩) 1 [⟨3, ⟨1, 1, 1⟩, 1, 1, 9⟩] false 0 0 0 0 none 0 [] 0 1 2 1 1 0 1 none 0 [] 0 none 0 [] 0 false none 0 [] _ _ _ _ _ _ _ _ _ _ _ _ _ w5 (one_Run ⟨1, 1, 1⟩ U5.out) (Nat.le_refl _) (one_Entry ⟨3, ⟨1, 1, 1⟩, 1, 1, 9⟩ H5.out) (Nat.le_refl _) (none_C _ _) (Nat.le_refl _) (none_C _ _) (Nat.le_refl _) (none_C _ _) (Nat.le_refl _) (none_C _ _) (Nat.le_refl _) awake06_1).mono ?_
  rintro ev w6 ⟨v6, v8, v11, rfl, hR6, hR8, hR11, hx⟩
  obtain ⟨M6, d6, rfl, hc6, hC6⟩ := Kd.R_reads hR6
  obtain ⟨M8, d8, rfl, hd8, hC8⟩ := Kd.R_reads hR8
  obtain ⟨M11, d11, rfl, hc11, hC11⟩ := Kd.R_reads hR11
  have E6 := Aside0.mk (blk_below E5.out hx)
  have N6 := Aside0.mk (blk_below N5.out hx)
  have HB6 := Aside0.mk (below_step HB5.out hx)
  have C6 := Aside0.mk (Kd.C_below C5.out hx)
  have D6 := Aside0.mk hC8
  clear hx hR6 hR8 hR11 hC6 hC8 hC11 hc6 hc11 E5 U5 H5 R5 N5 HB5 C5
  have E7 := Aside0.mk (blk_alloc E6.out ((.cells #[.int .i64 2, .int .u8 1, .int .u8 2, .int .u32 1, .int .u8 0, .int .u8 0, .slice M6 0 d6, .int .u32 0, .slice M8 1 d8, .int .u8 4, .bool true, .slice M11 1 d11] 53)))
  have N7 := Aside0.mk (blk_alloc N6.out ((.cells #[.int .i64 2, .int .u8 1, .int .u8 2, .int .u32 1, .int .u8 0, .int .u8 0, .slice M6 0 d6, .int .u32 0, .slice M8 1 d8, .int .u8 4, .bool true, .slice M11 1 d11] 53)))
  have M7 := Aside0.mk (blk_new w6 ((.cells #[.int .i64 2, .int .u8 1, .int .u8 2, .int .u32 1, .int .u8 0, .int .u8 0, .slice M6 0 d6, .int .u32 0, .slice M8 1 d8, .int .u8 4, .bool true, .slice M11 1 d11] 53)))
  have HB7 := Aside0.mk (HB6.out.alloc HB6.out.size ((.cells #[.int .i64 2, .int .u8 1, .int .u8 2, .int .u32 1, .int .u8 0, .int .u8 0, .slice M6 0 d6, .int .u32 0, .slice M8 1 d8, .int .u8 4, .bool true, .slice M11 1 d11] 53)))
  have C7 := Aside0.mk (Kd.C_below C6.out ((Below.refl _ w6).alloc (Nat.le_refl _) ((.cells #[.int .i64 2, .int .u8 1, .int .u8 2, .int .u32 1, .int .u8 0, .int .u8 0, .slice M6 0 d6, .int .u32 0, .slice M8 1 d8, .int .u8 4, .bool true, .slice M11 1 d11] 53))))
  have D7 := Aside0.mk (Kd.C_below D6.out ((Below.refl _ w6).alloc (Nat.le_refl _) ((.cells #[.int .i64 2, .int .u8 1, .int .u8 2, .int .u32 1, .int .u8 0, .int .u8 0, .slice M6 0 d6, .int .u32 0, .slice M8 1 d8, .int .u8 4, .bool true, .slice M11 1 d11] 53))))
  go_wp2_with fail
  generalize w6.alloc (.cells #[.int .i64 2, .int .u8 1, .int .u8 2, .int .u32 1, .int .u8 0, .int .u8 0, .slice M6 0 d6, .int .u32 0, .slice M8 1 d8, .int .u8 4, .bool true, .slice M11 1 d11] 53) = w7 at E7 N7 M7 HB7 C7 D7 ⊢
  generalize w6.heap.size = g7 at M7 ⊢
  clear E6 N6 HB6 C6 D6
  obtain ⟨ax, rfl, _⟩ := at0_Entry C7.out (by decide)
  obtain ⟨bx, rfl, _⟩ := at0_Entry D7.out (by decide)
  refine region_qc (by kernel_rfl) (by kernel_rfl) ?_
  iterate 47 (
    refine @wpQuiet_step _ _ _ _ _ _ _ ?_
    intro K hK
    go_simp
    first
      | (refine hK _ ?_; clear hK K)
      | (apply Exists.intro
         refine ⟨fun w' hw0 => ?_, hK _ ?_⟩
         have hw' := Qc.out hw0
         clear hw0
         (first
           | (with_reducible rfl)
           | (obtain ⟨q0, q1, q2, q3, q4, q5, q6, q7, q8, q9, q10, q11⟩ := cells12 (blk_below N7.out hw')
              go_simp; with_reducible rfl)
           | (obtain ⟨q0, q1, q2, q3, q4, q5, q6, q7, q8, q9, q10, q11⟩ := cells12 (blk_below M7.out hw')
              go_simp; with_reducible rfl)
           | (obtain ⟨s0, s1, s2, s3, s4, s5, s6⟩ := cells7 (blk_below E7.out hw')
              go_simp; with_reducible rfl)
           | (obtain ⟨ax', e, p0, p1, p2, p3, p4, p5, p6⟩ := at0_Entry (Kd.C_below C7.out hw') (by decide)
              obtain rfl := Option.some.inj e
              go_simp; with_reducible rfl)
           | (obtain ⟨ax', e, p0, p1, p2, p3, p4, p5, p6⟩ := at0_Entry (Kd.C_below D7.out hw') (by decide)
              obtain rfl := Option.some.inj e
              go_simp; with_reducible rfl))
         clear hK K))
  refine wpQuiet_nil ?_
  intro w11 hb11
  have HB11 := Aside0.mk (below_step HB7.out hb11)
  go_wp2_with fail
  go_ret
  exact ⟨rfl, HB11.out⟩
end Go.Proofs.Ytiminjibcafkaaa.X
