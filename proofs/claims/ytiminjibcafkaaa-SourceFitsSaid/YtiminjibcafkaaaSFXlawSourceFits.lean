/- The law SourceFits at every input. -/
import Derived.Test.YtiminjibcafkaaaSFXhsourceAnswer
import Derived.Test.YtiminjibcafkaaaSFJ31
import Derived.Test.YtiminjibcafkaaaSFX19
import Derived.Test.YtiminjibcafkaaaSFX22
import Derived.Test.YtiminjibcafkaaaSFJ14
import Derived.Test.YtiminjibcafkaaaSFJ25
import Derived.Test.YtiminjibcafkaaaSFX0
import Derived.Test.YtiminjibcafkaaaSFXawake06
import Derived.Test.YtiminjibcafkaaaSFXop
import Derived.Test.YtiminjibcafkaaaSFJ40
namespace Go.Proofs.Ytiminjibcafkaaa.X
open Go.RowKit Go.Proofs.YtiminjibcafkaaaW.PrintWords Go.Proofs.YtiminjibcafkaaaW.PrintLast Go.Proofs.YtiminjibcafkaaaW.PrintMore
set_option linter.unusedVariables false
set_option linter.unusedSimpArgs false
set_option maxRecDepth 100000 in
set_option maxHeartbeats 8000000 in
theorem SourceFits_long (a0 a1 a2 a3 : Int) (l4 : List S78) (l5 : List S27) (a6 : Bool) (a7 a8 a9 a10 : Int) (l11 : List S78) (a12 : Int) (A4 A5 A11 : Option Addr) (c4 c5 c11 : Nat) (b0 b1 b2 b3 b4 b5 : Int) (m6 : List S78) (b7 : Int) (m8 : List S27) (b9 : Int) (b10 : Bool) (m11 : List S78) (M6 M8 M11 : Option Addr) (d6 d8 d11 : Nat) (w : World) (r4 : Kd.C k78 w A4 l4.length l4) (i4 : l4.length ≤ c4) (r5 : Kd.C k27 w A5 l5.length l5) (i5 : l5.length ≤ c5) (r11 : Kd.C k78 w A11 l11.length l11) (i11 : l11.length ≤ c11) (n6 : Kd.C k78 w M6 m6.length m6) (j6 : m6.length ≤ d6) (n8 : Kd.C k27 w M8 m8.length m8) (j8 : m8.length ≤ d8) (n11 : Kd.C k78 w M11 m11.length m11) (j11 : m11.length ≤ d11) (H5 : tidingsref05_Short.f a0 a1 a2 a3 l4 l5 a6 a7 a8 a9 a10 l11 a12 = some false) : Calls Try.prog 6 #[.agg #[.int .u8 a0, .int .u8 a1, .int .u32 a2, .int .u32 a3, .slice A4 l4.length c4, .slice A5 l5.length c5, .bool a6, .int .u32 a7, .int .u8 a8, .int .u8 a9, .int .u32 a10, .slice A11 l11.length c11, .int .u32 a12], .agg #[.int .i64 b0, .int .u8 b1, .int .u8 b2, .int .u32 b3, .int .u8 b4, .int .u8 b5, .slice M6 m6.length d6, .int .u32 b7, .slice M8 m8.length d8, .int .u8 b9, .bool b10, .slice M11 m11.length d11]] w fun e w' => e = .returned (.bool true) ∧ Below w.heap.size w w' := by
  have R4 := Aside0.mk r4
  have I4 := Aside0.mk i4
  have R5 := Aside0.mk r5
  have I5 := Aside0.mk i5
  have R11 := Aside0.mk r11
  have I11 := Aside0.mk i11
  have N6 := Aside0.mk n6
  have J6 := Aside0.mk j6
  have N8 := Aside0.mk n8
  have J8 := Aside0.mk j8
  have N11 := Aside0.mk n11
  have J11 := Aside0.mk j11
  clear r4 i4 r5 i5 r11 i11 n6 j6 n8 j8 n11 j11
  have huR := Try.underlying51
  have huN := Try.underlying53
  have huE := Try.underlying27
  have huV := Try.underlying25
  have hu34 := Try.underlying34
  have eN := errW_none
  have eS := errW_some
  go_enter Try.func6, Try.ntmps6
  go_wp2_with fail
  have B0 := Aside0.mk (blk_alloc (blk_new w (.cells #[.int .u8 a0, .int .u8 a1, .int .u32 a2, .int .u32 a3, .slice A4 l4.length c4, .slice A5 l5.length c5, .bool a6, .int .u32 a7, .int .u8 a8, .int .u8 a9, .int .u32 a10, .slice A11 l11.length c11, .int .u32 a12] 51)) (.cells #[.int .i64 b0, .int .u8 b1, .int .u8 b2, .int .u32 b3, .int .u8 b4, .int .u8 b5, .slice M6 m6.length d6, .int .u32 b7, .slice M8 m8.length d8, .int .u8 b9, .bool b10, .slice M11 m11.length d11] 53))
  have P0 := Aside0.mk (show ((w.alloc (.cells #[.int .u8 a0, .int .u8 a1, .int .u32 a2, .int .u32 a3, .slice A4 l4.length c4, .slice A5 l5.length c5, .bool a6, .int .u32 a7, .int .u8 a8, .int .u8 a9, .int .u32 a10, .slice A11 l11.length c11, .int .u32 a12] 51)).alloc (.cells #[.int .i64 b0, .int .u8 b1, .int .u8 b2, .int .u32 b3, .int .u8 b4, .int .u8 b5, .slice M6 m6.length d6, .int .u32 b7, .slice M8 m8.length d8, .int .u8 b9, .bool b10, .slice M11 m11.length d11] 53)).heap[w.heap.size + 1]? = some (.cells #[.int .i64 b0, .int .u8 b1, .int .u8 b2, .int .u32 b3, .int .u8 b4, .int .u8 b5, .slice M6 m6.length d6, .int .u32 b7, .slice M8 m8.length d8, .int .u8 b9, .bool b10, .slice M11 m11.length d11] 53 (0, 0)) by simpa using blk_new (w.alloc (.cells #[.int .u8 a0, .int .u8 a1, .int .u32 a2, .int .u32 a3, .slice A4 l4.length c4, .slice A5 l5.length c5, .bool a6, .int .u32 a7, .int .u8 a8, .int .u8 a9, .int .u32 a10, .slice A11 l11.length c11, .int .u32 a12] 51)) (.cells #[.int .i64 b0, .int .u8 b1, .int .u8 b2, .int .u32 b3, .int .u8 b4, .int .u8 b5, .slice M6 m6.length d6, .int .u32 b7, .slice M8 m8.length d8, .int .u8 b9, .bool b10, .slice M11 m11.length d11] 53))
  have HB0 := Aside0.mk (((Below.refl _ w).alloc (Nat.le_refl _) (.cells #[.int .u8 a0, .int .u8 a1, .int .u32 a2, .int .u32 a3, .slice A4 l4.length c4, .slice A5 l5.length c5, .bool a6, .int .u32 a7, .int .u8 a8, .int .u8 a9, .int .u32 a10, .slice A11 l11.length c11, .int .u32 a12] 51)).alloc (by simp) (.cells #[.int .i64 b0, .int .u8 b1, .int .u8 b2, .int .u32 b3, .int .u8 b4, .int .u8 b5, .slice M6 m6.length d6, .int .u32 b7, .slice M8 m8.length d8, .int .u8 b9, .bool b10, .slice M11 m11.length d11] 53))
  generalize (w.alloc (.cells #[.int .u8 a0, .int .u8 a1, .int .u32 a2, .int .u32 a3, .slice A4 l4.length c4, .slice A5 l5.length c5, .bool a6, .int .u32 a7, .int .u8 a8, .int .u8 a9, .int .u32 a10, .slice A11 l11.length c11, .int .u32 a12] 51)).alloc (.cells #[.int .i64 b0, .int .u8 b1, .int .u8 b2, .int .u32 b3, .int .u8 b4, .int .u8 b5, .slice M6 m6.length d6, .int .u32 b7, .slice M8 m8.length d8, .int .u8 b9, .bool b10, .slice M11 m11.length d11] 53) = w0 at B0 P0 HB0 ⊢
  refine (awake06_calls _).mono ?_
  rintro ev w1 ⟨rfl, hx⟩
  have B1 := Aside0.mk (blk_below B0.out hx)
  have P1 := Aside0.mk (blk_below P0.out hx)
  have HB1 := Aside0.mk (below_step HB0.out hx)
  clear hx B0 P0 HB0
  obtain ⟨q0, q1, q2, q3, q4, q5, q6, q7, q8, q9, q10, q11, q12⟩ := cells13 B1.out
  obtain ⟨s0, s1, s2, s3, s4, s5, s6, s7, s8, s9, s10, s11⟩ := cells12 P1.out
  go_wp2_with fail
  refine (tidingsref05_Short.calls a0 a1 a2 a3 _ _ l4 _ _ l5 a6 a7 a8 a9 a10 _ _ l11 a12 false _ (Kd.C_below R4.out HB1.out) I4.out (Kd.C_below R5.out HB1.out) I5.out (Kd.C_below R11.out HB1.out) I11.out H5).mono ?_
  rintro ev w2 ⟨rfl, hx⟩
  have B2 := Aside0.mk (blk_below B1.out hx)
  have P2 := Aside0.mk (blk_below P1.out hx)
  have HB2 := Aside0.mk (below_step HB1.out hx)
  clear hx B1 P1 HB1
  clear q0 q1 q2 q3 q4 q5 q6 q7 q8 q9 q10 q11 q12 s0 s1 s2 s3 s4 s5 s6 s7 s8 s9 s10 s11
  obtain ⟨q0, q1, q2, q3, q4, q5, q6, q7, q8, q9, q10, q11, q12⟩ := cells13 B2.out
  obtain ⟨s0, s1, s2, s3, s4, s5, s6, s7, s8, s9, s10, s11⟩ := cells12 P2.out
  go_wp2_with fail
  go_ret
  exact ⟨rfl, HB2.out⟩
set_option maxRecDepth 100000 in
set_option maxHeartbeats 8000000 in
theorem SourceFits_long2 (a0 a1 a2 a3 : Int) (l4 : List S78) (l5 : List S27) (a6 : Bool) (a7 a8 a9 a10 : Int) (l11 : List S78) (a12 : Int) (A4 A5 A11 : Option Addr) (c4 c5 c11 : Nat) (b0 b1 b2 b3 b4 b5 : Int) (m6 : List S78) (b7 : Int) (m8 : List S27) (b9 : Int) (b10 : Bool) (m11 : List S78) (M6 M8 M11 : Option Addr) (d6 d8 d11 : Nat) (w : World) (r4 : Kd.C k78 w A4 l4.length l4) (i4 : l4.length ≤ c4) (r5 : Kd.C k27 w A5 l5.length l5) (i5 : l5.length ≤ c5) (r11 : Kd.C k78 w A11 l11.length l11) (i11 : l11.length ≤ c11) (n6 : Kd.C k78 w M6 m6.length m6) (j6 : m6.length ≤ d6) (n8 : Kd.C k27 w M8 m8.length m8) (j8 : m8.length ≤ d8) (n11 : Kd.C k78 w M11 m11.length m11) (j11 : m11.length ≤ d11) (H5 : tidingsref05_Short.f a0 a1 a2 a3 l4 l5 a6 a7 a8 a9 a10 l11 a12 = some true) (H4 : tidingsref04_Short.f b0 b1 b2 b3 b4 b5 m6 b7 m8 b9 b10 m11 = some false) : Calls Try.prog 6 #[.agg #[.int .u8 a0, .int .u8 a1, .int .u32 a2, .int .u32 a3, .slice A4 l4.length c4, .slice A5 l5.length c5, .bool a6, .int .u32 a7, .int .u8 a8, .int .u8 a9, .int .u32 a10, .slice A11 l11.length c11, .int .u32 a12], .agg #[.int .i64 b0, .int .u8 b1, .int .u8 b2, .int .u32 b3, .int .u8 b4, .int .u8 b5, .slice M6 m6.length d6, .int .u32 b7, .slice M8 m8.length d8, .int .u8 b9, .bool b10, .slice M11 m11.length d11]] w fun e w' => e = .returned (.bool true) ∧ Below w.heap.size w w' := by
  have R4 := Aside0.mk r4
  have I4 := Aside0.mk i4
  have R5 := Aside0.mk r5
  have I5 := Aside0.mk i5
  have R11 := Aside0.mk r11
  have I11 := Aside0.mk i11
  have N6 := Aside0.mk n6
  have J6 := Aside0.mk j6
  have N8 := Aside0.mk n8
  have J8 := Aside0.mk j8
  have N11 := Aside0.mk n11
  have J11 := Aside0.mk j11
  clear r4 i4 r5 i5 r11 i11 n6 j6 n8 j8 n11 j11
  have huR := Try.underlying51
  have huN := Try.underlying53
  have huE := Try.underlying27
  have huV := Try.underlying25
  have hu34 := Try.underlying34
  have eN := errW_none
  have eS := errW_some
  go_enter Try.func6, Try.ntmps6
  go_wp2_with fail
  have B0 := Aside0.mk (blk_alloc (blk_new w (.cells #[.int .u8 a0, .int .u8 a1, .int .u32 a2, .int .u32 a3, .slice A4 l4.length c4, .slice A5 l5.length c5, .bool a6, .int .u32 a7, .int .u8 a8, .int .u8 a9, .int .u32 a10, .slice A11 l11.length c11, .int .u32 a12] 51)) (.cells #[.int .i64 b0, .int .u8 b1, .int .u8 b2, .int .u32 b3, .int .u8 b4, .int .u8 b5, .slice M6 m6.length d6, .int .u32 b7, .slice M8 m8.length d8, .int .u8 b9, .bool b10, .slice M11 m11.length d11] 53))
  have P0 := Aside0.mk (show ((w.alloc (.cells #[.int .u8 a0, .int .u8 a1, .int .u32 a2, .int .u32 a3, .slice A4 l4.length c4, .slice A5 l5.length c5, .bool a6, .int .u32 a7, .int .u8 a8, .int .u8 a9, .int .u32 a10, .slice A11 l11.length c11, .int .u32 a12] 51)).alloc (.cells #[.int .i64 b0, .int .u8 b1, .int .u8 b2, .int .u32 b3, .int .u8 b4, .int .u8 b5, .slice M6 m6.length d6, .int .u32 b7, .slice M8 m8.length d8, .int .u8 b9, .bool b10, .slice M11 m11.length d11] 53)).heap[w.heap.size + 1]? = some (.cells #[.int .i64 b0, .int .u8 b1, .int .u8 b2, .int .u32 b3, .int .u8 b4, .int .u8 b5, .slice M6 m6.length d6, .int .u32 b7, .slice M8 m8.length d8, .int .u8 b9, .bool b10, .slice M11 m11.length d11] 53 (0, 0)) by simpa using blk_new (w.alloc (.cells #[.int .u8 a0, .int .u8 a1, .int .u32 a2, .int .u32 a3, .slice A4 l4.length c4, .slice A5 l5.length c5, .bool a6, .int .u32 a7, .int .u8 a8, .int .u8 a9, .int .u32 a10, .slice A11 l11.length c11, .int .u32 a12] 51)) (.cells #[.int .i64 b0, .int .u8 b1, .int .u8 b2, .int .u32 b3, .int .u8 b4, .int .u8 b5, .slice M6 m6.length d6, .int .u32 b7, .slice M8 m8.length d8, .int .u8 b9, .bool b10, .slice M11 m11.length d11] 53))
  have HB0 := Aside0.mk (((Below.refl _ w).alloc (Nat.le_refl _) (.cells #[.int .u8 a0, .int .u8 a1, .int .u32 a2, .int .u32 a3, .slice A4 l4.length c4, .slice A5 l5.length c5, .bool a6, .int .u32 a7, .int .u8 a8, .int .u8 a9, .int .u32 a10, .slice A11 l11.length c11, .int .u32 a12] 51)).alloc (by simp) (.cells #[.int .i64 b0, .int .u8 b1, .int .u8 b2, .int .u32 b3, .int .u8 b4, .int .u8 b5, .slice M6 m6.length d6, .int .u32 b7, .slice M8 m8.length d8, .int .u8 b9, .bool b10, .slice M11 m11.length d11] 53))
  generalize (w.alloc (.cells #[.int .u8 a0, .int .u8 a1, .int .u32 a2, .int .u32 a3, .slice A4 l4.length c4, .slice A5 l5.length c5, .bool a6, .int .u32 a7, .int .u8 a8, .int .u8 a9, .int .u32 a10, .slice A11 l11.length c11, .int .u32 a12] 51)).alloc (.cells #[.int .i64 b0, .int .u8 b1, .int .u8 b2, .int .u32 b3, .int .u8 b4, .int .u8 b5, .slice M6 m6.length d6, .int .u32 b7, .slice M8 m8.length d8, .int .u8 b9, .bool b10, .slice M11 m11.length d11] 53) = w0 at B0 P0 HB0 ⊢
  refine (awake06_calls _).mono ?_
  rintro ev w1 ⟨rfl, hx⟩
  have B1 := Aside0.mk (blk_below B0.out hx)
  have P1 := Aside0.mk (blk_below P0.out hx)
  have HB1 := Aside0.mk (below_step HB0.out hx)
  clear hx B0 P0 HB0
  obtain ⟨q0, q1, q2, q3, q4, q5, q6, q7, q8, q9, q10, q11, q12⟩ := cells13 B1.out
  obtain ⟨s0, s1, s2, s3, s4, s5, s6, s7, s8, s9, s10, s11⟩ := cells12 P1.out
  go_wp2_with fail
  refine (tidingsref05_Short.calls a0 a1 a2 a3 _ _ l4 _ _ l5 a6 a7 a8 a9 a10 _ _ l11 a12 true _ (Kd.C_below R4.out HB1.out) I4.out (Kd.C_below R5.out HB1.out) I5.out (Kd.C_below R11.out HB1.out) I11.out H5).mono ?_
  rintro ev w2 ⟨rfl, hx⟩
  have B2 := Aside0.mk (blk_below B1.out hx)
  have P2 := Aside0.mk (blk_below P1.out hx)
  have HB2 := Aside0.mk (below_step HB1.out hx)
  clear hx B1 P1 HB1
  clear q0 q1 q2 q3 q4 q5 q6 q7 q8 q9 q10 q11 q12 s0 s1 s2 s3 s4 s5 s6 s7 s8 s9 s10 s11
  obtain ⟨q0, q1, q2, q3, q4, q5, q6, q7, q8, q9, q10, q11, q12⟩ := cells13 B2.out
  obtain ⟨s0, s1, s2, s3, s4, s5, s6, s7, s8, s9, s10, s11⟩ := cells12 P2.out
  go_wp2_with fail
  refine (tidingsref04_Short.calls b0 b1 b2 b3 b4 b5 _ _ m6 b7 _ _ m8 b9 b10 _ _ m11 false _ (Kd.C_below N6.out HB2.out) J6.out (Kd.C_below N8.out HB2.out) J8.out (Kd.C_below N11.out HB2.out) J11.out H4).mono ?_
  rintro ev w3 ⟨rfl, hx⟩
  have B3 := Aside0.mk (blk_below B2.out hx)
  have P3 := Aside0.mk (blk_below P2.out hx)
  have HB3 := Aside0.mk (below_step HB2.out hx)
  clear hx B2 P2 HB2
  clear q0 q1 q2 q3 q4 q5 q6 q7 q8 q9 q10 q11 q12 s0 s1 s2 s3 s4 s5 s6 s7 s8 s9 s10 s11
  obtain ⟨q0, q1, q2, q3, q4, q5, q6, q7, q8, q9, q10, q11, q12⟩ := cells13 B3.out
  obtain ⟨s0, s1, s2, s3, s4, s5, s6, s7, s8, s9, s10, s11⟩ := cells12 P3.out
  go_wp2_with fail
  go_ret
  exact ⟨rfl, HB3.out⟩
set_option maxRecDepth 100000 in
set_option maxHeartbeats 8000000 in
theorem SourceFits_err (a0 a1 a2 a3 : Int) (l4 : List S78) (l5 : List S27) (a6 : Bool) (a7 a8 a9 a10 : Int) (l11 : List S78) (a12 : Int) (A4 A5 A11 : Option Addr) (c4 c5 c11 : Nat) (b0 b1 b2 b3 b4 b5 : Int) (m6 : List S78) (b7 : Int) (m8 : List S27) (b9 : Int) (b10 : Bool) (m11 : List S78) (M6 M8 M11 : Option Addr) (d6 d8 d11 : Nat) (w : World) (r4 : Kd.C k78 w A4 l4.length l4) (i4 : l4.length ≤ c4) (r5 : Kd.C k27 w A5 l5.length l5) (i5 : l5.length ≤ c5) (r11 : Kd.C k78 w A11 l11.length l11) (i11 : l11.length ≤ c11) (n6 : Kd.C k78 w M6 m6.length m6) (j6 : m6.length ≤ d6) (n8 : Kd.C k27 w M8 m8.length m8) (j8 : m8.length ≤ d8) (n11 : Kd.C k78 w M11 m11.length m11) (j11 : m11.length ≤ d11) (H5 : tidingsref05_Short.f a0 a1 a2 a3 l4 l5 a6 a7 a8 a9 a10 l11 a12 = some true) (H4 : tidingsref04_Short.f b0 b1 b2 b3 b4 b5 m6 b7 m8 b9 b10 m11 = some true) (c : Int) (HA : source_Answer.f 100000 a0 a1 a2 a3 l4 l5 a6 a7 a8 a9 a10 l11 a12 b0 b1 b2 b3 b4 b5 m6 b7 m8 b9 b10 m11 = some (0, 0, 0, 0, 0, 0, [], 0, [], 0, false, [], some c)) : Calls Try.prog 6 #[.agg #[.int .u8 a0, .int .u8 a1, .int .u32 a2, .int .u32 a3, .slice A4 l4.length c4, .slice A5 l5.length c5, .bool a6, .int .u32 a7, .int .u8 a8, .int .u8 a9, .int .u32 a10, .slice A11 l11.length c11, .int .u32 a12], .agg #[.int .i64 b0, .int .u8 b1, .int .u8 b2, .int .u32 b3, .int .u8 b4, .int .u8 b5, .slice M6 m6.length d6, .int .u32 b7, .slice M8 m8.length d8, .int .u8 b9, .bool b10, .slice M11 m11.length d11]] w fun e w' => e = .returned (.bool true) ∧ Below w.heap.size w w' := by
  have R4 := Aside0.mk r4
  have I4 := Aside0.mk i4
  have R5 := Aside0.mk r5
  have I5 := Aside0.mk i5
  have R11 := Aside0.mk r11
  have I11 := Aside0.mk i11
  have N6 := Aside0.mk n6
  have J6 := Aside0.mk j6
  have N8 := Aside0.mk n8
  have J8 := Aside0.mk j8
  have N11 := Aside0.mk n11
  have J11 := Aside0.mk j11
  clear r4 i4 r5 i5 r11 i11 n6 j6 n8 j8 n11 j11
  have huR := Try.underlying51
  have huN := Try.underlying53
  have huE := Try.underlying27
  have huV := Try.underlying25
  have hu34 := Try.underlying34
  have eN := errW_none
  have eS := errW_some
  go_enter Try.func6, Try.ntmps6
  go_wp2_with fail
  have B0 := Aside0.mk (blk_alloc (blk_new w (.cells #[.int .u8 a0, .int .u8 a1, .int .u32 a2, .int .u32 a3, .slice A4 l4.length c4, .slice A5 l5.length c5, .bool a6, .int .u32 a7, .int .u8 a8, .int .u8 a9, .int .u32 a10, .slice A11 l11.length c11, .int .u32 a12] 51)) (.cells #[.int .i64 b0, .int .u8 b1, .int .u8 b2, .int .u32 b3, .int .u8 b4, .int .u8 b5, .slice M6 m6.length d6, .int .u32 b7, .slice M8 m8.length d8, .int .u8 b9, .bool b10, .slice M11 m11.length d11] 53))
  have P0 := Aside0.mk (show ((w.alloc (.cells #[.int .u8 a0, .int .u8 a1, .int .u32 a2, .int .u32 a3, .slice A4 l4.length c4, .slice A5 l5.length c5, .bool a6, .int .u32 a7, .int .u8 a8, .int .u8 a9, .int .u32 a10, .slice A11 l11.length c11, .int .u32 a12] 51)).alloc (.cells #[.int .i64 b0, .int .u8 b1, .int .u8 b2, .int .u32 b3, .int .u8 b4, .int .u8 b5, .slice M6 m6.length d6, .int .u32 b7, .slice M8 m8.length d8, .int .u8 b9, .bool b10, .slice M11 m11.length d11] 53)).heap[w.heap.size + 1]? = some (.cells #[.int .i64 b0, .int .u8 b1, .int .u8 b2, .int .u32 b3, .int .u8 b4, .int .u8 b5, .slice M6 m6.length d6, .int .u32 b7, .slice M8 m8.length d8, .int .u8 b9, .bool b10, .slice M11 m11.length d11] 53 (0, 0)) by simpa using blk_new (w.alloc (.cells #[.int .u8 a0, .int .u8 a1, .int .u32 a2, .int .u32 a3, .slice A4 l4.length c4, .slice A5 l5.length c5, .bool a6, .int .u32 a7, .int .u8 a8, .int .u8 a9, .int .u32 a10, .slice A11 l11.length c11, .int .u32 a12] 51)) (.cells #[.int .i64 b0, .int .u8 b1, .int .u8 b2, .int .u32 b3, .int .u8 b4, .int .u8 b5, .slice M6 m6.length d6, .int .u32 b7, .slice M8 m8.length d8, .int .u8 b9, .bool b10, .slice M11 m11.length d11] 53))
  have HB0 := Aside0.mk (((Below.refl _ w).alloc (Nat.le_refl _) (.cells #[.int .u8 a0, .int .u8 a1, .int .u32 a2, .int .u32 a3, .slice A4 l4.length c4, .slice A5 l5.length c5, .bool a6, .int .u32 a7, .int .u8 a8, .int .u8 a9, .int .u32 a10, .slice A11 l11.length c11, .int .u32 a12] 51)).alloc (by simp) (.cells #[.int .i64 b0, .int .u8 b1, .int .u8 b2, .int .u32 b3, .int .u8 b4, .int .u8 b5, .slice M6 m6.length d6, .int .u32 b7, .slice M8 m8.length d8, .int .u8 b9, .bool b10, .slice M11 m11.length d11] 53))
  generalize (w.alloc (.cells #[.int .u8 a0, .int .u8 a1, .int .u32 a2, .int .u32 a3, .slice A4 l4.length c4, .slice A5 l5.length c5, .bool a6, .int .u32 a7, .int .u8 a8, .int .u8 a9, .int .u32 a10, .slice A11 l11.length c11, .int .u32 a12] 51)).alloc (.cells #[.int .i64 b0, .int .u8 b1, .int .u8 b2, .int .u32 b3, .int .u8 b4, .int .u8 b5, .slice M6 m6.length d6, .int .u32 b7, .slice M8 m8.length d8, .int .u8 b9, .bool b10, .slice M11 m11.length d11] 53) = w0 at B0 P0 HB0 ⊢
  refine (awake06_calls _).mono ?_
  rintro ev w1 ⟨rfl, hx⟩
  have B1 := Aside0.mk (blk_below B0.out hx)
  have P1 := Aside0.mk (blk_below P0.out hx)
  have HB1 := Aside0.mk (below_step HB0.out hx)
  clear hx B0 P0 HB0
  obtain ⟨q0, q1, q2, q3, q4, q5, q6, q7, q8, q9, q10, q11, q12⟩ := cells13 B1.out
  obtain ⟨s0, s1, s2, s3, s4, s5, s6, s7, s8, s9, s10, s11⟩ := cells12 P1.out
  go_wp2_with fail
  refine (tidingsref05_Short.calls a0 a1 a2 a3 _ _ l4 _ _ l5 a6 a7 a8 a9 a10 _ _ l11 a12 true _ (Kd.C_below R4.out HB1.out) I4.out (Kd.C_below R5.out HB1.out) I5.out (Kd.C_below R11.out HB1.out) I11.out H5).mono ?_
  rintro ev w2 ⟨rfl, hx⟩
  have B2 := Aside0.mk (blk_below B1.out hx)
  have P2 := Aside0.mk (blk_below P1.out hx)
  have HB2 := Aside0.mk (below_step HB1.out hx)
  clear hx B1 P1 HB1
  clear q0 q1 q2 q3 q4 q5 q6 q7 q8 q9 q10 q11 q12 s0 s1 s2 s3 s4 s5 s6 s7 s8 s9 s10 s11
  obtain ⟨q0, q1, q2, q3, q4, q5, q6, q7, q8, q9, q10, q11, q12⟩ := cells13 B2.out
  obtain ⟨s0, s1, s2, s3, s4, s5, s6, s7, s8, s9, s10, s11⟩ := cells12 P2.out
  go_wp2_with fail
  refine (tidingsref04_Short.calls b0 b1 b2 b3 b4 b5 _ _ m6 b7 _ _ m8 b9 b10 _ _ m11 true _ (Kd.C_below N6.out HB2.out) J6.out (Kd.C_below N8.out HB2.out) J8.out (Kd.C_below N11.out HB2.out) J11.out H4).mono ?_
  rintro ev w3 ⟨rfl, hx⟩
  have B3 := Aside0.mk (blk_below B2.out hx)
  have P3 := Aside0.mk (blk_below P2.out hx)
  have HB3 := Aside0.mk (below_step HB2.out hx)
  clear hx B2 P2 HB2
  clear q0 q1 q2 q3 q4 q5 q6 q7 q8 q9 q10 q11 q12 s0 s1 s2 s3 s4 s5 s6 s7 s8 s9 s10 s11
  obtain ⟨q0, q1, q2, q3, q4, q5, q6, q7, q8, q9, q10, q11, q12⟩ := cells13 B3.out
  obtain ⟨s0, s1, s2, s3, s4, s5, s6, s7, s8, s9, s10, s11⟩ := cells12 P3.out
  go_wp2_with fail
  refine (source_Answer.calls 100000 a0 a1 a2 a3 _ _ l4 _ _ l5 a6 a7 a8 a9 a10 _ _ l11 a12 b0 b1 b2 b3 b4 b5 _ _ m6 b7 _ _ m8 b9 b10 _ _ m11 _ _ _ _ _ _ _ _ _ _ _ _ _ _ (Kd.C_below R4.out HB3.out) I4.out (Kd.C_below R5.out HB3.out) I5.out (Kd.C_below R11.out HB3.out) I11.out (Kd.C_below N6.out HB3.out) J6.out (Kd.C_below N8.out HB3.out) J8.out (Kd.C_below N11.out HB3.out) J11.out HA).mono ?_
  rintro ev w4 ⟨v6, v8, v11, rfl, hR6, hR8, hR11, hx⟩
  have B4 := Aside0.mk (blk_below B3.out hx)
  have P4 := Aside0.mk (blk_below P3.out hx)
  have HB4 := Aside0.mk (below_step HB3.out hx)
  obtain ⟨T6, e6, rfl, he6, hC6⟩ := Kd.R_reads hR6
  obtain ⟨T8, e8, rfl, he8, hC8⟩ := Kd.R_reads hR8
  obtain ⟨T11, e11, rfl, he11, hC11⟩ := Kd.R_reads hR11
  clear hx B3 P3 HB3
  clear q0 q1 q2 q3 q4 q5 q6 q7 q8 q9 q10 q11 q12 s0 s1 s2 s3 s4 s5 s6 s7 s8 s9 s10 s11
  clear hR6 hR8 hR11
  have X5 := Aside0.mk (blk_new w4 (.cells #[.int .i64 0, .int .u8 0, .int .u8 0, .int .u32 0, .int .u8 0, .int .u8 0, .slice T6 0 e6, .int .u32 0, .slice T8 0 e8, .int .u8 0, .bool false, .slice T11 0 e11] 53))
  have HB5 := Aside0.mk (HB4.out.alloc HB4.out.size (.cells #[.int .i64 0, .int .u8 0, .int .u8 0, .int .u32 0, .int .u8 0, .int .u8 0, .slice T6 0 e6, .int .u32 0, .slice T8 0 e8, .int .u8 0, .bool false, .slice T11 0 e11] 53))
  obtain ⟨s0, s1, s2, s3, s4, s5, s6, s7, s8, s9, s10, s11⟩ := cells12 X5.out
  go_wp2_with fail
  go_ret
  exact ⟨rfl, HB5.out⟩
set_option maxRecDepth 100000 in
set_option maxHeartbeats 8000000 in
theorem SourceFits_main (a0 a1 a2 a3 : Int) (l4 : List S78) (l5 : List S27) (a6 : Bool) (a7 a8 a9 a10 : Int) (l11 : List S78) (a12 : Int) (A4 A5 A11 : Option Addr) (c4 c5 c11 : Nat) (b0 b1 b2 b3 b4 b5 : Int) (m6 : List S78) (b7 : Int) (m8 : List S27) (b9 : Int) (b10 : Bool) (m11 : List S78) (M6 M8 M11 : Option Addr) (d6 d8 d11 : Nat) (w : World) (r4 : Kd.C k78 w A4 l4.length l4) (i4 : l4.length ≤ c4) (r5 : Kd.C k27 w A5 l5.length l5) (i5 : l5.length ≤ c5) (r11 : Kd.C k78 w A11 l11.length l11) (i11 : l11.length ≤ c11) (n6 : Kd.C k78 w M6 m6.length m6) (j6 : m6.length ≤ d6) (n8 : Kd.C k27 w M8 m8.length m8) (j8 : m8.length ≤ d8) (n11 : Kd.C k78 w M11 m11.length m11) (j11 : m11.length ≤ d11) (H5 : tidingsref05_Short.f a0 a1 a2 a3 l4 l5 a6 a7 a8 a9 a10 l11 a12 = some true) (H4 : tidingsref04_Short.f b0 b1 b2 b3 b4 b5 m6 b7 m8 b9 b10 m11 = some true) (L D : List S27) (nx : Int) (of : List S78) (dn : Bool) (hdn : dn = decide (D.length ≤ 4)) (hl4 : 4 < D.length → L.length = 4) (HD1 : source_Due.f 100000 a0 a1 a2 a3 l4 l5 a6 a7 a8 a9 a10 l11 a12 b0 b1 b2 b3 b4 b5 m6 b7 m8 b9 b10 m11 = some (D, none)) (HN : note_Right.f 100000 2 a0 b1 b3 b4 0 [] a2 L nx dn of = some true) (hlp : ∀ x ∈ L, b4 ≤ x.f0 ∧ tidingsref01_Has.f 100000 m6 x.f1.f0 x.f1.f1 = some false ∧ (x.f2 = 1 → tidingsref02_In.f 100000 x.f0 x.f1.f0 x.f1.f1 x.f1.f2 x.f2 x.f3 x.f4 b5 = some true)) (hr2 : 4 < D.length → source_Due.f 100000 a0 a1 a2 a3 l4 l5 a6 a7 a8 a9 a10 l11 a12 b0 b1 b2 b3 nx b5 m6 b7 m8 b9 b10 m11 = some (D.drop 4, none) ∧ tidingsref02_Same.f 100000 (D.drop 4) (D.drop 4) = some true) (HA : source_Answer.f 100000 a0 a1 a2 a3 l4 l5 a6 a7 a8 a9 a10 l11 a12 b0 b1 b2 b3 b4 b5 m6 b7 m8 b9 b10 m11 = some (2, a0, b1, b3, b4, 0, [], a2, L, nx, dn, of, none)) : Calls Try.prog 6 #[.agg #[.int .u8 a0, .int .u8 a1, .int .u32 a2, .int .u32 a3, .slice A4 l4.length c4, .slice A5 l5.length c5, .bool a6, .int .u32 a7, .int .u8 a8, .int .u8 a9, .int .u32 a10, .slice A11 l11.length c11, .int .u32 a12], .agg #[.int .i64 b0, .int .u8 b1, .int .u8 b2, .int .u32 b3, .int .u8 b4, .int .u8 b5, .slice M6 m6.length d6, .int .u32 b7, .slice M8 m8.length d8, .int .u8 b9, .bool b10, .slice M11 m11.length d11]] w fun e w' => e = .returned (.bool true) ∧ Below w.heap.size w w' := by
  have HLP := Aside0.mk hlp
  have HL4 := Aside0.mk hl4
  have HR2 := Aside0.mk hr2
  have HDN := Aside0.mk hdn
  have HD := Aside0.mk HD1
  have HNR := Aside0.mk HN
  clear hlp hl4 hr2 hdn HD1 HN
  have R4 := Aside0.mk r4
  have I4 := Aside0.mk i4
  have R5 := Aside0.mk r5
  have I5 := Aside0.mk i5
  have R11 := Aside0.mk r11
  have I11 := Aside0.mk i11
  have N6 := Aside0.mk n6
  have J6 := Aside0.mk j6
  have N8 := Aside0.mk n8
  have J8 := Aside0.mk j8
  have N11 := Aside0.mk n11
  have J11 := Aside0.mk j11
  clear r4 i4 r5 i5 r11 i11 n6 j6 n8 j8 n11 j11
  have huR := Try.underlying51
  have huN := Try.underlying53
  have huE := Try.underlying27
  have huV := Try.underlying25
  have hu34 := Try.underlying34
  have eN := errW_none
  have eS := errW_some
  go_enter Try.func6, Try.ntmps6
  go_wp2_with fail
  have B0 := Aside0.mk (blk_alloc (blk_new w (.cells #[.int .u8 a0, .int .u8 a1, .int .u32 a2, .int .u32 a3, .slice A4 l4.length c4, .slice A5 l5.length c5, .bool a6, .int .u32 a7, .int .u8 a8, .int .u8 a9, .int .u32 a10, .slice A11 l11.length c11, .int .u32 a12] 51)) (.cells #[.int .i64 b0, .int .u8 b1, .int .u8 b2, .int .u32 b3, .int .u8 b4, .int .u8 b5, .slice M6 m6.length d6, .int .u32 b7, .slice M8 m8.length d8, .int .u8 b9, .bool b10, .slice M11 m11.length d11] 53))
  have P0 := Aside0.mk (show ((w.alloc (.cells #[.int .u8 a0, .int .u8 a1, .int .u32 a2, .int .u32 a3, .slice A4 l4.length c4, .slice A5 l5.length c5, .bool a6, .int .u32 a7, .int .u8 a8, .int .u8 a9, .int .u32 a10, .slice A11 l11.length c11, .int .u32 a12] 51)).alloc (.cells #[.int .i64 b0, .int .u8 b1, .int .u8 b2, .int .u32 b3, .int .u8 b4, .int .u8 b5, .slice M6 m6.length d6, .int .u32 b7, .slice M8 m8.length d8, .int .u8 b9, .bool b10, .slice M11 m11.length d11] 53)).heap[w.heap.size + 1]? = some (.cells #[.int .i64 b0, .int .u8 b1, .int .u8 b2, .int .u32 b3, .int .u8 b4, .int .u8 b5, .slice M6 m6.length d6, .int .u32 b7, .slice M8 m8.length d8, .int .u8 b9, .bool b10, .slice M11 m11.length d11] 53 (0, 0)) by simpa using blk_new (w.alloc (.cells #[.int .u8 a0, .int .u8 a1, .int .u32 a2, .int .u32 a3, .slice A4 l4.length c4, .slice A5 l5.length c5, .bool a6, .int .u32 a7, .int .u8 a8, .int .u8 a9, .int .u32 a10, .slice A11 l11.length c11, .int .u32 a12] 51)) (.cells #[.int .i64 b0, .int .u8 b1, .int .u8 b2, .int .u32 b3, .int .u8 b4, .int .u8 b5, .slice M6 m6.length d6, .int .u32 b7, .slice M8 m8.length d8, .int .u8 b9, .bool b10, .slice M11 m11.length d11] 53))
  have HB0 := Aside0.mk (((Below.refl _ w).alloc (Nat.le_refl _) (.cells #[.int .u8 a0, .int .u8 a1, .int .u32 a2, .int .u32 a3, .slice A4 l4.length c4, .slice A5 l5.length c5, .bool a6, .int .u32 a7, .int .u8 a8, .int .u8 a9, .int .u32 a10, .slice A11 l11.length c11, .int .u32 a12] 51)).alloc (by simp) (.cells #[.int .i64 b0, .int .u8 b1, .int .u8 b2, .int .u32 b3, .int .u8 b4, .int .u8 b5, .slice M6 m6.length d6, .int .u32 b7, .slice M8 m8.length d8, .int .u8 b9, .bool b10, .slice M11 m11.length d11] 53))
  generalize (w.alloc (.cells #[.int .u8 a0, .int .u8 a1, .int .u32 a2, .int .u32 a3, .slice A4 l4.length c4, .slice A5 l5.length c5, .bool a6, .int .u32 a7, .int .u8 a8, .int .u8 a9, .int .u32 a10, .slice A11 l11.length c11, .int .u32 a12] 51)).alloc (.cells #[.int .i64 b0, .int .u8 b1, .int .u8 b2, .int .u32 b3, .int .u8 b4, .int .u8 b5, .slice M6 m6.length d6, .int .u32 b7, .slice M8 m8.length d8, .int .u8 b9, .bool b10, .slice M11 m11.length d11] 53) = w0 at B0 P0 HB0 ⊢
  refine (awake06_calls _).mono ?_
  rintro ev w1 ⟨rfl, hx⟩
  have B1 := Aside0.mk (blk_below B0.out hx)
  have P1 := Aside0.mk (blk_below P0.out hx)
  have HB1 := Aside0.mk (below_step HB0.out hx)
  clear hx B0 P0 HB0
  obtain ⟨q0, q1, q2, q3, q4, q5, q6, q7, q8, q9, q10, q11, q12⟩ := cells13 B1.out
  obtain ⟨s0, s1, s2, s3, s4, s5, s6, s7, s8, s9, s10, s11⟩ := cells12 P1.out
  go_wp2_with fail
  refine (tidingsref05_Short.calls a0 a1 a2 a3 _ _ l4 _ _ l5 a6 a7 a8 a9 a10 _ _ l11 a12 true _ (Kd.C_below R4.out HB1.out) I4.out (Kd.C_below R5.out HB1.out) I5.out (Kd.C_below R11.out HB1.out) I11.out H5).mono ?_
  rintro ev w2 ⟨rfl, hx⟩
  have B2 := Aside0.mk (blk_below B1.out hx)
  have P2 := Aside0.mk (blk_below P1.out hx)
  have HB2 := Aside0.mk (below_step HB1.out hx)
  clear hx B1 P1 HB1
  clear q0 q1 q2 q3 q4 q5 q6 q7 q8 q9 q10 q11 q12 s0 s1 s2 s3 s4 s5 s6 s7 s8 s9 s10 s11
  obtain ⟨q0, q1, q2, q3, q4, q5, q6, q7, q8, q9, q10, q11, q12⟩ := cells13 B2.out
  obtain ⟨s0, s1, s2, s3, s4, s5, s6, s7, s8, s9, s10, s11⟩ := cells12 P2.out
  go_wp2_with fail
  refine (tidingsref04_Short.calls b0 b1 b2 b3 b4 b5 _ _ m6 b7 _ _ m8 b9 b10 _ _ m11 true _ (Kd.C_below N6.out HB2.out) J6.out (Kd.C_below N8.out HB2.out) J8.out (Kd.C_below N11.out HB2.out) J11.out H4).mono ?_
  rintro ev w3 ⟨rfl, hx⟩
  have B3 := Aside0.mk (blk_below B2.out hx)
  have P3 := Aside0.mk (blk_below P2.out hx)
  have HB3 := Aside0.mk (below_step HB2.out hx)
  clear hx B2 P2 HB2
  clear q0 q1 q2 q3 q4 q5 q6 q7 q8 q9 q10 q11 q12 s0 s1 s2 s3 s4 s5 s6 s7 s8 s9 s10 s11
  obtain ⟨q0, q1, q2, q3, q4, q5, q6, q7, q8, q9, q10, q11, q12⟩ := cells13 B3.out
  obtain ⟨s0, s1, s2, s3, s4, s5, s6, s7, s8, s9, s10, s11⟩ := cells12 P3.out
  go_wp2_with fail
  refine (source_Answer.calls 100000 a0 a1 a2 a3 _ _ l4 _ _ l5 a6 a7 a8 a9 a10 _ _ l11 a12 b0 b1 b2 b3 b4 b5 _ _ m6 b7 _ _ m8 b9 b10 _ _ m11 _ _ _ _ _ _ _ _ _ _ _ _ _ _ (Kd.C_below R4.out HB3.out) I4.out (Kd.C_below R5.out HB3.out) I5.out (Kd.C_below R11.out HB3.out) I11.out (Kd.C_below N6.out HB3.out) J6.out (Kd.C_below N8.out HB3.out) J8.out (Kd.C_below N11.out HB3.out) J11.out HA).mono ?_
  rintro ev w4 ⟨v6, v8, v11, rfl, hR6, hR8, hR11, hx⟩
  have B4 := Aside0.mk (blk_below B3.out hx)
  have P4 := Aside0.mk (blk_below P3.out hx)
  have HB4 := Aside0.mk (below_step HB3.out hx)
  obtain ⟨T6, e6, rfl, he6, hC6⟩ := Kd.R_reads hR6
  obtain ⟨T8, e8, rfl, he8, hC8⟩ := Kd.R_reads hR8
  obtain ⟨T11, e11, rfl, he11, hC11⟩ := Kd.R_reads hR11
  clear hx B3 P3 HB3
  clear q0 q1 q2 q3 q4 q5 q6 q7 q8 q9 q10 q11 q12 s0 s1 s2 s3 s4 s5 s6 s7 s8 s9 s10 s11
  clear hR6 hR8 hR11
  have Z4 := Aside0.mk hC6
  have Y4 := Aside0.mk hC8
  have O4 := Aside0.mk hC11
  have HE8 := Aside0.mk he8
  have HE11 := Aside0.mk he11
  clear hC6 hC8 hC11 he6 he8 he11
  have B5 := Aside0.mk (blk_alloc B4.out (.cells #[.int .i64 2, .int .u8 a0, .int .u8 b1, .int .u32 b3, .int .u8 b4, .int .u8 0, .slice T6 0 e6, .int .u32 a2, .slice T8 L.length e8, .int .u8 nx, .bool dn, .slice T11 of.length e11] 53))
  have P5 := Aside0.mk (blk_alloc P4.out (.cells #[.int .i64 2, .int .u8 a0, .int .u8 b1, .int .u32 b3, .int .u8 b4, .int .u8 0, .slice T6 0 e6, .int .u32 a2, .slice T8 L.length e8, .int .u8 nx, .bool dn, .slice T11 of.length e11] 53))
  have X5 := Aside0.mk (blk_new w4 (.cells #[.int .i64 2, .int .u8 a0, .int .u8 b1, .int .u32 b3, .int .u8 b4, .int .u8 0, .slice T6 0 e6, .int .u32 a2, .slice T8 L.length e8, .int .u8 nx, .bool dn, .slice T11 of.length e11] 53))
  have HB5 := Aside0.mk (HB4.out.alloc HB4.out.size (.cells #[.int .i64 2, .int .u8 a0, .int .u8 b1, .int .u32 b3, .int .u8 b4, .int .u8 0, .slice T6 0 e6, .int .u32 a2, .slice T8 L.length e8, .int .u8 nx, .bool dn, .slice T11 of.length e11] 53))
  have Z5 := Aside0.mk (Kd.C_below Z4.out ((Below.refl _ w4).alloc (Nat.le_refl _) (.cells #[.int .i64 2, .int .u8 a0, .int .u8 b1, .int .u32 b3, .int .u8 b4, .int .u8 0, .slice T6 0 e6, .int .u32 a2, .slice T8 L.length e8, .int .u8 nx, .bool dn, .slice T11 of.length e11] 53)))
  have Y5 := Aside0.mk (Kd.C_below Y4.out ((Below.refl _ w4).alloc (Nat.le_refl _) (.cells #[.int .i64 2, .int .u8 a0, .int .u8 b1, .int .u32 b3, .int .u8 b4, .int .u8 0, .slice T6 0 e6, .int .u32 a2, .slice T8 L.length e8, .int .u8 nx, .bool dn, .slice T11 of.length e11] 53)))
  have O5 := Aside0.mk (Kd.C_below O4.out ((Below.refl _ w4).alloc (Nat.le_refl _) (.cells #[.int .i64 2, .int .u8 a0, .int .u8 b1, .int .u32 b3, .int .u8 b4, .int .u8 0, .slice T6 0 e6, .int .u32 a2, .slice T8 L.length e8, .int .u8 nx, .bool dn, .slice T11 of.length e11] 53)))
  clear B4 P4 HB4 Z4 Y4 O4
  obtain ⟨q0, q1, q2, q3, q4, q5, q6, q7, q8, q9, q10, q11, q12⟩ := cells13 B5.out
  obtain ⟨s0, s1, s2, s3, s4, s5, s6, s7, s8, s9, s10, s11⟩ := cells12 P5.out
  go_wp2_with fail
  generalize w4.alloc (.cells #[.int .i64 2, .int .u8 a0, .int .u8 b1, .int .u32 b3, .int .u8 b4, .int .u8 0, .slice T6 0 e6, .int .u32 a2, .slice T8 L.length e8, .int .u8 nx, .bool dn, .slice T11 of.length e11] 53) = w5 at B5 P5 X5 HB5 Z5 Y5 O5 ⊢
  generalize w4.heap.size = g5 at X5 ⊢
  refine (source_Due.calls 100000 a0 a1 a2 a3 _ _ l4 _ _ l5 a6 a7 a8 a9 a10 _ _ l11 a12 b0 b1 b2 b3 b4 b5 _ _ m6 b7 _ _ m8 b9 b10 _ _ m11 D none _ (Kd.C_below R4.out HB5.out) I4.out (Kd.C_below R5.out HB5.out) I5.out (Kd.C_below R11.out HB5.out) I11.out (Kd.C_below N6.out HB5.out) J6.out (Kd.C_below N8.out HB5.out) J8.out (Kd.C_below N11.out HB5.out) J11.out HD.out).mono ?_
  rintro ev w6 ⟨v0, rfl, hRD, hx⟩
  have B6 := Aside0.mk (blk_below B5.out hx)
  have P6 := Aside0.mk (blk_below P5.out hx)
  have X6 := Aside0.mk (blk_below X5.out hx)
  have HB6 := Aside0.mk (below_step HB5.out hx)
  have Z6 := Aside0.mk (Kd.C_below Z5.out hx)
  have Y6 := Aside0.mk (Kd.C_below Y5.out hx)
  have O6 := Aside0.mk (Kd.C_below O5.out hx)
  have DR6 := Aside0.mk (Kd.R_mono (ok' := fun k => k ≠ w.heap.size + 1) (Kd.R_bound hRD) (fun k hk => (by have := hk.2.1; have := blk_lt P5.out; omega)))
  obtain ⟨T0, e0, rfl, he0, hCD⟩ := Kd.R_reads hRD
  have HE0 := Aside0.mk he0
  clear he0 hCD hRD
  clear hx B5 P5 HB5 X5 Z5 Y5 O5
  clear q0 q1 q2 q3 q4 q5 q6 q7 q8 q9 q10 q11 q12 s0 s1 s2 s3 s4 s5 s6 s7 s8 s9 s10 s11
  obtain ⟨q0, q1, q2, q3, q4, q5, q6, q7, q8, q9, q10, q11, q12⟩ := cells13 B6.out
  obtain ⟨s0, s1, s2, s3, s4, s5, s6, s7, s8, s9, s10, s11⟩ := cells12 P6.out
  obtain ⟨x0, x1, x2, x3, x4, x5, x6, x7, x8, x9, x10, x11⟩ := cells12 X6.out
  go_wp2_with fail
  refine (note_Right.calls 100000 2 a0 b1 b3 b4 0 _ _ [] a2 _ _ L nx dn _ _ of true _ Z6.out (Nat.zero_le _) Y6.out HE8.out O6.out HE11.out HNR.out).mono ?_
  rintro ev w7 ⟨rfl, hx⟩
  have B7 := Aside0.mk (blk_below B6.out hx)
  have P7 := Aside0.mk (blk_below P6.out hx)
  have X7 := Aside0.mk (blk_below X6.out hx)
  have HB7 := Aside0.mk (below_step HB6.out hx)
  have Z7 := Aside0.mk (Kd.C_below Z6.out hx)
  have Y7 := Aside0.mk (Kd.C_below Y6.out hx)
  have O7 := Aside0.mk (Kd.C_below O6.out hx)
  have DR7 := Aside0.mk (Kd.R_below DR6.out hx)
  clear hx B6 P6 HB6 X6 Z6 Y6 O6 DR6
  clear q0 q1 q2 q3 q4 q5 q6 q7 q8 q9 q10 q11 q12 s0 s1 s2 s3 s4 s5 s6 s7 s8 s9 s10 s11 x0 x1 x2 x3 x4 x5 x6 x7 x8 x9 x10 x11
  obtain ⟨q0, q1, q2, q3, q4, q5, q6, q7, q8, q9, q10, q11, q12⟩ := cells13 B7.out
  obtain ⟨s0, s1, s2, s3, s4, s5, s6, s7, s8, s9, s10, s11⟩ := cells12 P7.out
  obtain ⟨x0, x1, x2, x3, x4, x5, x6, x7, x8, x9, x10, x11⟩ := cells12 X7.out
  clear H5 H4
  cases dn with
  | true =>
    have hda : decide ((D.length : Int) ≤ 4) = true := decide_eq_true (by have := of_decide_eq_true HDN.out.symm; omega)
    have hmax : L.length ≤ 9223372036854775807 := Y7.out.2.1
    have hdb : decide (D.length ≤ 4) = true := HDN.out.symm
    go_wp2_with fail
    go_loopg [9] L.length (fun gg s9 wr => ∃ kk : Nat, kk ≤ L.length ∧ L.length - kk ≤ gg ∧ s9 = .int .i64 kk ∧ Aside0 (Below w7.heap.size w7 wr))
    case atStart => exact ⟨0, Nat.zero_le _, by omega, rfl, ⟨Below.refl _ _⟩⟩
    case round =>
      obtain ⟨kk, hkk, hgg, rfl, BW⟩ := hrel
      clear q0 q1 q2 q3 q4 q5 q6 q7 q8 q9 q10 q11 q12 s0 s1 s2 s3 s4 s5 s6 s7 s8 s9 s10 s11 x0 x1 x2 x3 x4 x5 x6 x7 x8 x9 x10 x11
      have B8 := Aside0.mk (blk_below B7.out BW.out)
      have P8 := Aside0.mk (blk_below P7.out BW.out)
      have X8 := Aside0.mk (blk_below X7.out BW.out)
      have HB8 := Aside0.mk (below_step HB7.out BW.out)
      by_cases hlt : kk < L.length
      · have hltz : (kk : Int) < (L.length : Int) := by omega
        have h0k : (0 : Int) ≤ (kk : Int) := by omega
        obtain ⟨ax, e, p0, p1, p2, p3, p4, p5, p6⟩ := at_T27 (Kd.C_below Y7.out BW.out) (kk : Int) h0k hltz
        subst e
        have hX : rd_T27 L (kk : Int) = L.getD kk z27 := rfl
        rw [hX] at p0 p1 p2 p3 p4 p5 p6
        clear hX
        simp only [Int.toNat_natCast] at p0 p1 p2 p3 p4 p5 p6
        obtain ⟨k1, k2, k3⟩ := HLP.out _ (getD_mem L kk z27 hlt)
        generalize L.getD kk z27 = X at k1 k2 k3 p0 p1 p2 p3 p4 p5 p6
        have K2 := Aside0.mk k2
        have K3 := Aside0.mk k3
        have ka : decide (X.f0 < b4) = false := decide_eq_false (by omega)
        have kb : decide (b4 > X.f0) = false := decide_eq_false (by omega)
        clear k1 k2 k3
        have P9 := Aside0.mk (blk_alloc P8.out (.cells #[.int .u8 X.f0, .int .u8 X.f1.f0, .int .u32 X.f1.f1, .int .u32 X.f1.f2, .int .i64 X.f2, .int .u8 X.f3, .int .u32 X.f4] 27))
        have E9 := Aside0.mk (blk_new wr (.cells #[.int .u8 X.f0, .int .u8 X.f1.f0, .int .u32 X.f1.f1, .int .u32 X.f1.f2, .int .i64 X.f2, .int .u8 X.f3, .int .u32 X.f4] 27))
        have HB9 := Aside0.mk (HB8.out.alloc HB8.out.size (.cells #[.int .u8 X.f0, .int .u8 X.f1.f0, .int .u32 X.f1.f1, .int .u32 X.f1.f2, .int .i64 X.f2, .int .u8 X.f3, .int .u32 X.f4] 27))
        have HBW9 := Aside0.mk (BW.out.alloc BW.out.size (.cells #[.int .u8 X.f0, .int .u8 X.f1.f0, .int .u32 X.f1.f1, .int .u32 X.f1.f2, .int .i64 X.f2, .int .u8 X.f3, .int .u32 X.f4] 27))
        obtain ⟨x0, x1, x2, x3, x4, x5, x6, x7, x8, x9, x10, x11⟩ := cells12 X8.out
        obtain ⟨s0, s1, s2, s3, s4, s5, s6, s7, s8, s9, s10, s11⟩ := cells12 P9.out
        obtain ⟨u0, u1, u2, u3, u4, u5, u6⟩ := cells7 E9.out
        go_wp2_with fail
        generalize wr.alloc (.cells #[.int .u8 X.f0, .int .u8 X.f1.f0, .int .u32 X.f1.f1, .int .u32 X.f1.f2, .int .i64 X.f2, .int .u8 X.f3, .int .u32 X.f4] 27) = w9 at P9 E9 HB9 HBW9 ⊢
        generalize wr.heap.size = g9 at E9 ⊢
        clear p0 p1 p2 p3 p4 p5 p6 B8 P8 X8 HB8 BW u0 u1 u2 u3 u4 u5 u6 s0 s1 s2 s3 s4 s5 s6 s7 s8 s9 s10 s11 x0 x1 x2 x3 x4 x5 x6 x7 x8 x9 x10 x11
        refine (tidingsref01_Has.calls 100000 _ _ m6 _ _ false _ (Kd.C_below N6.out HB9.out) J6.out K2.out).mono ?_
        rintro ev w10 ⟨rfl, hx0⟩
        have hx := hx0.below
        clear hx0
        have P10 := Aside0.mk (blk_below P9.out hx)
        have E10 := Aside0.mk (blk_below E9.out hx)
        have HB10 := Aside0.mk (below_step HB9.out hx)
        have HBW10 := Aside0.mk (below_step HBW9.out hx)
        clear hx P9 E9 HB9 HBW9
        obtain ⟨s0, s1, s2, s3, s4, s5, s6, s7, s8, s9, s10, s11⟩ := cells12 P10.out
        obtain ⟨u0, u1, u2, u3, u4, u5, u6⟩ := cells7 E10.out
        by_cases hk1 : X.f2 = 1
        · have kc : decide (X.f2 = 1) = true := decide_eq_true hk1
          have kd : (X.f2 == 1) = true := by simp [hk1]
          have K4 := Aside0.mk (K3.out hk1)
          clear hk1
          go_wp2_with fail
          refine (tidingsref02_In.calls 100000 _ _ _ _ _ _ _ _ true _ K4.out).mono ?_
          rintro ev w11 ⟨rfl, hx⟩
          have HBW11 := Aside0.mk (below_step HBW10.out hx)
          clear hx
          go_wp2_with fail
          go_roundg (L.length - (kk + 1))
          case measure => omega
          case rel => exact ⟨kk + 1, by omega, Nat.le_refl _, by go_num, HBW11⟩
        · have kc : decide (X.f2 = 1) = false := decide_eq_false hk1
          have kd : (X.f2 == 1) = false := by simp [hk1]
          clear hk1
          go_wp2_with fail
          go_roundg (L.length - (kk + 1))
          case measure => omega
          case rel => exact ⟨kk + 1, by omega, Nat.le_refl _, by go_num, HBW10⟩
      · have hltz : ¬ (kk : Int) < (L.length : Int) := by omega
        obtain ⟨x0, x1, x2, x3, x4, x5, x6, x7, x8, x9, x10, x11⟩ := cells12 X8.out
        go_wp2_with fail
        go_ret
        exact ⟨rfl, HB8.out⟩
  | false =>
    have hda : decide ((D.length : Int) ≤ 4) = false := decide_eq_false (by have := of_decide_eq_false HDN.out.symm; omega)
    have hmax : L.length ≤ 9223372036854775807 := Y7.out.2.1
    have hdb : decide (D.length ≤ 4) = false := HDN.out.symm
    have hd4 : 4 < D.length := by have := of_decide_eq_false hdb; omega
    have hl4 := HL4.out hd4
    have hla : decide ((L.length : Int) ≠ 4) = false := decide_eq_false (by omega)
    have hlb : ((L.length : Int) != 4) = false := by simp [hl4]
    have hlc : (L.length != 4) = false := by simp [hl4]
    clear hl4
    have FZ7 := Aside0.mk (fun W (h : Below w7.heap.size w7 W) => blk_frozen (blk_below P7.out h) 4)
    go_wp2_with fail
    go_loopg [9] L.length (fun gg s9 wr => ∃ kk : Nat, kk ≤ L.length ∧ L.length - kk ≤ gg ∧ s9 = .int .i64 kk ∧ Aside0 (Below w7.heap.size w7 wr))
    case atStart => exact ⟨0, Nat.zero_le _, by omega, rfl, ⟨Below.refl _ _⟩⟩
    case round =>
      obtain ⟨kk, hkk, hgg, rfl, BW⟩ := hrel
      clear q0 q1 q2 q3 q4 q5 q6 q7 q8 q9 q10 q11 q12 s0 s1 s2 s3 s4 s5 s6 s7 s8 s9 s10 s11 x0 x1 x2 x3 x4 x5 x6 x7 x8 x9 x10 x11
      have B8 := Aside0.mk (blk_below B7.out BW.out)
      have P8 := Aside0.mk (blk_below P7.out BW.out)
      have X8 := Aside0.mk (blk_below X7.out BW.out)
      have HB8 := Aside0.mk (below_step HB7.out BW.out)
      by_cases hlt : kk < L.length
      · have hltz : (kk : Int) < (L.length : Int) := by omega
        have h0k : (0 : Int) ≤ (kk : Int) := by omega
        obtain ⟨ax, e, p0, p1, p2, p3, p4, p5, p6⟩ := at_T27 (Kd.C_below Y7.out BW.out) (kk : Int) h0k hltz
        subst e
        have hX : rd_T27 L (kk : Int) = L.getD kk z27 := rfl
        rw [hX] at p0 p1 p2 p3 p4 p5 p6
        clear hX
        simp only [Int.toNat_natCast] at p0 p1 p2 p3 p4 p5 p6
        obtain ⟨k1, k2, k3⟩ := HLP.out _ (getD_mem L kk z27 hlt)
        generalize L.getD kk z27 = X at k1 k2 k3 p0 p1 p2 p3 p4 p5 p6
        have K2 := Aside0.mk k2
        have K3 := Aside0.mk k3
        have ka : decide (X.f0 < b4) = false := decide_eq_false (by omega)
        have kb : decide (b4 > X.f0) = false := decide_eq_false (by omega)
        clear k1 k2 k3
        have P9 := Aside0.mk (blk_alloc P8.out (.cells #[.int .u8 X.f0, .int .u8 X.f1.f0, .int .u32 X.f1.f1, .int .u32 X.f1.f2, .int .i64 X.f2, .int .u8 X.f3, .int .u32 X.f4] 27))
        have E9 := Aside0.mk (blk_new wr (.cells #[.int .u8 X.f0, .int .u8 X.f1.f0, .int .u32 X.f1.f1, .int .u32 X.f1.f2, .int .i64 X.f2, .int .u8 X.f3, .int .u32 X.f4] 27))
        have HB9 := Aside0.mk (HB8.out.alloc HB8.out.size (.cells #[.int .u8 X.f0, .int .u8 X.f1.f0, .int .u32 X.f1.f1, .int .u32 X.f1.f2, .int .i64 X.f2, .int .u8 X.f3, .int .u32 X.f4] 27))
        have HBW9 := Aside0.mk (BW.out.alloc BW.out.size (.cells #[.int .u8 X.f0, .int .u8 X.f1.f0, .int .u32 X.f1.f1, .int .u32 X.f1.f2, .int .i64 X.f2, .int .u8 X.f3, .int .u32 X.f4] 27))
        obtain ⟨x0, x1, x2, x3, x4, x5, x6, x7, x8, x9, x10, x11⟩ := cells12 X8.out
        obtain ⟨s0, s1, s2, s3, s4, s5, s6, s7, s8, s9, s10, s11⟩ := cells12 P9.out
        obtain ⟨u0, u1, u2, u3, u4, u5, u6⟩ := cells7 E9.out
        go_wp2_with fail
        generalize wr.alloc (.cells #[.int .u8 X.f0, .int .u8 X.f1.f0, .int .u32 X.f1.f1, .int .u32 X.f1.f2, .int .i64 X.f2, .int .u8 X.f3, .int .u32 X.f4] 27) = w9 at P9 E9 HB9 HBW9 ⊢
        generalize wr.heap.size = g9 at E9 ⊢
        clear p0 p1 p2 p3 p4 p5 p6 B8 P8 X8 HB8 BW u0 u1 u2 u3 u4 u5 u6 s0 s1 s2 s3 s4 s5 s6 s7 s8 s9 s10 s11 x0 x1 x2 x3 x4 x5 x6 x7 x8 x9 x10 x11
        refine (tidingsref01_Has.calls 100000 _ _ m6 _ _ false _ (Kd.C_below N6.out HB9.out) J6.out K2.out).mono ?_
        rintro ev w10 ⟨rfl, hx0⟩
        have hx := hx0.below
        clear hx0
        have P10 := Aside0.mk (blk_below P9.out hx)
        have E10 := Aside0.mk (blk_below E9.out hx)
        have HB10 := Aside0.mk (below_step HB9.out hx)
        have HBW10 := Aside0.mk (below_step HBW9.out hx)
        clear hx P9 E9 HB9 HBW9
        obtain ⟨s0, s1, s2, s3, s4, s5, s6, s7, s8, s9, s10, s11⟩ := cells12 P10.out
        obtain ⟨u0, u1, u2, u3, u4, u5, u6⟩ := cells7 E10.out
        by_cases hk1 : X.f2 = 1
        · have kc : decide (X.f2 = 1) = true := decide_eq_true hk1
          have kd : (X.f2 == 1) = true := by simp [hk1]
          have K4 := Aside0.mk (K3.out hk1)
          clear hk1
          go_wp2_with fail
          refine (tidingsref02_In.calls 100000 _ _ _ _ _ _ _ _ true _ K4.out).mono ?_
          rintro ev w11 ⟨rfl, hx⟩
          have HBW11 := Aside0.mk (below_step HBW10.out hx)
          clear hx
          go_wp2_with fail
          go_roundg (L.length - (kk + 1))
          case measure => omega
          case rel => exact ⟨kk + 1, by omega, Nat.le_refl _, by go_num, HBW11⟩
        · have kc : decide (X.f2 = 1) = false := decide_eq_false hk1
          have kd : (X.f2 == 1) = false := by simp [hk1]
          clear hk1
          go_wp2_with fail
          go_roundg (L.length - (kk + 1))
          case measure => omega
          case rel => exact ⟨kk + 1, by omega, Nat.le_refl _, by go_num, HBW10⟩
      · have hltz : ¬ (kk : Int) < (L.length : Int) := by omega
        have fz := FZ7.out _ BW.out
        obtain ⟨x0, x1, x2, x3, x4, x5, x6, x7, x8, x9, x10, x11⟩ := cells12 X8.out
        have P9 := Aside0.mk (show (wr.setCell ⟨w.heap.size + 1, 4, none⟩ (.int .u8 nx)).heap[w.heap.size + 1]? = some (.cells #[.int .i64 b0, .int .u8 b1, .int .u8 b2, .int .u32 b3, .int .u8 nx, .int .u8 b5, .slice M6 m6.length d6, .int .u32 b7, .slice M8 m8.length d8, .int .u8 b9, .bool b10, .slice M11 m11.length d11] 53 (0, 0)) from blk_put P8.out 4 _ rfl)
        have B9 := Aside0.mk (blk_far B8.out (p := ⟨w.heap.size + 1, 4, none⟩) (by simp) (.int .u8 nx))
        have HB9 := Aside0.mk (below_set (j := 4) (v := .int .u8 nx) HB8.out (Nat.le_succ w.heap.size))
        have DR9 := Aside0.mk (Kd.R_far (p := ⟨w.heap.size + 1, 4, none⟩) (Kd.R_below DR7.out BW.out) (fun k hk => hk) (.int .u8 nx))
        obtain ⟨q0, q1, q2, q3, q4, q5, q6, q7, q8, q9, q10, q11, q12⟩ := cells13 B9.out
        obtain ⟨s0, s1, s2, s3, s4, s5, s6, s7, s8, s9, s10, s11⟩ := cells12 P9.out
        obtain ⟨qt0, qt1, qt2, qt3, qt4, qt5, qt6, qt7, qt8, qt9, qt10, qt11, qt12⟩ := cells13 B8.out
        obtain ⟨st0, st1, st2, st3, st4, st5, st6, st7, st8, st9, st10, st11⟩ := cells12 P8.out
        go_wp2_with fail
        clear q0 q1 q2 q3 q4 q5 q6 q7 q8 q9 q10 q11 q12 s0 s1 s2 s3 s4 s5 s6 s7 s8 s9 s10 s11 x0 x1 x2 x3 x4 x5 x6 x7 x8 x9 x10 x11
        clear qt0 qt1 qt2 qt3 qt4 qt5 qt6 qt7 qt8 qt9 qt10 qt11 qt12 st0 st1 st2 st3 st4 st5 st6 st7 st8 st9 st10 st11
        clear fz
        generalize wr.setCell ⟨w.heap.size + 1, 4, none⟩ (.int .u8 nx) = w9 at P9 B9 HB9 DR9 ⊢
        clear B8 P8 X8 HB8 BW
        obtain ⟨r1, r2⟩ := HR2.out hd4
        refine (source_Due.calls 100000 a0 a1 a2 a3 _ _ l4 _ _ l5 a6 a7 a8 a9 a10 _ _ l11 a12 b0 b1 b2 b3 nx b5 _ _ m6 b7 _ _ m8 b9 b10 _ _ m11 (D.drop 4) none _ (Kd.C_below R4.out HB9.out) I4.out (Kd.C_below R5.out HB9.out) I5.out (Kd.C_below R11.out HB9.out) I11.out (Kd.C_below N6.out HB9.out) J6.out (Kd.C_below N8.out HB9.out) J8.out (Kd.C_below N11.out HB9.out) J11.out r1).mono ?_
        rintro ev w10 ⟨v0, rfl, hRD, hx⟩
        obtain ⟨T1, e1, rfl, he1, hCD⟩ := Kd.R_reads hRD
        have HB10 := Aside0.mk (below_step HB9.out hx)
        have CD := Aside0.mk hCD
        have HE1 := Aside0.mk he1
        have DR10 := Aside0.mk (Kd.R_below DR9.out hx)
        obtain ⟨hn1, hn2, hC0⟩ := Kd.R_reads' DR10.out
        have CE := Aside0.mk (show Kd.C k27 w10 (T0.map (·.add (4 * 7))) (D.drop 4).length (D.drop 4) by
          have h := Kd.C_drop (m := 4) hC0 (by omega) HE0.out
          rwa [if_neg (by have := HE0.out; omega)] at h)
        obtain ⟨ie, hie, _, hse, _⟩ := info_parts info27
        have hcut : ∀ W : World, (Instr.slice 22 (.slice T0 D.length e0) (some (.int .i64 4)) none none).run Try.prog W = .ok (.slice (T0.map (·.add (4 * 7))) (D.drop 4).length (e0 - 4)) W := by
          intro W
          rw [cut_from (P := Try.prog) 22 27 .i64 Try.underlying22 hie 7 hse T0 D.length e0 4 (by decide) (by omega) W, if_neg (by have := HE0.out; show ¬ e0 = 4; omega), List.length_drop]
          rfl
        have HS := Aside0.mk r2
        have HE4 := Aside0.mk (show (D.drop 4).length ≤ e0 - 4 by have := HE0.out; rw [List.length_drop]; omega)
        clear hx hRD he1 hCD hC0 hn1 hn2 B9 P9 HB9 DR9 DR10 hie hse r1 r2
        generalize T0.map (·.add (4 * 7)) = T4 at hcut CE
        generalize e0 - 4 = e4 at hcut HE4
        generalize D.drop 4 = D4 at hcut CE HS HE4 HE1 CD ⊢
        go_wp2_with fail
        refine (tidingsref02_Same.calls 100000 _ _ D4 _ _ D4 true _ CD.out HE1.out CE.out HE4.out HS.out).mono ?_
        rintro ev w11 ⟨rfl, hx0⟩
        go_wp2_with fail
        go_ret
        exact ⟨rfl, below_step HB10.out hx0.below⟩
set_option maxHeartbeats 4000000 in
theorem SourceFits_law (w : World) (x0 : S51) (x1 : S53) (o0 : Ok_Replica x0) (o1 : Ok_Note x1) {A4 A5 A11 M6 M8 M11 : Option Addr} {c4 c5 c11 d6 d8 d11 : Nat} (r4 : Kd.C k78 w A4 x0.f4.length x0.f4) (i4 : x0.f4.length ≤ c4) (r5 : Kd.C k27 w A5 x0.f5.length x0.f5) (i5 : x0.f5.length ≤ c5) (r11 : Kd.C k78 w A11 x0.f6.f5.length x0.f6.f5) (i11 : x0.f6.f5.length ≤ c11) (n6 : Kd.C k78 w M6 x1.f6.length x1.f6) (j6 : x1.f6.length ≤ d6) (n8 : Kd.C k27 w M8 x1.f8.length x1.f8) (j8 : x1.f8.length ≤ d8) (n11 : Kd.C k78 w M11 x1.f11.length x1.f11) (j11 : x1.f11.length ≤ d11) :
    Calls Try.prog 6 #[.agg #[.int .u8 x0.f0, .int .u8 x0.f1, .int .u32 x0.f2, .int .u32 x0.f3, .slice A4 x0.f4.length c4, .slice A5 x0.f5.length c5, .bool x0.f6.f0, .int .u32 x0.f6.f1, .int .u8 x0.f6.f2, .int .u8 x0.f6.f3, .int .u32 x0.f6.f4, .slice A11 x0.f6.f5.length c11, .int .u32 x0.f6.f6], .agg #[.int .i64 x1.f0, .int .u8 x1.f1, .int .u8 x1.f2, .int .u32 x1.f3, .int .u8 x1.f4, .int .u8 x1.f5, .slice M6 x1.f6.length d6, .int .u32 x1.f7, .slice M8 x1.f8.length d8, .int .u8 x1.f9, .bool x1.f10, .slice M11 x1.f11.length d11]] w fun e w' => e = .returned (.bool true) ∧ Below w.heap.size w w' := by
  obtain ⟨p0, p1, p2, p3, p4, p5, q0, q1, q2, q3, q4, q5, q6⟩ := o0
  obtain ⟨s0, s1, s2, s3, s4, s5, s6, s7, s8, s9, s10, s11⟩ := o1
  cases e5 : (decide (x0.f4.length ≤ 300) && decide (x0.f5.length ≤ 300) && decide (x0.f6.f5.length ≤ 300)) with
  | false =>
    refine SourceFits_long x0.f0 x0.f1 x0.f2 x0.f3 x0.f4 x0.f5 x0.f6.f0 x0.f6.f1 x0.f6.f2 x0.f6.f3 x0.f6.f4 x0.f6.f5 x0.f6.f6 A4 A5 A11 c4 c5 c11 x1.f0 x1.f1 x1.f2 x1.f3 x1.f4 x1.f5 x1.f6 x1.f7 x1.f8 x1.f9 x1.f10 x1.f11 M6 M8 M11 d6 d8 d11 w r4 i4 r5 i5 r11 i11 n6 j6 n8 j8 n11 j11 ?_
    unfold tidingsref05_Short.f
    by_cases h1 : x0.f4.length ≤ 300 <;> by_cases h2 : x0.f5.length ≤ 300 <;> by_cases h3 : x0.f6.f5.length ≤ 300 <;> simp [h1, h2, h3] at e5 ⊢ <;> omega
  | true =>
  simp only [Bool.and_eq_true, decide_eq_true_eq] at e5
  obtain ⟨⟨h4, h5⟩, h11⟩ := e5
  have H5 : tidingsref05_Short.f x0.f0 x0.f1 x0.f2 x0.f3 x0.f4 x0.f5 x0.f6.f0 x0.f6.f1 x0.f6.f2 x0.f6.f3 x0.f6.f4 x0.f6.f5 x0.f6.f6 = some true := by
    unfold tidingsref05_Short.f
    rw [if_pos (by omega), if_pos (by omega), decide_eq_true (by omega)]
  cases e4 : (decide (x1.f6.length ≤ 300) && decide (x1.f8.length ≤ 300) && decide (x1.f11.length ≤ 300)) with
  | false =>
    refine SourceFits_long2 x0.f0 x0.f1 x0.f2 x0.f3 x0.f4 x0.f5 x0.f6.f0 x0.f6.f1 x0.f6.f2 x0.f6.f3 x0.f6.f4 x0.f6.f5 x0.f6.f6 A4 A5 A11 c4 c5 c11 x1.f0 x1.f1 x1.f2 x1.f3 x1.f4 x1.f5 x1.f6 x1.f7 x1.f8 x1.f9 x1.f10 x1.f11 M6 M8 M11 d6 d8 d11 w r4 i4 r5 i5 r11 i11 n6 j6 n8 j8 n11 j11 H5 ?_
    unfold tidingsref04_Short.f
    by_cases h1 : x1.f6.length ≤ 300 <;> by_cases h2 : x1.f8.length ≤ 300 <;> by_cases h3 : x1.f11.length ≤ 300 <;> simp [h1, h2, h3] at e4 ⊢ <;> omega
  | true =>
  simp only [Bool.and_eq_true, decide_eq_true_eq] at e4
  obtain ⟨⟨k6, k8⟩, k11⟩ := e4
  have H4 : tidingsref04_Short.f x1.f0 x1.f1 x1.f2 x1.f3 x1.f4 x1.f5 x1.f6 x1.f7 x1.f8 x1.f9 x1.f10 x1.f11 = some true := by
    unfold tidingsref04_Short.f
    rw [if_pos (by omega), if_pos (by omega), decide_eq_true (by omega)]
  rcases fits x0.f0 x0.f1 x0.f2 x0.f3 x0.f4 x0.f5 x0.f6.f0 x0.f6.f1 x0.f6.f2 x0.f6.f3 x0.f6.f4 x0.f6.f5 x0.f6.f6 x1.f0 x1.f1 x1.f2 x1.f3 x1.f4 x1.f5 x1.f6 x1.f7 x1.f8 x1.f9 x1.f10 x1.f11 h4 h5 h11 p4 p5 q5 p1 k6 k8 k11 s6 s8 s11 s5 s4 with ⟨c, hc⟩ | ⟨D, L, nx, of, hA, hD, _, hN, _, hl4, hlp, hr2⟩
  · exact SourceFits_err x0.f0 x0.f1 x0.f2 x0.f3 x0.f4 x0.f5 x0.f6.f0 x0.f6.f1 x0.f6.f2 x0.f6.f3 x0.f6.f4 x0.f6.f5 x0.f6.f6 A4 A5 A11 c4 c5 c11 x1.f0 x1.f1 x1.f2 x1.f3 x1.f4 x1.f5 x1.f6 x1.f7 x1.f8 x1.f9 x1.f10 x1.f11 M6 M8 M11 d6 d8 d11 w r4 i4 r5 i5 r11 i11 n6 j6 n8 j8 n11 j11 H5 H4 c hc
  · exact SourceFits_main x0.f0 x0.f1 x0.f2 x0.f3 x0.f4 x0.f5 x0.f6.f0 x0.f6.f1 x0.f6.f2 x0.f6.f3 x0.f6.f4 x0.f6.f5 x0.f6.f6 A4 A5 A11 c4 c5 c11 x1.f0 x1.f1 x1.f2 x1.f3 x1.f4 x1.f5 x1.f6 x1.f7 x1.f8 x1.f9 x1.f10 x1.f11 M6 M8 M11 d6 d8 d11 w r4 i4 r5 i5 r11 i11 n6 j6 n8 j8 n11 j11 H5 H4 L D nx of _ rfl hl4 hD hN hlp hr2 hA
end Go.Proofs.Ytiminjibcafkaaa.X
