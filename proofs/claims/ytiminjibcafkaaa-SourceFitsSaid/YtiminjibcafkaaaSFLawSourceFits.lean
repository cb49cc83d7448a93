/- The law tidingslaw06.SourceFits returns true at every input, and its arguments read behind the call as they read before: the row. -/
import Derived.Test.YtiminjibcafkaaaRows
import Derived.Test.YtiminjibcafkaaaSFXlawSourceFits
import Derived.Test.YtiminjibcafkaaaSFXop
import Derived.Test.YtiminjibcafkaaaSFJ40
import Derived.WalkKit
import Derived.ProofKit
import Derived.OpenShut
import Derived.ShutString
import Derived.ChangeOld
import Derived.Below
import Derived.Carry
import Derived.SizedLaws
import Derived.ChangeAt
import Derived.WideShapes
import Derived.RowKit
namespace Go.Proofs.Ytiminjibcafkaaa.sourceFits
open Go.ChangeShapes Go.WideShapes Go.ChangeAt Go.RowKit Go.Proofs.Ytiminjibcafkaaa.X Go.Proofs.YtiminjibcafkaaaW.PrintWords Go.Proofs.YtiminjibcafkaaaW.PrintLast Go.Proofs.YtiminjibcafkaaaW.PrintMore
set_option linter.unusedVariables false
theorem own : ownKnob Try.prog.godebug = none := by kernel_rfl
theorem laidOut : laidOutB Try.prog = true := by kernel_rfl
set_option maxRecDepth 100000 in
theorem lifted (os : Os) (started : os.Started) (H : Type) (enc : TypeId × Value → H) :
    ReturnsInHanded {} Try.checked os 6 .any (Rows.sourceFitsSpec.pre6 enc Try.prog Try.f6 Rows.sourceFitsRow.domain false) (Rows.sourceFitsSpec.post enc Try.prog Try.f6 false true false false) := by
  refine returnsInHanded_of_change_sized (C := Try.checked) own started (by kernel_rfl) Try.func6
    (ChangeSpec.witness6 (enc := enc) (C := Try.checked) false ⟨#[], #[.agg #[.int .u8 0, .int .u8 0, .int .u32 0, .int .u32 0, .slice none 0 0, .slice none 0 0, .bool false, .int .u32 0, .int .u8 0, .int .u8 0, .int .u32 0, .slice none 0 0, .int .u32 0], .agg #[.int .i64 0, .int .u8 0, .int .u8 0, .int .u32 0, .int .u8 0, .int .u8 0, .slice none 0 0, .int .u32 0, .slice none 0 0, .int .u8 0, .bool false, .slice none 0 0]], []⟩ 8 (by kernel_rfl) (by kernel_rfl) (by kernel_rfl) (by kernel_rfl)) ?_
  intro W base args ds gs before hval0 hW hcnd hsz0 _
  have hval : ∀ (j : Nat) t v, Try.f6.params[j]? = some t → args[j]? = some v → Value.okWide Try.prog W .any base t v := hval0
  have hW' := hW
  obtain ⟨p, q, hA0, hV, rfl, hfz, hnd⟩ := hW
  have hA : DataW.TrodAll enc Try.prog W 0 (fun _ => true) true Try.f6.params.toList args.toList ds p := hA0
  rw [Try.params6] at hA hval
  obtain ⟨v0, vs0, d0, ds0, p0, q0, hargs, rfl, rfl, h0, r0⟩ := trodAll_cons hA
  obtain ⟨v1, vs1, d1, ds1, p1, q1, rfl, rfl, rfl, h1, r1⟩ := trodAll_cons r0
  obtain ⟨rfl, rfl, rfl⟩ := trodAll_nil r1
  obtain rfl : args = #[v0, v1] := by cases args; simp_all
  obtain ⟨rfl, rfl⟩ := trodVars_none hV
  have k0 := h0
  have lt0 : ∀ x ∈ p0, x.block < W.heap.size := by obtain ⟨m, hm⟩ := k0; exact DataW.trod_lt m _ _ _ hm
  obtain ⟨cs0, rfl, _⟩ := okWide_struct Try.underlying51 (hval 0 51 v0 rfl rfl)
  obtain ⟨fuel0, hf0⟩ := h0
  obtain ⟨x0, e0, o0⟩ := op_Replica hf0
  obtain ⟨A0_4, p0_4, A0_5, p0_5, A0_11, p0_11, e0, l0_4, g0_4, l0_5, g0_5, l0_11, g0_11⟩ := k51_open e0
  obtain rfl : cs0 = #[Value.int .u8 x0.f0, Value.int .u8 x0.f1, Value.int .u32 x0.f2, Value.int .u32 x0.f3, Value.slice A0_4 x0.f4.length p0_4, Value.slice A0_5 x0.f5.length p0_5, Value.bool x0.f6.f0, Value.int .u32 x0.f6.f1, Value.int .u8 x0.f6.f2, Value.int .u8 x0.f6.f3, Value.int .u32 x0.f6.f4, Value.slice A0_11 x0.f6.f5.length p0_11, Value.int .u32 x0.f6.f6] := Array.toList_inj.1 e0
  have k1 := h1
  have lt1 : ∀ x ∈ p1, x.block < W.heap.size := by obtain ⟨m, hm⟩ := k1; exact DataW.trod_lt m _ _ _ hm
  obtain ⟨cs1, rfl, _⟩ := okWide_struct Try.underlying53 (hval 1 53 v1 rfl rfl)
  obtain ⟨fuel1, hf1⟩ := h1
  obtain ⟨x1, e1, o1⟩ := op_Note hf1
  obtain ⟨A1_6, p1_6, A1_8, p1_8, A1_11, p1_11, e1, l1_6, g1_6, l1_8, g1_8, l1_11, g1_11⟩ := k53_open e1
  obtain rfl : cs1 = #[Value.int .i64 x1.f0, Value.int .u8 x1.f1, Value.int .u8 x1.f2, Value.int .u32 x1.f3, Value.int .u8 x1.f4, Value.int .u8 x1.f5, Value.slice A1_6 x1.f6.length p1_6, Value.int .u32 x1.f7, Value.slice A1_8 x1.f8.length p1_8, Value.int .u8 x1.f9, Value.bool x1.f10, Value.slice A1_11 x1.f11.length p1_11] := Array.toList_inj.1 e1
  clear hA0 hval0 hsz0
  refine (SourceFits_law W x0 x1 o0 o1 g0_4 l0_4 g0_5 l0_5 g0_11 l0_11 g1_6 l1_6 g1_8 l1_8 g1_11 l1_11).mono fun e W' ⟨he, bel⟩ => ?_
  subst he
  exact ⟨_, rfl, _, _, _, [], _, [], hW', trodAll_mk1 (shut_bool Try.underlying4 _), (trodAll_cons_mk (Below.trod laidOut (by kernel_rfl) (of_decide_eq_true (by kernel_rfl)) k0 bel lt0) (trodAll_cons_mk (Below.trod laidOut (by kernel_rfl) (of_decide_eq_true (by kernel_rfl)) k1 bel lt1) trodAll_mk0)), rfl, bel.frame _, fun h => by cases h⟩
theorem over : Rows.sourceFitsRow.holds Try.pinned (OpenSpec.ofChange Rows.sourceFitsSpec) :=
  OpenClaim.holds_of_wide 6 Try.f6 rfl rfl rfl rfl rfl rfl rfl ⟨rfl, rfl, rfl, rfl, rfl⟩ rfl rfl rfl rfl rfl (by kernel_rfl) Try.func6 (by kernel_rfl)
    (of_decide_eq_true (by kernel_rfl)) (by unfold Func.isWrapper; first | (rw [if_pos (by decide +kernel)]; kernel_rfl) | (rw [if_neg (by decide +kernel)]; exact ⟨rfl, rfl⟩))
    (fun os started H enc _ => lifted os started H enc)
theorem proved : Rows.SourceFitsSaid := over
#print axioms proved
end Go.Proofs.Ytiminjibcafkaaa.sourceFits
namespace Go.Proofs.Ytiminjibcafkaaa
/-- The row, under a short name, for the claim. -/
theorem sourceFits_holds : Rows.SourceFitsSaid := sourceFits.proved
end Go.Proofs.Ytiminjibcafkaaa
