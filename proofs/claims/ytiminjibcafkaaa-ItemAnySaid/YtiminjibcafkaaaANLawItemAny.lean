/- The law tidingslaw02.ItemAny returns true at every input, and its arguments read behind the call as they read before: the row. -/
import Derived.Test.YtiminjibcafkaaaRows
import Derived.Test.YtiminjibcafkaaaANXlawItemAny
import Derived.Test.YtiminjibcafkaaaANXop
import Derived.WalkKit
import Derived.ProofKit
import Derived.OpenShut
import Derived.ShutString
import Derived.ChangeOld
import Derived.Below
import Derived.Carry
import Derived.SizedLaws
import Derived.ChangeAt
import Derived.WideShapes
import Derived.RowKit
namespace Go.Proofs.Ytiminjibcafkaaa.itemAny
open Go.ChangeShapes Go.WideShapes Go.ChangeAt Go.RowKit Go.Proofs.Ytiminjibcafkaaa.X Go.Proofs.YtiminjibcafkaaaW.PrintWords Go.Proofs.YtiminjibcafkaaaW.PrintLast Go.Proofs.YtiminjibcafkaaaW.PrintMore
set_option linter.unusedVariables false
theorem own : ownKnob Try.prog.godebug = none := by kernel_rfl
theorem laidOut : laidOutB Try.prog = true := by kernel_rfl
set_option maxRecDepth 100000 in
theorem lifted (os : Os) (started : os.Started) (H : Type) (enc : TypeId × Value → H) :
    ReturnsInHanded {} Try.checked os 3 .any (Rows.itemAnySpec.pre6 enc Try.prog Try.f3 Rows.itemAnyRow.domain false) (Rows.itemAnySpec.post enc Try.prog Try.f3 false true false false) := by
  refine returnsInHanded_of_change_sized (C := Try.checked) own started (by kernel_rfl) Try.func3
    (ChangeSpec.witness6 (enc := enc) (C := Try.checked) false ⟨#[], #[.slice none 0 0, .agg #[.int .u8 0, .int .u8 0, .int .u32 0, .int .u32 0, .int .i64 0, .int .u8 0, .int .u32 0, .int .u8 0, .int .u8 0, .int .u32 0, .int .u32 0, .int .i64 0, .int .u8 0, .int .u32 0, .int .u8 0, .int .u8 0, .int .u32 0, .int .u32 0, .int .i64 0, .int .u8 0, .int .u32 0], .int .u8 0, .int .u8 0, .int .u8 0], []⟩ 8 (by kernel_rfl) (by kernel_rfl) (by kernel_rfl) (by kernel_rfl)) ?_
  intro W base args ds gs before hval0 hW hcnd hsz0 _
  have hval : ∀ (j : Nat) t v, Try.f3.params[j]? = some t → args[j]? = some v → Value.okWide Try.prog W .any base t v := hval0
  have hW' := hW
  obtain ⟨p, q, hA0, hV, rfl, hfz, hnd⟩ := hW
  have hA : DataW.TrodAll enc Try.prog W 0 (fun _ => true) true Try.f3.params.toList args.toList ds p := hA0
  rw [Try.params3] at hA hval
  obtain ⟨v0, vs0, d0, ds0, p0, q0, hargs, rfl, rfl, h0, r0⟩ := trodAll_cons hA
  obtain ⟨v1, vs1, d1, ds1, p1, q1, rfl, rfl, rfl, h1, r1⟩ := trodAll_cons r0
  obtain ⟨v2, vs2, d2, ds2, p2, q2, rfl, rfl, rfl, h2, r2⟩ := trodAll_cons r1
  obtain ⟨v3, vs3, d3, ds3, p3, q3, rfl, rfl, rfl, h3, r3⟩ := trodAll_cons r2
  obtain ⟨v4, vs4, d4, ds4, p4, q4, rfl, rfl, rfl, h4, r4⟩ := trodAll_cons r3
  obtain ⟨rfl, rfl, rfl⟩ := trodAll_nil r4
  obtain rfl : args = #[v0, v1, v2, v3, v4] := by cases args; simp_all
  obtain ⟨rfl, rfl⟩ := trodVars_none hV
  have k0 := h0
  have lt0 : ∀ x ∈ p0, x.block < W.heap.size := by obtain ⟨m, hm⟩ := k0; exact DataW.trod_lt m _ _ _ hm
  obtain ⟨a0, len0, cap0, rfl⟩ := okWide_slice Try.underlying22 (hval 0 22 v0 rfl rfl)
  obtain ⟨fuel0, hf0⟩ := h0
  obtain ⟨A0, x0, c0, e0, g0, l0, o0⟩ := op_rowEntry hf0
  simp only [Value.cells, List.cons.injEq, Value.slice.injEq, and_true] at e0
  obtain ⟨rfl, rfl, rfl⟩ := e0
  have k1 := h1
  have lt1 : ∀ x ∈ p1, x.block < W.heap.size := by obtain ⟨m, hm⟩ := k1; exact DataW.trod_lt m _ _ _ hm
  obtain ⟨cs1, rfl, _⟩ := okWide_array Try.underlying28 (hval 1 28 v1 rfl rfl)
  obtain ⟨fuel1, hf1⟩ := h1
  obtain ⟨x1_0, x1_1, x1_2, e1, o1_0, o1_1, o1_2⟩ := op_arr3 hf1
  obtain rfl : cs1 = #[Value.int .u8 x1_0.f0, Value.int .u8 x1_0.f1.f0, Value.int .u32 x1_0.f1.f1, Value.int .u32 x1_0.f1.f2, Value.int .i64 x1_0.f2, Value.int .u8 x1_0.f3, Value.int .u32 x1_0.f4, Value.int .u8 x1_1.f0, Value.int .u8 x1_1.f1.f0, Value.int .u32 x1_1.f1.f1, Value.int .u32 x1_1.f1.f2, Value.int .i64 x1_1.f2, Value.int .u8 x1_1.f3, Value.int .u32 x1_1.f4, Value.int .u8 x1_2.f0, Value.int .u8 x1_2.f1.f0, Value.int .u32 x1_2.f1.f1, Value.int .u32 x1_2.f1.f2, Value.int .i64 x1_2.f2, Value.int .u8 x1_2.f3, Value.int .u32 x1_2.f4] := Array.toList_inj.1 e1
  obtain ⟨x2, rfl, rfl, rfl, w2⟩ := open_int Try.underlying5 (hval 2 5 v2 rfl rfl) h2
  have o2 := wf8 w2
  obtain ⟨x3, rfl, rfl, rfl, w3⟩ := open_int Try.underlying5 (hval 3 5 v3 rfl rfl) h3
  have o3 := wf8 w3
  obtain ⟨x4, rfl, rfl, rfl, w4⟩ := open_int Try.underlying5 (hval 4 5 v4 rfl rfl) h4
  have o4 := wf8 w4
  clear hA0 hval0 hsz0
  refine (ItemAny_law W x0 x1_0 x1_1 x1_2 x2 x3 x4 o0 o1_0 o1_1 o1_2 o2 o3 o4 g0 l0).mono fun e W' ⟨he, bel⟩ => ?_
  subst he
  exact ⟨_, rfl, _, _, _, [], _, [], hW', trodAll_mk1 (shut_bool Try.underlying4 _), (trodAll_cons_mk (Below.trod laidOut (by kernel_rfl) (of_decide_eq_true (by kernel_rfl)) k0 bel lt0) (trodAll_cons_mk (Below.trod laidOut (by kernel_rfl) (of_decide_eq_true (by kernel_rfl)) k1 bel lt1) (trodAll_cons_mk (shut_int Try.underlying5 w2) (trodAll_cons_mk (shut_int Try.underlying5 w3) (trodAll_cons_mk (shut_int Try.underlying5 w4) trodAll_mk0))))), rfl, bel.frame _, fun h => by cases h⟩
theorem over : Rows.itemAnyRow.holds Try.pinned (OpenSpec.ofChange Rows.itemAnySpec) :=
  OpenClaim.holds_of_wide 3 Try.f3 rfl rfl rfl rfl rfl rfl rfl ⟨rfl, rfl, rfl, rfl, rfl⟩ rfl rfl rfl rfl rfl (by kernel_rfl) Try.func3 (by kernel_rfl)
    (of_decide_eq_true (by kernel_rfl)) (by unfold Func.isWrapper; first | (rw [if_pos (by decide +kernel)]; kernel_rfl) | (rw [if_neg (by decide +kernel)]; exact ⟨rfl, rfl⟩))
    (fun os started H enc _ => lifted os started H enc)
theorem proved : Rows.ItemAnySaid := over
#print axioms proved
end Go.Proofs.Ytiminjibcafkaaa.itemAny
namespace Go.Proofs.Ytiminjibcafkaaa
/-- The row, under a short name, for the claim. -/
theorem itemAny_holds : Rows.ItemAnySaid := itemAny.proved
end Go.Proofs.Ytiminjibcafkaaa
