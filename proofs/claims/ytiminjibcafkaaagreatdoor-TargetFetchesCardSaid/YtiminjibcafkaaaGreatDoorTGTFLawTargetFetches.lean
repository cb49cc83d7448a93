/- The law tidingslaw07.TargetFetches returns true at every input, and its arguments read behind the call as they read before: the row. -/
import Derived.Test.YtiminjibcafkaaaGreatDoorCards
import Derived.Test.YtiminjibcafkaaaGreatDoorTie
import Derived.Test.YtiminjibcafkaaaGreatDoorTGTFlaw
import Derived.Test.YtiminjibcafkaaaGreatDoorTGTAXop
import Derived.WalkKit
import Derived.ProofKit
import Derived.OpenShut
import Derived.ShutString
import Derived.ChangeOld
import Derived.Below
import Derived.Carry
import Derived.SizedLaws
import Derived.ChangeAt
import Derived.WideShapes
import Derived.RowKit
import Derived.LaidLaws
import Derived.LaidHandle
import Derived.Deep.DeepHandedRow
import Derived.SevenTiedAt
set_option linter.unusedVariables false
namespace Go.Proofs.YtiminjibcafkaaaGreatDoor.targetFetches
open Go Go.ChangeShapes Go.WideShapes Go.ChangeAt Go.RowKit Go.Proofs.YtiminjibcafkaaaGreatDoor.X Go.Proofs.YtiminjibcafkaaaGreatDoorW.PrintWords Go.Proofs.YtiminjibcafkaaaGreatDoorW.PrintLast Go.Proofs.YtiminjibcafkaaaGreatDoorW.PrintMore
theorem own : ownKnob Tryz.prog.godebug = none := by kernel_rfl
theorem laidOut : laidOutB Tryz.prog = true := by kernel_rfl
theorem et : Tryz.prog.globalNamed "errors.errorType" = some 0 := by kernel_rfl
theorem rt : (Tryz.prog.cutTypes.find? (·.1 == "internal/reflectlite.rtype")).map (·.2) = some 145 := by kernel_rfl
theorem oneRow : ((List.range 214).filter fun t => Tryz.prog.rowNamed t [101, 114, 114, 111, 114]) = [35] := by kernel_rfl
theorem nTypes : Tryz.prog.types.size = 214 := by kernel_rfl
theorem handle_of_laid {W : World} (h : laidMetH Tryz.prog Rows.targetFetchesRow.laid W) : GT W := by
  have h' : laidMet Tryz.prog [] W ∧ handlesMet Tryz.prog Rows.targetFetchesRow.laid W := h
  obtain ⟨name, u, ty, e1, e2, e3, e4, e5⟩ := h'.2 _ (List.mem_singleton.2 rfl)
  have en : name = [101, 114, 114, 111, 114] := (Option.some.inj e1).symm
  subst en
  obtain rfl := Option.some.inj (rt.symm.trans e2)
  have hm : ty ∈ (List.range 214).filter fun t => Tryz.prog.rowNamed t [101, 114, 114, 111, 114] := List.mem_filter.2 ⟨List.mem_range.2 (by rw [← nTypes]; exact e3), e4⟩
  rw [oneRow] at hm
  obtain rfl := List.mem_singleton.1 hm
  have hh : typeHandle Tryz.prog 35 = .pointer (some ⟨1, 35, none⟩) := by kernel_rfl
  rw [hh] at e5
  unfold GT
  simpa using World.var?_cell et e5 0
noncomputable def laidWorld (os : Os) : World :=
  let w0 := World.holding Tryz.prog os ⟨#[], #[], []⟩
  { w0 with heap := w0.heap.modify 0 fun
      | .cells _ t frozen => .cells #[.iface 145 (.agg #[.pointer (some ⟨1, 35, none⟩)])] t frozen
      | o => o }
theorem laid_met (os : Os) (args : Array Value) : laidMetH Tryz.prog Rows.targetFetchesRow.laid ((laidWorld os).forCall (fun _ _ => 0) ⟨#[], args, []⟩).memory :=
  laidMetH_of_parts (laidMet_nil _ _) (by kernel_rfl)
set_option maxRecDepth 100000 in
theorem lifted (os : Os) (started : os.Started) (H : Type) (enc : TypeId × Value → H) (F : Stop.Interp) :
    ReturnsInHanded {} Tryz.checked os 5 .any ((OpenSpec.ofChange Rows.targetFetchesSpec).preRow enc Tryz.prog Tryz.f5 Rows.targetFetchesRow.domain false Rows.targetFetchesRow.laid) (((OpenSpec.ofChange Rows.targetFetchesSpec).at F).post enc Tryz.prog Tryz.f5 false true false false) := by
  refine returnsInHanded_of_row (C := Tryz.checked) (s := OpenSpec.ofChange Rows.targetFetchesSpec) own started (by kernel_rfl) Tryz.func5
    (witness_row_at (enc := enc) (C := Tryz.checked) false (laidWorld os) #[.agg #[.int .u8 0, .int .u8 0, .int .u32 0, .int .u32 0, .slice none 0 0, .slice none 0 0, .bool false, .int .u32 0, .int .u8 0, .int .u8 0, .int .u32 0, .slice none 0 0, .int .u32 0], .agg #[.int .u8 0, .int .u8 0, .int .u32 0, .int .u32 0, .slice none 0 0, .slice none 0 0, .bool false, .int .u32 0, .int .u8 0, .int .u8 0, .int .u32 0, .slice none 0 0, .int .u32 0]] rfl (by kernel_rfl) (by kernel_rfl) (by kernel_rfl)
      ⟨⟨ChangeSpec.pre_of_preB (fuel := 8) (by kernel_rfl), laid_met os _⟩, sizedMet_of_sizedB (fuel := 8) (by kernel_rfl)⟩) ?_
  intro W base args ds gs before hval0 hW hcnd hkc hsz0 hL hso _
  have hval : ∀ (j : Nat) t v, Tryz.f5.params[j]? = some t → args[j]? = some v → Value.okWide Tryz.prog W .any base t v := hval0
  have hW' := hW
  obtain ⟨p, q, hA0, hV, rfl, hfz, hnd⟩ := hW
  have hA : DataW.TrodAll enc Tryz.prog W 0 (fun _ => true) true Tryz.f5.params.toList args.toList ds p := hA0
  rw [Tryz.params5] at hA hval
  obtain ⟨v0, vs0, d0, ds0, p0, q0, hargs, rfl, rfl, h0, r0⟩ := trodAll_cons hA
  obtain ⟨v1, vs1, d1, ds1, p1, q1, rfl, rfl, rfl, h1, r1⟩ := trodAll_cons r0
  obtain ⟨rfl, rfl, rfl⟩ := trodAll_nil r1
  obtain rfl : args = #[v0, v1] := by cases args; simp_all
  obtain ⟨rfl, rfl⟩ := trodVars_none hV
  have k0 := h0
  have lt0 : ∀ x ∈ p0, x.block < W.heap.size := by obtain ⟨m, hm⟩ := k0; exact DataW.trod_lt m _ _ _ hm
  obtain ⟨cs0, rfl, _⟩ := okWide_struct Tryz.underlying28 (hval 0 28 v0 rfl rfl)
  obtain ⟨fuel0, hf0⟩ := h0
  obtain ⟨x0, e0, o0⟩ := op_Replica hf0
  obtain ⟨A0_4, p0_4, A0_5, p0_5, A0_11, p0_11, e0, l0_4, g0_4, l0_5, g0_5, l0_11, g0_11⟩ := k28_open e0
  obtain rfl : cs0 = #[Value.int .u8 x0.f0, Value.int .u8 x0.f1, Value.int .u32 x0.f2, Value.int .u32 x0.f3, Value.slice A0_4 x0.f4.length p0_4, Value.slice A0_5 x0.f5.length p0_5, Value.bool x0.f6.f0, Value.int .u32 x0.f6.f1, Value.int .u8 x0.f6.f2, Value.int .u8 x0.f6.f3, Value.int .u32 x0.f6.f4, Value.slice A0_11 x0.f6.f5.length p0_11, Value.int .u32 x0.f6.f6] := Array.toList_inj.1 e0
  have k1 := h1
  have lt1 : ∀ x ∈ p1, x.block < W.heap.size := by obtain ⟨m, hm⟩ := k1; exact DataW.trod_lt m _ _ _ hm
  obtain ⟨cs1, rfl, _⟩ := okWide_struct Tryz.underlying28 (hval 1 28 v1 rfl rfl)
  obtain ⟨fuel1, hf1⟩ := h1
  obtain ⟨x1, e1, o1⟩ := op_Replica hf1
  obtain ⟨A1_4, p1_4, A1_5, p1_5, A1_11, p1_11, e1, l1_4, g1_4, l1_5, g1_5, l1_11, g1_11⟩ := k28_open e1
  obtain rfl : cs1 = #[Value.int .u8 x1.f0, Value.int .u8 x1.f1, Value.int .u32 x1.f2, Value.int .u32 x1.f3, Value.slice A1_4 x1.f4.length p1_4, Value.slice A1_5 x1.f5.length p1_5, Value.bool x1.f6.f0, Value.int .u32 x1.f6.f1, Value.int .u8 x1.f6.f2, Value.int .u8 x1.f6.f3, Value.int .u32 x1.f6.f4, Value.slice A1_11 x1.f6.f5.length p1_11, Value.int .u32 x1.f6.f6] := Array.toList_inj.1 e1
  clear hA0 hval0 hsz0
  refine (TargetFetches_law W x0 x1 o0 o1 (handle_of_laid hL) g0_4 l0_4 g0_5 l0_5 g0_11 l0_11 g1_4 l1_4 g1_5 l1_5 g1_11 l1_11).mono fun e W' ⟨he, bel⟩ => ?_
  subst he
  exact ⟨_, rfl, _, _, _, [], _, [], hW', trodAll_mk1 (shut_bool Tryz.underlying4 _), (trodAll_cons_mk (Below.trod laidOut (by kernel_rfl) (of_decide_eq_true (by kernel_rfl)) k0 bel lt0) (trodAll_cons_mk (Below.trod laidOut (by kernel_rfl) (of_decide_eq_true (by kernel_rfl)) k1 bel lt1) trodAll_mk0)), rfl, bel.frame _, fun h => by cases h⟩
theorem said : Rows.TargetFetchesSaid :=
  OpenClaim.holds_of_cond 5 Tryz.f5 rfl rfl rfl rfl rfl rfl rfl ⟨rfl, rfl, rfl, rfl, rfl⟩ rfl rfl rfl rfl rfl (by kernel_rfl) Tryz.func5 (by kernel_rfl)
    (of_decide_eq_true (by kernel_rfl)) (by unfold Func.isWrapper; first | (rw [if_pos (by decide +kernel)]; kernel_rfl) | (rw [if_neg (by decide +kernel)]; exact ⟨rfl, rfl⟩))
    (fun os started H enc _ F => by rw [OpenClaim.pre_eq_preRow]; exact lifted os started H enc F)
theorem plain (f : FuncId) (fn : Func) (hf : Tryz.pinned.checked.prog.funcNamed "tidings/tidingslaw07.TargetFetches" = some f) (hfn : Tryz.pinned.checked.prog.funcs[f]? = some fn) :
    true = Tryz.pinned.checked.prog.looks [] ∧ ∀ (j : Nat) t, fn.params[j]? = some t → Tryz.pinned.checked.prog.wantsStandIn t = false := by
  obtain rfl : f = 5 := Option.some.inj ((show Tryz.prog.funcNamed "tidings/tidingslaw07.TargetFetches" = some 5 by kernel_rfl).symm.trans hf) |>.symm
  obtain rfl : fn = Tryz.f5 := (Option.some.inj (Tryz.func5.symm.trans hfn)).symm
  refine ⟨by kernel_rfl, fun j t ht => ?_⟩
  rw [Tryz.params5] at ht
  have hm := Array.mem_of_getElem? ht
  simp only [List.mem_toArray, List.mem_cons, List.not_mem_nil, or_false] at hm
  rcases hm with rfl | rfl
  · exact (show Tryz.prog.wantsStandIn 28 = false by kernel_rfl)
  · exact (show Tryz.prog.wantsStandIn 28 = false by kernel_rfl)
theorem card : Rows.TargetFetchesCardSaid :=
  Claim7.holds_tied_plain_at .later [] _ _ _ _ said (fun _ h => by cases h) (by kernel_rfl) (fun _ h => by cases h) targetFetches_row_tie rfl ⟨rfl, rfl⟩ (by kernel_rfl) rfl plain (by kernel_rfl)
#print axioms card
end Go.Proofs.YtiminjibcafkaaaGreatDoor.targetFetches
namespace Go.Proofs.YtiminjibcafkaaaGreatDoor
theorem targetFetches_holds : Rows.TargetFetchesCardSaid := targetFetches.card
end Go.Proofs.YtiminjibcafkaaaGreatDoor
