/- The law ItemTells at every input. -/
import Derived.Test.YtiminjibcafkaaaITXwItemTells
import Derived.Test.YtiminjibcafkaaaITXpureitem2
namespace Go.Proofs.Ytiminjibcafkaaa.X
open Go.RowKit Go.Proofs.YtiminjibcafkaaaW.PrintWords Go.Proofs.YtiminjibcafkaaaW.PrintLast Go.Proofs.YtiminjibcafkaaaW.PrintMore
set_option linter.unusedVariables false
set_option linter.unusedSimpArgs false
set_option maxRecDepth 100000 in
theorem ItemTells_long (l : List S27) (A : Option Addr) (c : Nat) (a b : S27) (x : Int) (w : World) (hlt : ¬ l.length ≤ 300) :
    Calls Try.prog 5 #[.slice A l.length c, .agg #[.int .u8 a.f0, .int .u8 a.f1.f0, .int .u32 a.f1.f1, .int .u32 a.f1.f2, .int .i64 a.f2, .int .u8 a.f3, .int .u32 a.f4], .agg #[.int .u8 b.f0, .int .u8 b.f1.f0, .int .u32 b.f1.f1, .int .u32 b.f1.f2, .int .i64 b.f2, .int .u8 b.f3, .int .u32 b.f4], .int .u8 x] w
      fun e w' => e = .returned (.bool true) ∧ Below w.heap.size w w' := by
  have hgt : decide ((l.length : Int) > 300) = true := decide_eq_true (by omega)
  have hgt2 : decide ((300 : Int) < (l.length : Int)) = true := decide_eq_true (by omega)
  have hgt3 : decide (300 < l.length) = true := decide_eq_true (by omega)
  have HA := Aside0.mk (awake02_any 60 (Nat.le_refl _))
  go_enter Try.func5, Try.ntmps5
  go_wp2_with (go_at_call 8; refine (tidingslaw02_awake.calls 60 true _ HA.out).mono ?_; rintro e w1 ⟨rfl, hb1⟩)
  go_ret
  exact ⟨rfl, (((Below.refl _ w).alloc (Nat.le_refl _) _).alloc (by simp) _).trans (hb1.mono (by simp; omega))⟩
theorem ItemTells_law (w : World) (x0 : List S27) (x1 x2 : S27) (x3 : Int) (o0 : ∀ z ∈ x0, Ok_Entry z) (o1 : Ok_Entry x1) (o2 : Ok_Entry x2) (o3 : In8 x3) {A0 : Option Addr} {c0 : Nat} (g0 : Kd.C k27 w A0 x0.length x0) (l0 : x0.length ≤ c0) :
    Calls Try.prog 5 #[.slice A0 x0.length c0, .agg #[.int .u8 x1.f0, .int .u8 x1.f1.f0, .int .u32 x1.f1.f1, .int .u32 x1.f1.f2, .int .i64 x1.f2, .int .u8 x1.f3, .int .u32 x1.f4], .agg #[.int .u8 x2.f0, .int .u8 x2.f1.f0, .int .u32 x2.f1.f1, .int .u32 x2.f1.f2, .int .i64 x2.f2, .int .u8 x2.f3, .int .u32 x2.f4], .int .u8 x3] w
      fun e w' => e = .returned (.bool true) ∧ Below w.heap.size w w' := by
  by_cases h : x0.length ≤ 300
  · have hl : x0.length ≤ 4611686018427387904 := by omega
    exact ItemTells_walk 400 x0 A0 c0 x1 x2 x3 w g0 l0 (awake02_any 400 (by decide)) h (rv x1.f1) (RightVer_is _) (RightVer_is' _) (cmpV x1.f1 x2.f1) (Cmp_any 400 (by decide) _ _) (Cmp_is' _ _)
      (rightL x0) (Right_is x0 hl o0 400 (by omega)) (Right_is' x0 hl o0 400 (by omega)) (fadeE x1) (Fade_is _) (Fade_is' _) (findE x0 x1.f0) _ (Find_is _ _) (Find_is' _ _ hl 400 (by omega)) (inE x1 x3) (In_is x1 o1 x3 o3) (In_is' x1 o1 x3 o3 400 (by decide))
  · exact ItemTells_long x0 A0 c0 x1 x2 x3 w h
end Go.Proofs.Ytiminjibcafkaaa.X
