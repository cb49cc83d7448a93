-- MADE BY wip/prx.py (the kit's printer, with contracts proved by hand). Not trusted: Lean checks it.
import Derived.Test.YtiminjibcafkaaaKPX0
import Derived.Test.YtiminjibcafkaaaKPX13
import Derived.Test.YtiminjibcafkaaaKPXhslicesContainsFuncRun
namespace Go.Proofs.Ytiminjibcafkaaa.X
open Go.RowKit Go.Proofs.YtiminjibcafkaaaW.PrintWords Go.Proofs.YtiminjibcafkaaaW.PrintLast Go.Proofs.YtiminjibcafkaaaW.PrintMore
attribute [local go_sem] max2_int min2_int max_two min_two max_three min_three max_four min_four   -- for this text's walks alone
set_option linter.unusedVariables false
set_option linter.unusedSimpArgs false
--EXT 
/-! ### know_Has: function 37, by hand -/
/-- Is the number in the run, of the replica? -/
def inRun (a1 a2 : Int) (x : S78) : Bool := decide (x.f0 = a1) && (decide (x.f1 ≤ a2) && decide (a2 ≤ x.f2))
/-- know.Has. -/
def know_Has.f (k : Nat) (l0 : List (S78)) (a1 a2 : Int) : Option Bool := (know_Right.f k l0).bind fun b => some (b && l0.any (inRun a1 a2))
theorem know_Has.mono : ∀ l0 a1 a2 k, LeO (know_Has.f k l0 a1 a2) (know_Has.f (k + 1) l0 a1 a2) := fun _ _ _ _ => LeO.bind (know_Right.mono _ _) (fun _ => LeO.refl _)
theorem know_Has.pred (a1 a2 : Int) (B1 B2 : Nat) (w : World) (hB1 : B1 < w.heap.size) (hB2 : B2 < w.heap.size) (h1 : w.cell? ⟨B1, 0, none⟩ = some (.int .u8 a1)) (h2 : w.cell? ⟨B2, 0, none⟩ = some (.int .u32 a2)) :
    ∀ (W : World) (x : S78), Below w.heap.size w W → Calls Try.prog 61 (#[.agg #[.int .u8 x.f0, .int .u32 x.f1, .int .u32 x.f2]] ++ #[.pointer (some ⟨B1, 0, none⟩), .pointer (some ⟨B2, 0, none⟩)]) W fun e w' => e = .returned (.bool (inRun a1 a2 x)) ∧ Below W.heap.size W w' := fun W x hb => by
  have c1 : W.cell? ⟨B1, 0, none⟩ = some (.int .u8 a1) := (hb.cell (p := ⟨B1, 0, none⟩) hB1).trans h1
  have c2 : W.cell? ⟨B2, 0, none⟩ = some (.int .u32 a2) := (hb.cell (p := ⟨B2, 0, none⟩) hB2).trans h2
  have n1 : B1 < W.heap.size := Nat.lt_of_lt_of_le hB1 hb.size
  have n2 : B2 < W.heap.size := Nat.lt_of_lt_of_le hB2 hb.size
  have e1 : B1 ≠ W.heap.size := by omega
  have e2 : B2 ≠ W.heap.size := by omega
  clear hb h1 h2 hB1 hB2
  obtain ⟨f0, f1, f2⟩ := x
  show Calls Try.prog 61 #[.agg #[.int .u8 f0, .int .u32 f1, .int .u32 f2], .pointer (some ⟨B1, 0, none⟩), .pointer (some ⟨B2, 0, none⟩)] W _
  have hu := Try.underlying78
  unfold inRun
  dsimp only
  by_cases p1 : f0 = a1
  · subst p1
    by_cases p2 : f1 ≤ a2
    · by_cases p3 : a2 ≤ f2
      · go_enter Try.func61, Try.ntmps61
        go_wp2
        go_ret
        exact ⟨by simp [p2, p3], (Below.refl _ _).alloc (Nat.le_refl _) _⟩
      · go_enter Try.func61, Try.ntmps61
        go_wp2
        go_ret
        exact ⟨by simp [p2, p3], (Below.refl _ _).alloc (Nat.le_refl _) _⟩
    · go_enter Try.func61, Try.ntmps61
      go_wp2
      go_ret
      exact ⟨by (simp; try (intros; omega)), (Below.refl _ _).alloc (Nat.le_refl _) _⟩
  · go_enter Try.func61, Try.ntmps61
    go_wp2
    go_ret
    exact ⟨by simp [p1], (Below.refl _ _).alloc (Nat.le_refl _) _⟩
set_option maxHeartbeats 8000000 in
set_option maxRecDepth 100000 in
theorem know_Has.calls (k : Nat) (A0 : Option Addr) (c0 : Nat) (l0 : List (S78)) (a1 : Int) (a2 : Int) (r : Bool) (w : World) (hr0 : Kd.C k78 w A0 l0.length l0) (hc0 : l0.length ≤ c0) (h : know_Has.f k l0 a1 a2 = some r) :
    Calls Try.prog 37 #[.slice A0 l0.length c0, .int .u8 a1, .int .u32 a2] w fun e w' => e = .returned (.bool r) ∧ Below w.heap.size w w' := by
  have eg : ∀ args w, (callFunc 61 args).run Try.prog w = .ok (.enter 61 args) w := enters_of Try.func61 (by kernel_rfl) rfl
  have hmf : ∀ (fn : Fn) (first cap : Array Value) (w : World), (Instr.makeFunc fn first cap).run Try.prog w = .ok (.func fn first cap) w := fun _ _ _ _ => rfl
  unfold know_Has.f at h
  replace h := Option.bind_eq_some_iff.mp h
  obtain ⟨b, hb, h⟩ := h
  obtain rfl := Option.some.inj h
  clear h
  have HA := Aside0.mk hb
  have HR := Aside0.mk hr0
  have HC := Aside0.mk hc0
  clear hb hr0 hc0
  have EG := Aside0.mk eg
  clear eg
  cases b with
  | false =>
    go_enter Try.func37, Try.ntmps37
    go_wp2_with (go_at_call 36; refine (know_Right.calls k _ _ l0 false _ (Kd.C_alloc (Kd.C_alloc HR.out _) _) HC.out HA.out).mono ?_; rintro e w1 ⟨rfl, hb1⟩)
    go_ret
    exact ⟨rfl, (((Below.refl _ w).alloc (Nat.le_refl _) _).alloc (by simp) _).trans (hb1.mono (by simp; omega))⟩
  | true =>
    go_enter Try.func37, Try.ntmps37
    go_wp2_with (go_at_call 36; refine (know_Right.calls k _ _ l0 true _ (Kd.C_alloc (Kd.C_alloc HR.out _) _) HC.out HA.out).mono ?_; rintro e w1 ⟨rfl, hb1⟩)
    refine (slices_ContainsFunc_Run.calls (inRun a1 a2) 61 #[.pointer (some ⟨w.heap.size, 0, none⟩), .pointer (some ⟨w.heap.size + 1, 0, none⟩)] EG.out A0 c0 l0 _ (Kd.C_below (Kd.C_alloc (Kd.C_alloc HR.out _) _) hb1) (know_Has.pred a1 a2 w.heap.size (w.heap.size + 1) w1 ?_ ?_ ?_ ?_)).mono ?_
    · have := hb1.size; simp at this; omega
    · have := hb1.size; simp at this; omega
    · exact (hb1.cell (p := ⟨w.heap.size, 0, none⟩) (by simp; omega)).trans (by simp)
    · exact (hb1.cell (p := ⟨w.heap.size + 1, 0, none⟩) (by simp)).trans (by simp)
    rintro e w2 ⟨rfl, hb2⟩
    go_wp2
    go_ret
    exact ⟨by simp, ((((Below.refl _ w).alloc (Nat.le_refl _) _).alloc (by simp) _).trans (hb1.mono (by simp; omega))).trans (hb2.mono (by have := hb1.size; simp at this; omega))⟩
end Go.Proofs.Ytiminjibcafkaaa.X
