/- Texts that this claim's law comes to, joined by wip/slim.py: X14, X15, XhslicesIndexFuncRun, XhslicesContainsFuncRun, XhknowHas, X3. -/
import Derived.Test.YtiminjibcafkaaaSFX0
import Derived.Test.YtiminjibcafkaaaSFJ14
import Derived.Test.YtiminjibcafkaaaSFXhslicesCloneRun
import Derived.Test.YtiminjibcafkaaaSFXhslicesSortFuncRun
import Derived.Test.YtiminjibcafkaaaSFX13
import Derived.Test.YtiminjibcafkaaaSFJ8
import Derived.Shelf.Abstract
section
-- MADE BY wip/prx.py (the kit's printer, with contracts proved by hand). Not trusted: Lean checks it.
namespace Go.Proofs.Ytiminjibcafkaaa.X
open Go.RowKit Go.Proofs.YtiminjibcafkaaaW.PrintWords Go.Proofs.YtiminjibcafkaaaW.PrintLast Go.Proofs.YtiminjibcafkaaaW.PrintMore
attribute [local go_sem] max2_int min2_int max_two min_two max_three min_three max_four min_four   -- for this text's walks alone
set_option linter.unusedVariables false
set_option linter.unusedSimpArgs false
/-! ### know_merged: function 56 -/
mutual
def know_merged.l0 : Nat → List (S78) → List (S78) → Int → Int → Option ((List (S78)) × Option Int)
  | 0, _, _, _, _ => none
  | k + 1, x4, x12, x13, x14 => if x14 < x13 then (if 0 ≤ x14 then (if x14 < (x12.length : Int) then (if (wrap64 ((x4.length : Int) - 1)) ≥ 0 then (if 0 ≤ (wrap64 ((x4.length : Int) - 1)) then (if (wrap64 ((x4.length : Int) - 1)) < (x4.length : Int) then ((know_apart.f ((rd_T78 x4 (wrap64 ((x4.length : Int) - 1))).f0) ((rd_T78 x4 (wrap64 ((x4.length : Int) - 1))).f1) ((rd_T78 x4 (wrap64 ((x4.length : Int) - 1))).f2) ((rd_T78 x12 x14).f0) ((rd_T78 x12 x14).f1) ((rd_T78 x12 x14).f2)).bind fun t272 => (know_merged.j1 k x4 (wrap64 ((x4.length : Int) - 1)) x12 x13 x14 (!t272) ((rd_T78 x12 x14).f0) ((rd_T78 x12 x14).f1) ((rd_T78 x12 x14).f2))) else (none)) else (none)) else (know_merged.j1 k x4 (wrap64 ((x4.length : Int) - 1)) x12 x13 x14 false ((rd_T78 x12 x14).f0) ((rd_T78 x12 x14).f1) ((rd_T78 x12 x14).f2))) else (none)) else (none)) else (if (x4.length : Int) > 64 then (some (([] : List (S78)), some 5)) else (some (x4, none)))
def know_merged.j1 : Nat → List (S78) → Int → List (S78) → Int → Int → Bool → Int → Int → Int → Option ((List (S78)) × Option Int)
  | 0, _, _, _, _, _, _, _, _, _ => none
  | k + 1, x4, x7, x12, x13, x14, x21, x271000, x271001, x271002 => if x21 = true then (if 0 ≤ x7 then (if x7 < (x4.length : Int) then (if x271002 ≤ ((rd_T78 x4 x7).f2) then (know_merged.l0 k x4 x12 x13 (wrap64 (x14 + 1))) else (if x7 ≤ (x4.length : Int) then ((some (x4.take (x7 : Int).toNat : List (S78))).bind fun y275 => (if y275.length < 11728124029610 then (know_merged.l0 k (y275 ++ [(⟨x271000, (rd_T78 x4 x7).f1, x271002⟩ : S78)]) x12 x13 (wrap64 (x14 + 1))) else (none))) else (none))) else (none)) else (none)) else (if x4.length < 11728124029610 then (know_merged.l0 k (x4 ++ [(⟨x271000, x271001, x271002⟩ : S78)]) x12 x13 (wrap64 (x14 + 1))) else (none))
end
def know_merged.f (k : Nat) (l0 : List (S78)) : Option ((List (S78)) × Option Int) := (slices_Clone_Run.f l0).bind fun t265 => ((slices_SortFunc_Run.f t265).bind fun t268 => (know_merged.l0 k ([] : List (S78)) t268 (t265.length : Int) 0))
end Go.Proofs.Ytiminjibcafkaaa.X
end
section
-- MADE BY wip/prx.py (the kit's printer, with contracts proved by hand). Not trusted: Lean checks it.
namespace Go.Proofs.Ytiminjibcafkaaa.X
open Go.RowKit Go.Proofs.YtiminjibcafkaaaW.PrintWords Go.Proofs.YtiminjibcafkaaaW.PrintLast Go.Proofs.YtiminjibcafkaaaW.PrintMore
attribute [local go_sem] max2_int min2_int max_two min_two max_three min_three max_four min_four   -- for this text's walks alone
set_option linter.unusedVariables false
set_option linter.unusedSimpArgs false
/-! ### know_Add: function 33 -/
def know_Add.j0 : Nat → List (S78) → Bool → Int → Int → Int → Option ((List (S78)) × Option Int)
  | 0, _, _, _, _, _ => none
  | k + 1, x0, x20, x285000, x285001, x285002 => if x20 = true then (some (([] : List (S78)), some 9)) else ((slices_Clone_Run.f x0).bind fun t287 => ((some (([(⟨x285000, x285001, x285002⟩ : S78)] : List (S78)) : List (S78))).bind fun y290 => (if t287.length + y290.length < 11728124029610 then ((know_merged.f k (t287 ++ y290)).bind fun bt296 => (some (bt296.1, bt296.2))) else (none))))
def know_Add.f (k : Nat) (l0 : List (S78)) (a1 : Int) (a2 : Int) : Option ((List (S78)) × Option Int) := (know_Right.f k l0).bind fun t285 => (if t285 = true then ((know_run.f a1 a2 a2).bind fun t286 => (know_Add.j0 k l0 (!t286) a1 a2 a2)) else (know_Add.j0 k l0 true a1 a2 a2))
end Go.Proofs.Ytiminjibcafkaaa.X
end
section
-- MADE BY wip/prx.py (the kit's printer, with contracts proved by hand). Not trusted: Lean checks it.
namespace Go.Proofs.Ytiminjibcafkaaa.X
open Go.RowKit Go.Proofs.YtiminjibcafkaaaW.PrintWords Go.Proofs.YtiminjibcafkaaaW.PrintLast Go.Proofs.YtiminjibcafkaaaW.PrintMore
attribute [local go_sem] max2_int min2_int max_two min_two max_three min_three max_four min_four   -- for this text's walks alone
set_option linter.unusedVariables false
set_option linter.unusedSimpArgs false
--EXT Derived.Shelf.Abstract
/-! ### slices_IndexFunc_Run: function 72, by hand -/
set_option maxHeartbeats 4000000 in
/-- slices.IndexFunc at api.Run, whatever function value that leaves what was. -/
theorem slices_IndexFunc_Run.calls (p : S78 → Bool) (g : Nat) (lb : Array Value) (eg : ∀ args w, (callFunc g args).run Try.prog w = .ok (.enter g args) w) (A0 : Option Addr) (c0 : Nat) (l0 : List (S78)) (w : World) (hr0 : Kd.C k78 w A0 l0.length l0)
    (hp : ∀ (W : World) (x : S78), Below w.heap.size w W → Calls Try.prog g (#[.agg #[.int .u8 x.f0, .int .u32 x.f1, .int .u32 x.f2]] ++ lb) W fun e w' => e = .returned (.bool (p x)) ∧ Below W.heap.size W w') :
    Calls Try.prog 72 #[.slice A0 l0.length c0, .func (.func g) #[] lb] w fun e w' => e = .returned (.int .i64 (idxL p l0 0)) ∧ Below w.heap.size w w' := by
  have hu := Try.underlying78
  have HR := Aside0.mk hr0
  have HP := Aside0.mk hp
  have HM : l0.length ≤ 9223372036854775807 := hr0.2.1
  clear hr0 hp
  go_enter Try.func72, Try.ntmps72
  go_wp2
  go_loopg [5, 8] l0.length (fun gg _ s8 wr => ∃ kk : Nat, kk ≤ l0.length ∧ l0.length - kk ≤ gg ∧ s8 = .int .i64 kk ∧ Aside0 (Below w.heap.size w wr) ∧ Aside0 (∀ j, j < kk → p (l0.getD j z78) = false))
  case atStart => exact ⟨0, Nat.zero_le _, by omega, rfl, ⟨Below.refl _ w⟩, ⟨fun j hj => absurd hj (Nat.not_lt_zero _)⟩⟩
  case round =>
    obtain ⟨kk, hkk, hg, rfl, BW, AF⟩ := hrel
    by_cases hlt : kk < l0.length
    · have hltz : (kk : Int) < (l0.length : Int) := by omega
      obtain ⟨ad, rfl, h0, h1, h2⟩ := at_T78 (Kd.C_below HR.out BW.out) (kk : Int) (by omega) hltz
      have hcall := HP.out wr (rd_T78 l0 kk) BW.out
      have E0 : rd_T78 l0 (kk : Int) = l0.getD kk z78 := rfl
      have E := Aside0.mk E0
      clear E0
      simp only [Int.toNat_natCast] at h0 h1 h2
      generalize rd_T78 l0 (kk : Int) = y at h0 h1 h2 hcall E
      cases hq : p y with
      | true =>
        rw [hq] at hcall
        have Q := Aside0.mk hq
        clear hq
        go_wp2_with (go_at_fn g; refine hcall.mono ?_; rintro e w' ⟨rfl, hb'⟩)
        go_ret
        refine ⟨?_, BW.out.trans (hb'.mono BW.out.size)⟩
        rw [idxL_hit p z78 l0 0 kk hlt AF.out (by rw [← E.out]; exact Q.out), Nat.zero_add]
        (try rfl)
      | false =>
        rw [hq] at hcall
        have Q := Aside0.mk hq
        clear hq
        go_wp2_with (go_at_fn g; refine hcall.mono ?_; rintro e w' ⟨rfl, hb'⟩)
        go_roundg (l0.length - (kk + 1))
        case measure => omega
        case rel =>
          refine ⟨kk + 1, by omega, by omega, by go_num, ⟨BW.out.trans (hb'.mono BW.out.size)⟩, ⟨fun j hj => ?_⟩⟩
          by_cases e : j = kk
          · subst e
            rw [← E.out]; exact Q.out
          · exact AF.out j (by omega)
    · have hltz : ¬ (kk : Int) < (l0.length : Int) := by omega
      have hk : kk = l0.length := by omega
      subst hk
      go_wp2
      go_ret
      refine ⟨?_, BW.out⟩
      rw [idxL_miss p z78 l0 0 AF.out]
      (try rfl)
end Go.Proofs.Ytiminjibcafkaaa.X
end
section
-- MADE BY wip/prx.py (the kit's printer, with contracts proved by hand). Not trusted: Lean checks it.
namespace Go.Proofs.Ytiminjibcafkaaa.X
open Go.RowKit Go.Proofs.YtiminjibcafkaaaW.PrintWords Go.Proofs.YtiminjibcafkaaaW.PrintLast Go.Proofs.YtiminjibcafkaaaW.PrintMore
attribute [local go_sem] max2_int min2_int max_two min_two max_three min_three max_four min_four   -- for this text's walks alone
set_option linter.unusedVariables false
set_option linter.unusedSimpArgs false
--EXT 
/-! ### slices_ContainsFunc_Run: function 60, by hand -/
/-- slices.ContainsFunc at api.Run. -/
theorem slices_ContainsFunc_Run.calls (p : S78 → Bool) (g : Nat) (lb : Array Value) (eg : ∀ args w, (callFunc g args).run Try.prog w = .ok (.enter g args) w) (A0 : Option Addr) (c0 : Nat) (l0 : List (S78)) (w : World) (hr0 : Kd.C k78 w A0 l0.length l0)
    (hp : ∀ (W : World) (x : S78), Below w.heap.size w W → Calls Try.prog g (#[.agg #[.int .u8 x.f0, .int .u32 x.f1, .int .u32 x.f2]] ++ lb) W fun e w' => e = .returned (.bool (p x)) ∧ Below W.heap.size W w') :
    Calls Try.prog 60 #[.slice A0 l0.length c0, .func (.func g) #[] lb] w fun e w' => e = .returned (.bool (l0.any p)) ∧ Below w.heap.size w w' := by
  have hcon := slices_IndexFunc_Run.calls p g lb eg A0 c0 l0 w hr0 hp
  rw [← idxL_any p l0 0]
  generalize idxL p l0 0 = r at hcon ⊢
  clear hp hr0 eg
  go_enter Try.func60, Try.ntmps60
  go_wp2_with (go_at_call 72; refine hcon.mono ?_; rintro e w' ⟨rfl, hb'⟩)
  go_ret
  exact ⟨rfl, hb'⟩
end Go.Proofs.Ytiminjibcafkaaa.X
end
section
-- MADE BY wip/prx.py (the kit's printer, with contracts proved by hand). Not trusted: Lean checks it.
namespace Go.Proofs.Ytiminjibcafkaaa.X
open Go.RowKit Go.Proofs.YtiminjibcafkaaaW.PrintWords Go.Proofs.YtiminjibcafkaaaW.PrintLast Go.Proofs.YtiminjibcafkaaaW.PrintMore
attribute [local go_sem] max2_int min2_int max_two min_two max_three min_three max_four min_four   -- for this text's walks alone
set_option linter.unusedVariables false
set_option linter.unusedSimpArgs false
--EXT 
/-! ### know_Has: function 37, by hand -/
/-- Is the number in the run, of the replica? -/
def inRun (a1 a2 : Int) (x : S78) : Bool := decide (x.f0 = a1) && (decide (x.f1 ≤ a2) && decide (a2 ≤ x.f2))
/-- know.Has. -/
def know_Has.f (k : Nat) (l0 : List (S78)) (a1 a2 : Int) : Option Bool := (know_Right.f k l0).bind fun b => some (b && l0.any (inRun a1 a2))
theorem know_Has.pred (a1 a2 : Int) (B1 B2 : Nat) (w : World) (hB1 : B1 < w.heap.size) (hB2 : B2 < w.heap.size) (h1 : w.cell? ⟨B1, 0, none⟩ = some (.int .u8 a1)) (h2 : w.cell? ⟨B2, 0, none⟩ = some (.int .u32 a2)) :
    ∀ (W : World) (x : S78), Below w.heap.size w W → Calls Try.prog 61 (#[.agg #[.int .u8 x.f0, .int .u32 x.f1, .int .u32 x.f2]] ++ #[.pointer (some ⟨B1, 0, none⟩), .pointer (some ⟨B2, 0, none⟩)]) W fun e w' => e = .returned (.bool (inRun a1 a2 x)) ∧ Below W.heap.size W w' := fun W x hb => by
  have c1 : W.cell? ⟨B1, 0, none⟩ = some (.int .u8 a1) := (hb.cell (p := ⟨B1, 0, none⟩) hB1).trans h1
  have c2 : W.cell? ⟨B2, 0, none⟩ = some (.int .u32 a2) := (hb.cell (p := ⟨B2, 0, none⟩) hB2).trans h2
  have n1 : B1 < W.heap.size := Nat.lt_of_lt_of_le hB1 hb.size
  have n2 : B2 < W.heap.size := Nat.lt_of_lt_of_le hB2 hb.size
  have e1 : B1 ≠ W.heap.size := by omega
  have e2 : B2 ≠ W.heap.size := by omega
  clear hb h1 h2 hB1 hB2
  obtain ⟨f0, f1, f2⟩ := x
  show Calls Try.prog 61 #[.agg #[.int .u8 f0, .int .u32 f1, .int .u32 f2], .pointer (some ⟨B1, 0, none⟩), .pointer (some ⟨B2, 0, none⟩)] W _
  have hu := Try.underlying78
  unfold inRun
  dsimp only
  by_cases p1 : f0 = a1
  · subst p1
    by_cases p2 : f1 ≤ a2
    · by_cases p3 : a2 ≤ f2
      · go_enter Try.func61, Try.ntmps61
        go_wp2
        go_ret
        exact ⟨by simp [p2, p3], (Below.refl _ _).alloc (Nat.le_refl _) _⟩
      · go_enter Try.func61, Try.ntmps61
        go_wp2
        go_ret
        exact ⟨by simp [p2, p3], (Below.refl _ _).alloc (Nat.le_refl _) _⟩
    · go_enter Try.func61, Try.ntmps61
      go_wp2
      go_ret
      exact ⟨by (simp; try (intros; omega)), (Below.refl _ _).alloc (Nat.le_refl _) _⟩
  · go_enter Try.func61, Try.ntmps61
    go_wp2
    go_ret
    exact ⟨by simp [p1], (Below.refl _ _).alloc (Nat.le_refl _) _⟩
set_option maxHeartbeats 8000000 in
set_option maxRecDepth 100000 in
theorem know_Has.calls (k : Nat) (A0 : Option Addr) (c0 : Nat) (l0 : List (S78)) (a1 : Int) (a2 : Int) (r : Bool) (w : World) (hr0 : Kd.C k78 w A0 l0.length l0) (hc0 : l0.length ≤ c0) (h : know_Has.f k l0 a1 a2 = some r) :
    Calls Try.prog 37 #[.slice A0 l0.length c0, .int .u8 a1, .int .u32 a2] w fun e w' => e = .returned (.bool r) ∧ Below w.heap.size w w' := by
  have eg : ∀ args w, (callFunc 61 args).run Try.prog w = .ok (.enter 61 args) w := enters_of Try.func61 (by kernel_rfl) rfl
  have hmf : ∀ (fn : Fn) (first cap : Array Value) (w : World), (Instr.makeFunc fn first cap).run Try.prog w = .ok (.func fn first cap) w := fun _ _ _ _ => rfl
  unfold know_Has.f at h
  replace h := Option.bind_eq_some_iff.mp h
  obtain ⟨b, hb, h⟩ := h
  obtain rfl := Option.some.inj h
  clear h
  have HA := Aside0.mk hb
  have HR := Aside0.mk hr0
  have HC := Aside0.mk hc0
  clear hb hr0 hc0
  have EG := Aside0.mk eg
  clear eg
  cases b with
  | false =>
    go_enter Try.func37, Try.ntmps37
    go_wp2_with (go_at_call 36; refine (know_Right.calls k _ _ l0 false _ (Kd.C_alloc (Kd.C_alloc HR.out _) _) HC.out HA.out).mono ?_; rintro e w1 ⟨rfl, hb1⟩)
    go_ret
    exact ⟨rfl, (((Below.refl _ w).alloc (Nat.le_refl _) _).alloc (by simp) _).trans (hb1.mono (by simp; omega))⟩
  | true =>
    go_enter Try.func37, Try.ntmps37
    go_wp2_with (go_at_call 36; refine (know_Right.calls k _ _ l0 true _ (Kd.C_alloc (Kd.C_alloc HR.out _) _) HC.out HA.out).mono ?_; rintro e w1 ⟨rfl, hb1⟩)
    refine (slices_ContainsFunc_Run.calls (inRun a1 a2) 61 #[.pointer (some ⟨w.heap.size, 0, none⟩), .pointer (some ⟨w.heap.size + 1, 0, none⟩)] EG.out A0 c0 l0 _ (Kd.C_below (Kd.C_alloc (Kd.C_alloc HR.out _) _) hb1) (know_Has.pred a1 a2 w.heap.size (w.heap.size + 1) w1 ?_ ?_ ?_ ?_)).mono ?_
    · have := hb1.size; simp at this; omega
    · have := hb1.size; simp at this; omega
    · exact (hb1.cell (p := ⟨w.heap.size, 0, none⟩) (by simp; omega)).trans (by simp)
    · exact (hb1.cell (p := ⟨w.heap.size + 1, 0, none⟩) (by simp)).trans (by simp)
    rintro e w2 ⟨rfl, hb2⟩
    go_wp2
    go_ret
    exact ⟨by simp, ((((Below.refl _ w).alloc (Nat.le_refl _) _).alloc (by simp) _).trans (hb1.mono (by simp; omega))).trans (hb2.mono (by have := hb1.size; simp at this; omega))⟩
end Go.Proofs.Ytiminjibcafkaaa.X
end
section
-- MADE BY wip/prx.py (the kit's printer, with contracts proved by hand). Not trusted: Lean checks it.
namespace Go.Proofs.Ytiminjibcafkaaa.X
open Go.RowKit Go.Proofs.YtiminjibcafkaaaW.PrintWords Go.Proofs.YtiminjibcafkaaaW.PrintLast Go.Proofs.YtiminjibcafkaaaW.PrintMore
attribute [local go_sem] max2_int min2_int max_two min_two max_three min_three max_four min_four   -- for this text's walks alone
set_option linter.unusedVariables false
set_option linter.unusedSimpArgs false
theorem eqA78 (d : Nat) (w : World) (x0 y0 : Int) (x1 y1 : Int) (x2 y2 : Int) :
    (Op.equalIn (d + 2) 78 (.agg #[.int .u8 x0, .int .u32 x1, .int .u32 x2]) (.agg #[.int .u8 y0, .int .u32 y1, .int .u32 y2])).run Try.prog w = .ok (x0 == y0 && (x1 == y1 && (x2 == y2))) w := by
  refine eqA_of Try.underlying78 (by kernel_rfl) ?_
  refine eqf_cons (by rfl) (by go_simp; rfl) (by go_simp; rfl) (by go_simp) ?_
  refine eqf_cons (by rfl) (by go_simp; rfl) (by go_simp; rfl) (by go_simp) ?_
  exact eqf_last (by rfl) (by go_simp; rfl) (by go_simp; rfl) (by go_simp)
end Go.Proofs.Ytiminjibcafkaaa.X
end
