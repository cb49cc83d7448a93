/- Texts that this claim's law comes to, joined by wip/slim.py: XhslicesIndexFuncRun, XhslicesContainsFuncRun, XhknowHas. -/
import Derived.Test.YtiminjibcafkaaaDoorKUJ7
import Derived.Test.YtiminjibcafkaaaDoorKUXhcommon
import Derived.Shelf.Abstract
import Derived.Test.YtiminjibcafkaaaDoorKUX15
section
-- MADE BY wip/prx.py (the kit's printer, with contracts proved by hand). Not trusted: Lean checks it.
namespace Go.Proofs.YtiminjibcafkaaaDoor.X
open Go.RowKit Go.Proofs.YtiminjibcafkaaaDoorW.PrintWords Go.Proofs.YtiminjibcafkaaaDoorW.PrintLast Go.Proofs.YtiminjibcafkaaaDoorW.PrintMore
attribute [local go_sem] max2_int min2_int max_two min_two max_three min_three max_four min_four   -- for this text's walks alone
set_option linter.unusedVariables false
set_option linter.unusedSimpArgs false
--EXT Derived.Shelf.Abstract
/-! ### slices_IndexFunc_Run: function 61, by hand -/
set_option maxHeartbeats 4000000 in
/-- slices.IndexFunc at api.Run, whatever function value that leaves what was. -/
theorem slices_IndexFunc_Run.calls (p : S65 → Bool) (g : Nat) (lb : Array Value) (eg : ∀ args w, (callFunc g args).run Tryd.prog w = .ok (.enter g args) w) (A0 : Option Addr) (c0 : Nat) (l0 : List (S65)) (w : World) (hr0 : Kd.C k65 w A0 l0.length l0)
    (hp : ∀ (W : World) (x : S65), Below w.heap.size w W → Calls Tryd.prog g (#[.agg #[.int .u8 x.f0, .int .u32 x.f1, .int .u32 x.f2]] ++ lb) W fun e w' => e = .returned (.bool (p x)) ∧ Below W.heap.size W w') :
    Calls Tryd.prog 61 #[.slice A0 l0.length c0, .func (.func g) #[] lb] w fun e w' => e = .returned (.int .i64 (idxL p l0 0)) ∧ Below w.heap.size w w' := by
  have hu := Tryd.underlying65
  have HR := Aside0.mk hr0
  have HP := Aside0.mk hp
  have HM : l0.length ≤ 9223372036854775807 := hr0.2.1
  clear hr0 hp
  go_enter Tryd.func61, Tryd.ntmps61
  go_wp2
  go_loopg [5, 8] l0.length (fun gg _ s8 wr => ∃ kk : Nat, kk ≤ l0.length ∧ l0.length - kk ≤ gg ∧ s8 = .int .i64 kk ∧ Aside0 (Below w.heap.size w wr) ∧ Aside0 (∀ j, j < kk → p (l0.getD j z65) = false))
  case atStart => exact ⟨0, Nat.zero_le _, by omega, rfl, ⟨Below.refl _ w⟩, ⟨fun j hj => absurd hj (Nat.not_lt_zero _)⟩⟩
  case round =>
    obtain ⟨kk, hkk, hg, rfl, BW, AF⟩ := hrel
    by_cases hlt : kk < l0.length
    · have hltz : (kk : Int) < (l0.length : Int) := by omega
      obtain ⟨ad, rfl, h0, h1, h2⟩ := at_T65 (Kd.C_below HR.out BW.out) (kk : Int) (by omega) hltz
      have hcall := HP.out wr (rd_T65 l0 kk) BW.out
      have E0 : rd_T65 l0 (kk : Int) = l0.getD kk z65 := rfl
      have E := Aside0.mk E0
      clear E0
      simp only [Int.toNat_natCast] at h0 h1 h2
      generalize rd_T65 l0 (kk : Int) = y at h0 h1 h2 hcall E
      cases hq : p y with
      | true =>
        rw [hq] at hcall
        have Q := Aside0.mk hq
        clear hq
        go_wp2_with (go_at_fn g; refine hcall.mono ?_; rintro e w' ⟨rfl, hb'⟩)
        go_ret
        refine ⟨?_, BW.out.trans (hb'.mono BW.out.size)⟩
        rw [idxL_hit p z65 l0 0 kk hlt AF.out (by rw [← E.out]; exact Q.out), Nat.zero_add]
        (try rfl)
      | false =>
        rw [hq] at hcall
        have Q := Aside0.mk hq
        clear hq
        go_wp2_with (go_at_fn g; refine hcall.mono ?_; rintro e w' ⟨rfl, hb'⟩)
        go_roundg (l0.length - (kk + 1))
        case measure => omega
        case rel =>
          refine ⟨kk + 1, by omega, by omega, by go_num, ⟨BW.out.trans (hb'.mono BW.out.size)⟩, ⟨fun j hj => ?_⟩⟩
          by_cases e : j = kk
          · subst e
            rw [← E.out]; exact Q.out
          · exact AF.out j (by omega)
    · have hltz : ¬ (kk : Int) < (l0.length : Int) := by omega
      have hk : kk = l0.length := by omega
      subst hk
      go_wp2
      go_ret
      refine ⟨?_, BW.out⟩
      rw [idxL_miss p z65 l0 0 AF.out]
      (try rfl)
end Go.Proofs.YtiminjibcafkaaaDoor.X
end
section
-- MADE BY wip/prx.py (the kit's printer, with contracts proved by hand). Not trusted: Lean checks it.
namespace Go.Proofs.YtiminjibcafkaaaDoor.X
open Go.RowKit Go.Proofs.YtiminjibcafkaaaDoorW.PrintWords Go.Proofs.YtiminjibcafkaaaDoorW.PrintLast Go.Proofs.YtiminjibcafkaaaDoorW.PrintMore
attribute [local go_sem] max2_int min2_int max_two min_two max_three min_three max_four min_four   -- for this text's walks alone
set_option linter.unusedVariables false
set_option linter.unusedSimpArgs false
--EXT 
/-! ### slices_ContainsFunc_Run: function 44, by hand -/
/-- slices.ContainsFunc at api.Run. -/
theorem slices_ContainsFunc_Run.calls (p : S65 → Bool) (g : Nat) (lb : Array Value) (eg : ∀ args w, (callFunc g args).run Tryd.prog w = .ok (.enter g args) w) (A0 : Option Addr) (c0 : Nat) (l0 : List (S65)) (w : World) (hr0 : Kd.C k65 w A0 l0.length l0)
    (hp : ∀ (W : World) (x : S65), Below w.heap.size w W → Calls Tryd.prog g (#[.agg #[.int .u8 x.f0, .int .u32 x.f1, .int .u32 x.f2]] ++ lb) W fun e w' => e = .returned (.bool (p x)) ∧ Below W.heap.size W w') :
    Calls Tryd.prog 44 #[.slice A0 l0.length c0, .func (.func g) #[] lb] w fun e w' => e = .returned (.bool (l0.any p)) ∧ Below w.heap.size w w' := by
  have hcon := slices_IndexFunc_Run.calls p g lb eg A0 c0 l0 w hr0 hp
  rw [← idxL_any p l0 0]
  generalize idxL p l0 0 = r at hcon ⊢
  clear hp hr0 eg
  go_enter Tryd.func44, Tryd.ntmps44
  go_wp2_with (go_at_call 61; refine hcon.mono ?_; rintro e w' ⟨rfl, hb'⟩)
  go_ret
  exact ⟨rfl, hb'⟩
end Go.Proofs.YtiminjibcafkaaaDoor.X
end
section
-- MADE BY wip/prx.py (the kit's printer, with contracts proved by hand). Not trusted: Lean checks it.
namespace Go.Proofs.YtiminjibcafkaaaDoor.X
open Go.RowKit Go.Proofs.YtiminjibcafkaaaDoorW.PrintWords Go.Proofs.YtiminjibcafkaaaDoorW.PrintLast Go.Proofs.YtiminjibcafkaaaDoorW.PrintMore
attribute [local go_sem] max2_int min2_int max_two min_two max_three min_three max_four min_four   -- for this text's walks alone
set_option linter.unusedVariables false
set_option linter.unusedSimpArgs false
--EXT 
/-! ### know_Has: function 22, by hand -/
/-- Is the number in the run, of the replica? -/
def inRun (a1 a2 : Int) (x : S65) : Bool := decide (x.f0 = a1) && (decide (x.f1 ≤ a2) && decide (a2 ≤ x.f2))
/-- know.Has. -/
def know_Has.f (k : Nat) (l0 : List (S65)) (a1 a2 : Int) : Option Bool := (know_Right.f k l0).bind fun b => some (b && l0.any (inRun a1 a2))
theorem know_Has.mono : ∀ l0 a1 a2 k, LeO (know_Has.f k l0 a1 a2) (know_Has.f (k + 1) l0 a1 a2) := fun _ _ _ _ => LeO.bind (know_Right.mono _ _) (fun _ => LeO.refl _)
theorem know_Has.pred (a1 a2 : Int) (B1 B2 : Nat) (w : World) (hB1 : B1 < w.heap.size) (hB2 : B2 < w.heap.size) (h1 : w.cell? ⟨B1, 0, none⟩ = some (.int .u8 a1)) (h2 : w.cell? ⟨B2, 0, none⟩ = some (.int .u32 a2)) :
    ∀ (W : World) (x : S65), Below w.heap.size w W → Calls Tryd.prog 45 (#[.agg #[.int .u8 x.f0, .int .u32 x.f1, .int .u32 x.f2]] ++ #[.pointer (some ⟨B1, 0, none⟩), .pointer (some ⟨B2, 0, none⟩)]) W fun e w' => e = .returned (.bool (inRun a1 a2 x)) ∧ Below W.heap.size W w' := fun W x hb => by
  have c1 : W.cell? ⟨B1, 0, none⟩ = some (.int .u8 a1) := (hb.cell (p := ⟨B1, 0, none⟩) hB1).trans h1
  have c2 : W.cell? ⟨B2, 0, none⟩ = some (.int .u32 a2) := (hb.cell (p := ⟨B2, 0, none⟩) hB2).trans h2
  have n1 : B1 < W.heap.size := Nat.lt_of_lt_of_le hB1 hb.size
  have n2 : B2 < W.heap.size := Nat.lt_of_lt_of_le hB2 hb.size
  have e1 : B1 ≠ W.heap.size := by omega
  have e2 : B2 ≠ W.heap.size := by omega
  clear hb h1 h2 hB1 hB2
  obtain ⟨f0, f1, f2⟩ := x
  show Calls Tryd.prog 45 #[.agg #[.int .u8 f0, .int .u32 f1, .int .u32 f2], .pointer (some ⟨B1, 0, none⟩), .pointer (some ⟨B2, 0, none⟩)] W _
  have hu := Tryd.underlying65
  unfold inRun
  dsimp only
  by_cases p1 : f0 = a1
  · subst p1
    by_cases p2 : f1 ≤ a2
    · by_cases p3 : a2 ≤ f2
      · go_enter Tryd.func45, Tryd.ntmps45
        go_wp2
        go_ret
        exact ⟨by simp [p2, p3], (Below.refl _ _).alloc (Nat.le_refl _) _⟩
      · go_enter Tryd.func45, Tryd.ntmps45
        go_wp2
        go_ret
        exact ⟨by simp [p2, p3], (Below.refl _ _).alloc (Nat.le_refl _) _⟩
    · go_enter Tryd.func45, Tryd.ntmps45
      go_wp2
      go_ret
      exact ⟨by (simp; try (intros; omega)), (Below.refl _ _).alloc (Nat.le_refl _) _⟩
  · go_enter Tryd.func45, Tryd.ntmps45
    go_wp2
    go_ret
    exact ⟨by simp [p1], (Below.refl _ _).alloc (Nat.le_refl _) _⟩
set_option maxHeartbeats 8000000 in
set_option maxRecDepth 100000 in
theorem know_Has.calls (k : Nat) (A0 : Option Addr) (c0 : Nat) (l0 : List (S65)) (a1 : Int) (a2 : Int) (r : Bool) (w : World) (hr0 : Kd.C k65 w A0 l0.length l0) (hc0 : l0.length ≤ c0) (h : know_Has.f k l0 a1 a2 = some r) :
    Calls Tryd.prog 22 #[.slice A0 l0.length c0, .int .u8 a1, .int .u32 a2] w fun e w' => e = .returned (.bool r) ∧ Below w.heap.size w w' := by
  have eg : ∀ args w, (callFunc 45 args).run Tryd.prog w = .ok (.enter 45 args) w := enters_of Tryd.func45 (by kernel_rfl) rfl
  have hmf : ∀ (fn : Fn) (first cap : Array Value) (w : World), (Instr.makeFunc fn first cap).run Tryd.prog w = .ok (.func fn first cap) w := fun _ _ _ _ => rfl
  unfold know_Has.f at h
  replace h := Option.bind_eq_some_iff.mp h
  obtain ⟨b, hb, h⟩ := h
  obtain rfl := Option.some.inj h
  clear h
  have HA := Aside0.mk hb
  have HR := Aside0.mk hr0
  have HC := Aside0.mk hc0
  clear hb hr0 hc0
  have EG := Aside0.mk eg
  clear eg
  cases b with
  | false =>
    go_enter Tryd.func22, Tryd.ntmps22
    go_wp2_with (go_at_call 20; refine (know_Right.calls k _ _ l0 false _ (Kd.C_alloc (Kd.C_alloc HR.out _) _) HC.out HA.out).mono ?_; rintro e w1 ⟨rfl, hb1⟩)
    go_ret
    exact ⟨rfl, (((Below.refl _ w).alloc (Nat.le_refl _) _).alloc (by simp) _).trans (hb1.mono (by simp; omega))⟩
  | true =>
    go_enter Tryd.func22, Tryd.ntmps22
    go_wp2_with (go_at_call 20; refine (know_Right.calls k _ _ l0 true _ (Kd.C_alloc (Kd.C_alloc HR.out _) _) HC.out HA.out).mono ?_; rintro e w1 ⟨rfl, hb1⟩)
    refine (slices_ContainsFunc_Run.calls (inRun a1 a2) 45 #[.pointer (some ⟨w.heap.size, 0, none⟩), .pointer (some ⟨w.heap.size + 1, 0, none⟩)] EG.out A0 c0 l0 _ (Kd.C_below (Kd.C_alloc (Kd.C_alloc HR.out _) _) hb1) (know_Has.pred a1 a2 w.heap.size (w.heap.size + 1) w1 ?_ ?_ ?_ ?_)).mono ?_
    · have := hb1.size; simp at this; omega
    · have := hb1.size; simp at this; omega
    · exact (hb1.cell (p := ⟨w.heap.size, 0, none⟩) (by simp; omega)).trans (by simp)
    · exact (hb1.cell (p := ⟨w.heap.size + 1, 0, none⟩) (by simp)).trans (by simp)
    rintro e w2 ⟨rfl, hb2⟩
    go_wp2
    go_ret
    exact ⟨by simp, ((((Below.refl _ w).alloc (Nat.le_refl _) _).alloc (by simp) _).trans (hb1.mono (by simp; omega))).trans (hb2.mono (by have := hb1.size; simp at this; omega))⟩
end Go.Proofs.YtiminjibcafkaaaDoor.X
end
