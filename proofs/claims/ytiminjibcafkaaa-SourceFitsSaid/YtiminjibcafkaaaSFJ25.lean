/- Texts that this claim's law comes to, joined by wip/slim.py: XhslicesIndexFuncEntry, XhslicesContainsFuncEntry, Xhreplicatwin, Xquiet. -/
import Derived.Test.YtiminjibcafkaaaSFX0
import Derived.Test.YtiminjibcafkaaaSFJ8
import Derived.Shelf.Abstract
import Derived.Deep.QuietTactic
import Derived.BigQuiet
section
-- MADE BY wip/prx.py (the kit's printer, with contracts proved by hand). Not trusted: Lean checks it.
namespace Go.Proofs.Ytiminjibcafkaaa.X
open Go.RowKit Go.Proofs.YtiminjibcafkaaaW.PrintWords Go.Proofs.YtiminjibcafkaaaW.PrintLast Go.Proofs.YtiminjibcafkaaaW.PrintMore
attribute [local go_sem] max2_int min2_int max_two min_two max_three min_three max_four min_four   -- for this text's walks alone
set_option linter.unusedVariables false
set_option linter.unusedSimpArgs false
--EXT Derived.Shelf.Abstract
/-! ### slices_IndexFunc_Entry: function 46, by hand -/
set_option maxHeartbeats 4000000 in
/-- slices.IndexFunc at api.Entry, whatever function value that leaves what was. -/
theorem slices_IndexFunc_Entry.calls (p : S27 → Bool) (g : Nat) (lb : Array Value) (eg : ∀ args w, (callFunc g args).run Try.prog w = .ok (.enter g args) w) (A0 : Option Addr) (c0 : Nat) (l0 : List (S27)) (w : World) (hr0 : Kd.C k27 w A0 l0.length l0)
    (hp : ∀ (W : World) (x : S27), Below w.heap.size w W → Calls Try.prog g (#[.agg #[.int .u8 x.f0, .int .u8 x.f1.f0, .int .u32 x.f1.f1, .int .u32 x.f1.f2, .int .i64 x.f2, .int .u8 x.f3, .int .u32 x.f4]] ++ lb) W fun e w' => e = .returned (.bool (p x)) ∧ Below W.heap.size W w') :
    Calls Try.prog 46 #[.slice A0 l0.length c0, .func (.func g) #[] lb] w fun e w' => e = .returned (.int .i64 (idxL p l0 0)) ∧ Below w.heap.size w w' := by
  have hu := Try.underlying27
  have HR := Aside0.mk hr0
  have HP := Aside0.mk hp
  have HM : l0.length ≤ 9223372036854775807 := hr0.2.1
  clear hr0 hp
  go_enter Try.func46, Try.ntmps46
  go_wp2
  go_loopg [5, 8] l0.length (fun gg _ s8 wr => ∃ kk : Nat, kk ≤ l0.length ∧ l0.length - kk ≤ gg ∧ s8 = .int .i64 kk ∧ Aside0 (Below w.heap.size w wr) ∧ Aside0 (∀ j, j < kk → p (l0.getD j z27) = false))
  case atStart => exact ⟨0, Nat.zero_le _, by omega, rfl, ⟨Below.refl _ w⟩, ⟨fun j hj => absurd hj (Nat.not_lt_zero _)⟩⟩
  case round =>
    obtain ⟨kk, hkk, hg, rfl, BW, AF⟩ := hrel
    by_cases hlt : kk < l0.length
    · have hltz : (kk : Int) < (l0.length : Int) := by omega
      obtain ⟨ad, rfl, h0, h1, h2, h3, h4, h5, h6⟩ := at_T27 (Kd.C_below HR.out BW.out) (kk : Int) (by omega) hltz
      have hcall := HP.out wr (rd_T27 l0 kk) BW.out
      have E0 : rd_T27 l0 (kk : Int) = l0.getD kk z27 := rfl
      have E := Aside0.mk E0
      clear E0
      simp only [Int.toNat_natCast] at h0 h1 h2 h3 h4 h5 h6
      generalize rd_T27 l0 (kk : Int) = y at h0 h1 h2 h3 h4 h5 h6 hcall E
      cases hq : p y with
      | true =>
        rw [hq] at hcall
        have Q := Aside0.mk hq
        clear hq
        go_wp2_with (go_at_fn g; refine hcall.mono ?_; rintro e w' ⟨rfl, hb'⟩)
        go_ret
        refine ⟨?_, BW.out.trans (hb'.mono BW.out.size)⟩
        rw [idxL_hit p z27 l0 0 kk hlt AF.out (by rw [← E.out]; exact Q.out), Nat.zero_add]
        (try rfl)
      | false =>
        rw [hq] at hcall
        have Q := Aside0.mk hq
        clear hq
        go_wp2_with (go_at_fn g; refine hcall.mono ?_; rintro e w' ⟨rfl, hb'⟩)
        go_roundg (l0.length - (kk + 1))
        case measure => omega
        case rel =>
          refine ⟨kk + 1, by omega, by omega, by go_num, ⟨BW.out.trans (hb'.mono BW.out.size)⟩, ⟨fun j hj => ?_⟩⟩
          by_cases e : j = kk
          · subst e
            rw [← E.out]; exact Q.out
          · exact AF.out j (by omega)
    · have hltz : ¬ (kk : Int) < (l0.length : Int) := by omega
      have hk : kk = l0.length := by omega
      subst hk
      go_wp2
      go_ret
      refine ⟨?_, BW.out⟩
      rw [idxL_miss p z27 l0 0 AF.out]
      (try rfl)
end Go.Proofs.Ytiminjibcafkaaa.X
end
section
-- MADE BY wip/prx.py (the kit's printer, with contracts proved by hand). Not trusted: Lean checks it.
namespace Go.Proofs.Ytiminjibcafkaaa.X
open Go.RowKit Go.Proofs.YtiminjibcafkaaaW.PrintWords Go.Proofs.YtiminjibcafkaaaW.PrintLast Go.Proofs.YtiminjibcafkaaaW.PrintMore
attribute [local go_sem] max2_int min2_int max_two min_two max_three min_three max_four min_four   -- for this text's walks alone
set_option linter.unusedVariables false
set_option linter.unusedSimpArgs false
--EXT 
/-! ### slices_ContainsFunc_Entry: function 81, by hand -/
/-- slices.ContainsFunc at api.Entry. -/
theorem slices_ContainsFunc_Entry.calls (p : S27 → Bool) (g : Nat) (lb : Array Value) (eg : ∀ args w, (callFunc g args).run Try.prog w = .ok (.enter g args) w) (A0 : Option Addr) (c0 : Nat) (l0 : List (S27)) (w : World) (hr0 : Kd.C k27 w A0 l0.length l0)
    (hp : ∀ (W : World) (x : S27), Below w.heap.size w W → Calls Try.prog g (#[.agg #[.int .u8 x.f0, .int .u8 x.f1.f0, .int .u32 x.f1.f1, .int .u32 x.f1.f2, .int .i64 x.f2, .int .u8 x.f3, .int .u32 x.f4]] ++ lb) W fun e w' => e = .returned (.bool (p x)) ∧ Below W.heap.size W w') :
    Calls Try.prog 81 #[.slice A0 l0.length c0, .func (.func g) #[] lb] w fun e w' => e = .returned (.bool (l0.any p)) ∧ Below w.heap.size w w' := by
  have hcon := slices_IndexFunc_Entry.calls p g lb eg A0 c0 l0 w hr0 hp
  rw [← idxL_any p l0 0]
  generalize idxL p l0 0 = r at hcon ⊢
  clear hp hr0 eg
  go_enter Try.func81, Try.ntmps81
  go_wp2_with (go_at_call 46; refine hcon.mono ?_; rintro e w' ⟨rfl, hb'⟩)
  go_ret
  exact ⟨rfl, hb'⟩
end Go.Proofs.Ytiminjibcafkaaa.X
end
section
-- MADE BY wip/prx.py (the kit's printer, with contracts proved by hand). Not trusted: Lean checks it.
namespace Go.Proofs.Ytiminjibcafkaaa.X
open Go.RowKit Go.Proofs.YtiminjibcafkaaaW.PrintWords Go.Proofs.YtiminjibcafkaaaW.PrintLast Go.Proofs.YtiminjibcafkaaaW.PrintMore
attribute [local go_sem] max2_int min2_int max_two min_two max_three min_three max_four min_four   -- for this text's walks alone
set_option linter.unusedVariables false
set_option linter.unusedSimpArgs false
--EXT 
/-! ### replica_twin: function 77, by hand -/
/-- Is it of the number, of the replica? -/
def isTwin (g0 g1 : Int) (x : S27) : Bool := decide (x.f1.f0 = g0) && decide (x.f1.f1 = g1)
/-- replica.twin. -/
def replica_twin.f (l0 : List (S27)) (a1_0 a1_1 a1_2 a1_3 a1_4 a1_5 a1_6 : Int) : Option Bool := some (l0.any (isTwin a1_1 a1_2))
theorem replica_twin.pred (v0 v1 v2 v3 v4 v5 v6 : Int) (B1 : Nat) (w : World) (hB1 : B1 < w.heap.size) (h1 : w.heap[B1]? = some (.cells #[.int .u8 v0, .int .u8 v1, .int .u32 v2, .int .u32 v3, .int .i64 v4, .int .u8 v5, .int .u32 v6] 27 (0, 0))) :
    ∀ (W : World) (x : S27), Below w.heap.size w W → Calls Try.prog 82 (#[.agg #[.int .u8 x.f0, .int .u8 x.f1.f0, .int .u32 x.f1.f1, .int .u32 x.f1.f2, .int .i64 x.f2, .int .u8 x.f3, .int .u32 x.f4]] ++ #[.pointer (some ⟨B1, 0, none⟩)]) W fun e w' => e = .returned (.bool (isTwin v1 v2 x)) ∧ Below W.heap.size W w' := fun W x hb => by
  obtain ⟨q0, q1, q2, q3, q4, q5, q6⟩ := cells7 (blk_below h1 hb)
  have n1 : B1 < W.heap.size := Nat.lt_of_lt_of_le hB1 hb.size
  have e1 : B1 ≠ W.heap.size := by omega
  clear hb h1 hB1
  obtain ⟨f0, ⟨g0, g1, g2⟩, f2, f3, f4⟩ := x
  show Calls Try.prog 82 #[.agg #[.int .u8 f0, .int .u8 g0, .int .u32 g1, .int .u32 g2, .int .i64 f2, .int .u8 f3, .int .u32 f4], .pointer (some ⟨B1, 0, none⟩)] W _
  have hu := Try.underlying27
  unfold isTwin
  dsimp only
  by_cases p1 : g0 = v1
  · subst p1
    by_cases p2 : g1 = v2
    · subst p2
      go_enter Try.func82, Try.ntmps82
      go_wp2
      go_ret
      exact ⟨by simp, (Below.refl _ _).alloc (Nat.le_refl _) _⟩
    · go_enter Try.func82, Try.ntmps82
      go_wp2
      go_ret
      exact ⟨by simp [p2], (Below.refl _ _).alloc (Nat.le_refl _) _⟩
  · go_enter Try.func82, Try.ntmps82
    go_wp2
    go_ret
    exact ⟨by simp [p1], (Below.refl _ _).alloc (Nat.le_refl _) _⟩
set_option maxHeartbeats 8000000 in
set_option maxRecDepth 100000 in
theorem replica_twin.calls (A0 : Option Addr) (c0 : Nat) (l0 : List (S27)) (a1_0 : Int) (a1_1 : Int) (a1_2 : Int) (a1_3 : Int) (a1_4 : Int) (a1_5 : Int) (a1_6 : Int) (r : Bool) (w : World) (hr0 : Kd.C k27 w A0 l0.length l0) (hc0 : l0.length ≤ c0) (h : replica_twin.f l0 a1_0 a1_1 a1_2 a1_3 a1_4 a1_5 a1_6 = some r) :
    Calls Try.prog 77 #[.slice A0 l0.length c0, .agg #[.int .u8 a1_0, .int .u8 a1_1, .int .u32 a1_2, .int .u32 a1_3, .int .i64 a1_4, .int .u8 a1_5, .int .u32 a1_6]] w fun e w' => e = .returned (.bool r) ∧ Below w.heap.size w w' := by
  have eg : ∀ args w, (callFunc 82 args).run Try.prog w = .ok (.enter 82 args) w := enters_of Try.func82 (by kernel_rfl) rfl
  have hmf : ∀ (fn : Fn) (first cap : Array Value) (w : World), (Instr.makeFunc fn first cap).run Try.prog w = .ok (.func fn first cap) w := fun _ _ _ _ => rfl
  unfold replica_twin.f at h
  obtain rfl := Option.some.inj h
  clear h
  have HR := Aside0.mk hr0
  have HC := Aside0.mk hc0
  clear hr0 hc0
  have EG := Aside0.mk eg
  clear eg
  go_enter Try.func77, Try.ntmps77
  go_wp2_with fail
  refine (slices_ContainsFunc_Entry.calls (isTwin a1_1 a1_2) 82 #[.pointer (some ⟨w.heap.size, 0, none⟩)] EG.out A0 c0 l0 _ (Kd.C_alloc HR.out _) (replica_twin.pred a1_0 a1_1 a1_2 a1_3 a1_4 a1_5 a1_6 w.heap.size _ (by simp) (blk_new w _))).mono ?_
  rintro e w2 ⟨rfl, hb2⟩
  go_wp2
  go_ret
  exact ⟨rfl, ((Below.refl _ w).alloc (Nat.le_refl _) _).trans (hb2.mono (by simp))⟩
end Go.Proofs.Ytiminjibcafkaaa.X
end
section
/- Regions that draw their order, walked once in the text's order, in the class of worlds that leave what was: words for such walks. -/
namespace Go.Proofs.Ytiminjibcafkaaa.X
open Go.RowKit Go.Proofs.YtiminjibcafkaaaW.PrintWords Go.Proofs.YtiminjibcafkaaaW.PrintLast Go.Proofs.YtiminjibcafkaaaW.PrintMore
set_option linter.unusedVariables false
/-- The worlds that leave what was below block B. -/
def Qc (B : Nat) (w0 : World) (w : World) : Prop := Below B w0 w
theorem region_qc {P : Program} {id : Nat} {Q : Exit → Act → World → Prop} {a : Act} {w : World} {l : List Oper} (hm : P.follows .mixedOrders = true) (hB : Region.lexB .any l.toArray = true)
    (h : wpQuiet P l.toArray (Qc w.heap.size w) (fun a' => ∀ w', Below w.heap.size w w' → Q .normal a' w') l a) : (Code.region id l.toArray true).wp P Q a w :=
  wp_region_quiet (C := Qc w.heap.size w) hm hB (by
    have h1 : ({ w with drawn := w.drawn + 1 } : World) = w.drewN 1 := rfl
    show Below w.heap.size w _
    rw [h1]
    exact pw_below_drewN (Below.refl _ _) 1) (by simpa [Qc] using h)
theorem Qc.out {B : Nat} {w0 w : World} (h : Qc B w0 w) : Below B w0 w := h
theorem Qc.cell {B : Nat} {w0 w : World} (h : Qc B w0 w) {b o : Nat} (hb : b < B) {v : Value} (hv : w0.cell? ⟨b, o, none⟩ = some v) : w.cell? ⟨b, o, none⟩ = some v := (Below.cell (p := ⟨b, o, none⟩) h hb).trans hv
end Go.Proofs.Ytiminjibcafkaaa.X
end
