-- MADE BY wip/prx.py (the kit's printer, with contracts proved by hand). Not trusted: Lean checks it.
import Derived.Test.YtiminjibcafkaaaKPX0
import Derived.Test.YtiminjibcafkaaaKPXhcommon
import Derived.Shelf.Abstract
namespace Go.Proofs.Ytiminjibcafkaaa.X
open Go.RowKit Go.Proofs.YtiminjibcafkaaaW.PrintWords Go.Proofs.YtiminjibcafkaaaW.PrintLast Go.Proofs.YtiminjibcafkaaaW.PrintMore
attribute [local go_sem] max2_int min2_int max_two min_two max_three min_three max_four min_four   -- for this text's walks alone
set_option linter.unusedVariables false
set_option linter.unusedSimpArgs false
--EXT Derived.Shelf.Abstract
/-! ### slices_IndexFunc_Run: function 72, by hand -/
set_option maxHeartbeats 4000000 in
/-- slices.IndexFunc at api.Run, whatever function value that leaves what was. -/
theorem slices_IndexFunc_Run.calls (p : S78 → Bool) (g : Nat) (lb : Array Value) (eg : ∀ args w, (callFunc g args).run Try.prog w = .ok (.enter g args) w) (A0 : Option Addr) (c0 : Nat) (l0 : List (S78)) (w : World) (hr0 : Kd.C k78 w A0 l0.length l0)
    (hp : ∀ (W : World) (x : S78), Below w.heap.size w W → Calls Try.prog g (#[.agg #[.int .u8 x.f0, .int .u32 x.f1, .int .u32 x.f2]] ++ lb) W fun e w' => e = .returned (.bool (p x)) ∧ Below W.heap.size W w') :
    Calls Try.prog 72 #[.slice A0 l0.length c0, .func (.func g) #[] lb] w fun e w' => e = .returned (.int .i64 (idxL p l0 0)) ∧ Below w.heap.size w w' := by
  have hu := Try.underlying78
  have HR := Aside0.mk hr0
  have HP := Aside0.mk hp
  have HM : l0.length ≤ 9223372036854775807 := hr0.2.1
  clear hr0 hp
  go_enter Try.func72, Try.ntmps72
  go_wp2
  go_loopg [5, 8] l0.length (fun gg _ s8 wr => ∃ kk : Nat, kk ≤ l0.length ∧ l0.length - kk ≤ gg ∧ s8 = .int .i64 kk ∧ Aside0 (Below w.heap.size w wr) ∧ Aside0 (∀ j, j < kk → p (l0.getD j z78) = false))
  case atStart => exact ⟨0, Nat.zero_le _, by omega, rfl, ⟨Below.refl _ w⟩, ⟨fun j hj => absurd hj (Nat.not_lt_zero _)⟩⟩
  case round =>
    obtain ⟨kk, hkk, hg, rfl, BW, AF⟩ := hrel
    by_cases hlt : kk < l0.length
    · have hltz : (kk : Int) < (l0.length : Int) := by omega
      obtain ⟨ad, rfl, h0, h1, h2⟩ := at_T78 (Kd.C_below HR.out BW.out) (kk : Int) (by omega) hltz
      have hcall := HP.out wr (rd_T78 l0 kk) BW.out
      have E0 : rd_T78 l0 (kk : Int) = l0.getD kk z78 := rfl
      have E := Aside0.mk E0
      clear E0
      simp only [Int.toNat_natCast] at h0 h1 h2
      generalize rd_T78 l0 (kk : Int) = y at h0 h1 h2 hcall E
      cases hq : p y with
      | true =>
        rw [hq] at hcall
        have Q := Aside0.mk hq
        clear hq
        go_wp2_with (go_at_fn g; refine hcall.mono ?_; rintro e w' ⟨rfl, hb'⟩)
        go_ret
        refine ⟨?_, BW.out.trans (hb'.mono BW.out.size)⟩
        rw [idxL_hit p z78 l0 0 kk hlt AF.out (by rw [← E.out]; exact Q.out), Nat.zero_add]
        (try rfl)
      | false =>
        rw [hq] at hcall
        have Q := Aside0.mk hq
        clear hq
        go_wp2_with (go_at_fn g; refine hcall.mono ?_; rintro e w' ⟨rfl, hb'⟩)
        go_roundg (l0.length - (kk + 1))
        case measure => omega
        case rel =>
          refine ⟨kk + 1, by omega, by omega, by go_num, ⟨BW.out.trans (hb'.mono BW.out.size)⟩, ⟨fun j hj => ?_⟩⟩
          by_cases e : j = kk
          · subst e
            rw [← E.out]; exact Q.out
          · exact AF.out j (by omega)
    · have hltz : ¬ (kk : Int) < (l0.length : Int) := by omega
      have hk : kk = l0.length := by omega
      subst hk
      go_wp2
      go_ret
      refine ⟨?_, BW.out⟩
      rw [idxL_miss p z78 l0 0 AF.out]
      (try rfl)
end Go.Proofs.Ytiminjibcafkaaa.X
