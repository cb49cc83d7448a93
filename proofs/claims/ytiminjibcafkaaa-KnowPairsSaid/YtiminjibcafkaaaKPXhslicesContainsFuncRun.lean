-- MADE BY wip/prx.py (the kit's printer, with contracts proved by hand). Not trusted: Lean checks it.
import Derived.Test.YtiminjibcafkaaaKPX0
import Derived.Test.YtiminjibcafkaaaKPXhcommon
import Derived.Test.YtiminjibcafkaaaKPXhslicesIndexFuncRun
namespace Go.Proofs.Ytiminjibcafkaaa.X
open Go.RowKit Go.Proofs.YtiminjibcafkaaaW.PrintWords Go.Proofs.YtiminjibcafkaaaW.PrintLast Go.Proofs.YtiminjibcafkaaaW.PrintMore
attribute [local go_sem] max2_int min2_int max_two min_two max_three min_three max_four min_four   -- for this text's walks alone
set_option linter.unusedVariables false
set_option linter.unusedSimpArgs false
--EXT 
/-! ### slices_ContainsFunc_Run: function 60, by hand -/
/-- slices.ContainsFunc at api.Run. -/
theorem slices_ContainsFunc_Run.calls (p : S78 → Bool) (g : Nat) (lb : Array Value) (eg : ∀ args w, (callFunc g args).run Try.prog w = .ok (.enter g args) w) (A0 : Option Addr) (c0 : Nat) (l0 : List (S78)) (w : World) (hr0 : Kd.C k78 w A0 l0.length l0)
    (hp : ∀ (W : World) (x : S78), Below w.heap.size w W → Calls Try.prog g (#[.agg #[.int .u8 x.f0, .int .u32 x.f1, .int .u32 x.f2]] ++ lb) W fun e w' => e = .returned (.bool (p x)) ∧ Below W.heap.size W w') :
    Calls Try.prog 60 #[.slice A0 l0.length c0, .func (.func g) #[] lb] w fun e w' => e = .returned (.bool (l0.any p)) ∧ Below w.heap.size w w' := by
  have hcon := slices_IndexFunc_Run.calls p g lb eg A0 c0 l0 w hr0 hp
  rw [← idxL_any p l0 0]
  generalize idxL p l0 0 = r at hcon ⊢
  clear hp hr0 eg
  go_enter Try.func60, Try.ntmps60
  go_wp2_with (go_at_call 72; refine hcon.mono ?_; rintro e w' ⟨rfl, hb'⟩)
  go_ret
  exact ⟨rfl, hb'⟩
end Go.Proofs.Ytiminjibcafkaaa.X
