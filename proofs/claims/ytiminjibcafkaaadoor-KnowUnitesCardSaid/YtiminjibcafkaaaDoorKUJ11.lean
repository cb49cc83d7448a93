/- Texts that this claim's law comes to, joined by wip/slim.py: XhslicesCloneRun, X4, X5, X6. -/
import Derived.Test.YtiminjibcafkaaaDoorKUJ7
import Derived.Lib.SliceRun
section
-- MADE BY wip/prx.py (the kit's printer, with contracts proved by hand). Not trusted: Lean checks it.
namespace Go.Proofs.YtiminjibcafkaaaDoor.X
open Go.RowKit Go.Proofs.YtiminjibcafkaaaDoorW.PrintWords Go.Proofs.YtiminjibcafkaaaDoorW.PrintLast Go.Proofs.YtiminjibcafkaaaDoorW.PrintMore
attribute [local go_sem] max2_int min2_int max_two min_two max_three min_three max_four min_four   -- for this text's walks alone
set_option linter.unusedVariables false
set_option linter.unusedSimpArgs false
--EXT Derived.Lib.SliceRun
/-! ### slices_Clone_Run: function 41, by hand -/
/-- slices.Clone at api.Run: the same elements, if they fit. -/
def slices_Clone_Run.f (l0 : List (S65)) : Option (List (S65)) := if l0.length < 11728124029610 then some l0 else none
set_option maxHeartbeats 8000000 in
set_option maxRecDepth 100000 in
theorem slices_Clone_Run.calls (A0 : Option Addr) (c0 : Nat) (l0 : List (S65)) (r : List (S65)) (w : World) (hr0 : Kd.C k65 w A0 l0.length l0) (hc0 : l0.length ≤ c0) (h : slices_Clone_Run.f l0 = some r) :
    Calls Tryd.prog 41 #[.slice A0 l0.length c0] w fun e w' => ∃ v0_ : Value, e = .returned (v0_) ∧ Kd.R k65 65 w' w.heap.size (fun _ => True) v0_ r ∧ Below w.heap.size w w' := by
  have hq : ∀ (w : World) (a : Option Addr) (n c n' c' : Nat), (binOp .eql 39 (.slice a n c) (.slice none n' c')).run Tryd.prog w = .ok (.bool a.isNone) w := fun w a n c n' c' => Lib.run_eql_slice_nil w _ _ a n c n' c' Tryd.underlying39
  unfold slices_Clone_Run.f at h
  by_cases hlt : l0.length < 11728124029610
  case neg => rw [if_neg hlt] at h; cases h
  rw [if_pos hlt] at h
  obtain rfl := Option.some.inj h
  clear h
  have HL := Aside0.mk hlt
  have HR := Aside0.mk hr0
  clear hlt hr0 hc0
  rcases A0 with _ | ad
  · have h0 : l0 = [] := by
      rcases Nat.eq_zero_or_pos l0.length with h0 | h0
      · exact List.eq_nil_of_length_eq_zero h0
      · obtain ⟨ad, he, _⟩ := HR.out.2.2 h0
        cases he
    have H0 := Aside0.mk h0
    clear h0
    go_enter Tryd.func41, Tryd.ntmps41
    go_wp2
    go_ret
    exact ⟨_, rfl, by rw [H0.out]; exact Kd.R_nil _ _ _ _ _, Below.refl _ _⟩
  · go_enter Tryd.func41, Tryd.ntmps41
    go_wp2_with (at_builtin; (refine Kd.R_append_rows k65 (w0 := w) (Rr := k65.K (w.alloc (.cells #[] 65))) w.heap.size rfl _ _ 39 65 _ 12 rfl Tryd.underlying39 info65 rfl (by decide) (by decide) (.slice (some ⟨w.heap.size, 0, none⟩) 0 0) [] l0 (some ad) l0.length c0 (fun _ => True) (fun k_ => False) rfl rfl ?c1 ?c2 ?c3 (fun _ h => h.elim) (fun _ _ => trivial) ?c4 ?c5 ?c6 ?_))
    case c1 => exact ⟨fun _ _ => trivial, OwnRow.lit w w.heap.size (Reps.none _ _) (Nat.le_refl _) (by simp)⟩
    case c2 => exact Kd.C_alloc HR.out _
    case c3 =>
      intro x cs h
      obtain rfl := k65_open h
      exact k65_mkM _ _ _ x
    case c4 => exact (Below.refl _ _).alloc (Nat.le_refl _) _
    case c5 => simp
    case c6 => have := HL.out; simp; omega
    intro v1 w1 hr1 hb1 _ _
    go_wp2
    go_ret
    exact ⟨_, rfl, hr1, hb1⟩
end Go.Proofs.YtiminjibcafkaaaDoor.X
end
section
-- MADE BY wip/prx.py (the kit's printer, with contracts proved by hand). Not trusted: Lean checks it.
namespace Go.Proofs.YtiminjibcafkaaaDoor.X
open Go.RowKit Go.Proofs.YtiminjibcafkaaaDoorW.PrintWords Go.Proofs.YtiminjibcafkaaaDoorW.PrintLast Go.Proofs.YtiminjibcafkaaaDoorW.PrintMore
attribute [local go_sem] max2_int min2_int max_two min_two max_three min_three max_four min_four   -- for this text's walks alone
set_option linter.unusedVariables false
set_option linter.unusedSimpArgs false
/-! ### item_RightVer: function 47 -/
def item_RightVer.f (a0_0 : Int) (a0_1 : Int) (a0_2 : Int) : Option (Bool) := if a0_0 < 8 then (if a0_1 ≥ 1 then (some (decide (a0_2 ≥ 1))) else (some false)) else (some false)
/-! ### item_entry: function 29 -/
def item_entry.f (a0_0 : Int) (a0_1 : Int) (a0_2 : Int) (a0_3 : Int) (a0_4 : Int) (a0_5 : Int) (a0_6 : Int) : Option (Bool) := if a0_4 = 1 then (if ((a0_5) % 4294967296) = (Int.tmod a0_6 8) then ((item_RightVer.f a0_1 a0_2 a0_3).bind fun t103 => (if t103 = true then (some (decide (a0_0 < 64))) else (some false))) else (some false)) else (if a0_4 = 3 then (if a0_5 = 0 then (if a0_5 ≥ 8 then (some false) else (if a0_6 = 0 then ((item_RightVer.f a0_1 a0_2 a0_3).bind fun t105 => (if t105 = true then (some (decide (a0_0 < 64))) else (some false))) else (some false))) else (some false)) else (if a0_4 = 2 then (if a0_5 ≥ 8 then (some false) else (if a0_6 = 0 then ((item_RightVer.f a0_1 a0_2 a0_3).bind fun t104 => (if t104 = true then (some (decide (a0_0 < 64))) else (some false))) else (some false))) else (some false)))
end Go.Proofs.YtiminjibcafkaaaDoor.X
end
section
-- MADE BY wip/prx.py (the kit's printer, with contracts proved by hand). Not trusted: Lean checks it.
namespace Go.Proofs.YtiminjibcafkaaaDoor.X
open Go.RowKit Go.Proofs.YtiminjibcafkaaaDoorW.PrintWords Go.Proofs.YtiminjibcafkaaaDoorW.PrintLast Go.Proofs.YtiminjibcafkaaaDoorW.PrintMore
attribute [local go_sem] max2_int min2_int max_two min_two max_three min_three max_four min_four   -- for this text's walks alone
set_option linter.unusedVariables false
set_option linter.unusedSimpArgs false
/-! ### item_Right: function 14 -/
def item_Right.l0 : Nat → List (S27) → List (S27) → Int → Int → Option (Bool)
  | 0, _, _, _, _ => none
  | k + 1, x0, x5, x6, x7 => if x7 < x6 then (if 0 ≤ x7 then (if x7 < (x5.length : Int) then ((item_entry.f ((rd_T27 x5 x7).f0) ((rd_T27 x5 x7).f1.f0) ((rd_T27 x5 x7).f1.f1) ((rd_T27 x5 x7).f1.f2) ((rd_T27 x5 x7).f2) ((rd_T27 x5 x7).f3) ((rd_T27 x5 x7).f4)).bind fun t108 => (if t108 = true then (if x7 > 0 then (if 0 ≤ (wrap64 (x7 - 1)) then (if (wrap64 (x7 - 1)) < (x0.length : Int) then (if ((rd_T27 x0 (wrap64 (x7 - 1))).f0) ≥ ((rd_T27 x5 x7).f0) then (some false) else (item_Right.l0 k x0 x5 x6 (wrap64 (x7 + 1)))) else (none)) else (none)) else (item_Right.l0 k x0 x5 x6 (wrap64 (x7 + 1)))) else (some false))) else (none)) else (none)) else (some true)
def item_Right.f (k : Nat) (l0 : List (S27)) : Option (Bool) := item_Right.l0 k l0 l0 (l0.length : Int) 0
/-! ### cmp_isNaN_uint8: function 48 -/
def cmp_isNaN_uint8.f (a0 : Int) : Option (Bool) := some (a0 != a0)
end Go.Proofs.YtiminjibcafkaaaDoor.X
end
section
-- MADE BY wip/prx.py (the kit's printer, with contracts proved by hand). Not trusted: Lean checks it.
namespace Go.Proofs.YtiminjibcafkaaaDoor.X
open Go.RowKit Go.Proofs.YtiminjibcafkaaaDoorW.PrintWords Go.Proofs.YtiminjibcafkaaaDoorW.PrintLast Go.Proofs.YtiminjibcafkaaaDoorW.PrintMore
attribute [local go_sem] max2_int min2_int max_two min_two max_three min_three max_four min_four   -- for this text's walks alone
set_option linter.unusedVariables false
set_option linter.unusedSimpArgs false
/-! ### cmp_Compare_uint8: function 32 -/
def cmp_Compare_uint8.f (a0 : Int) (a1 : Int) : Option (Int) := (cmp_isNaN_uint8.f a0).bind fun t110 => ((cmp_isNaN_uint8.f a1).bind fun t111 => (if t110 = true then (if t111 = true then (some 0) else (some (-1))) else (if t111 = true then (some 1) else (if a0 < a1 then (some (-1)) else (if a0 > a1 then (some 1) else (some 0))))))
end Go.Proofs.YtiminjibcafkaaaDoor.X
end
