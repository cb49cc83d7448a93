-- MADE BY wip/prx.py (the kit's printer, with contracts proved by hand). Not trusted: Lean checks it.
import Derived.Test.YtiminjibcafkaaaDoorKUJ7
import Derived.Test.YtiminjibcafkaaaDoorKUX19
namespace Go.Proofs.YtiminjibcafkaaaDoor.X
open Go.RowKit Go.Proofs.YtiminjibcafkaaaDoorW.PrintWords Go.Proofs.YtiminjibcafkaaaDoorW.PrintLast Go.Proofs.YtiminjibcafkaaaDoorW.PrintMore
attribute [local go_sem] max2_int min2_int max_two min_two max_three min_three max_four min_four   -- for this text's walks alone
set_option linter.unusedVariables false
set_option linter.unusedSimpArgs false
/-! ### tidingsref01_told: function 42 -/
mutual
def tidingsref01_told.l0 : Nat → List (S65) → Int → Int → List (S65) → Int → Option ((List (S65)) × Int)
  | 0, _, _, _, _, _ => none
  | k + 1, x0, x1, x2, x8, x9 => if x9 < 8 then (tidingsref01_told.l1 k x0 x1 x2 x8 x9 ([] : List Int) 0) else (if (x8.length : Int) > 64 then (some (([] : List (S65)), 5)) else (some (x8, 0)))
def tidingsref01_told.l1 : Nat → List (S65) → Int → Int → List (S65) → Int → List Int → Int → Option ((List (S65)) × Int)
  | 0, _, _, _, _, _, _, _ => none
  | k + 1, x0, x1, x2, x8, x9, x10, x11 => if x11 < (x0.length : Int) then (if 0 ≤ x11 then (if (wrap64 ((rd_T65 x0 x11).f0)) = x9 then ((tidingsref01_put.f k x10 (IntKind.u64.wrap ((rd_T65 x0 x11).f1))).bind fun t338 => ((tidingsref01_put.f k t338 (IntKind.u64.wrap ((IntKind.u64.wrap ((rd_T65 x0 x11).f2)) + 1))).bind fun t342 => (tidingsref01_told.l1 k x0 x1 x2 x8 x9 t342 (wrap64 (x11 + 1))))) else (tidingsref01_told.l1 k x0 x1 x2 x8 x9 x10 (wrap64 (x11 + 1)))) else (none)) else (if (wrap64 (x1)) = x9 then (tidingsref01_told.j2 k x0 x1 x2 x8 x9 x10 (decide (x2 > 0))) else (tidingsref01_told.j2 k x0 x1 x2 x8 x9 x10 false))
def tidingsref01_told.j2 : Nat → List (S65) → Int → Int → List (S65) → Int → List Int → Bool → Option ((List (S65)) × Int)
  | 0, _, _, _, _, _, _, _ => none
  | k + 1, x0, x1, x2, x8, x9, x10, x57 => if x57 = true then ((tidingsref01_put.f k x10 (IntKind.u64.wrap (x2))).bind fun t345 => ((tidingsref01_put.f k t345 (IntKind.u64.wrap ((IntKind.u64.wrap (x2)) + 1))).bind fun t348 => (tidingsref01_told.j3 k x0 x1 x2 x8 x9 t348))) else (tidingsref01_told.j3 k x0 x1 x2 x8 x9 x10)
def tidingsref01_told.j3 : Nat → List (S65) → Int → Int → List (S65) → Int → List Int → Option ((List (S65)) × Int)
  | 0, _, _, _, _, _, _ => none
  | k + 1, x0, x1, x2, x8, x9, x10 => tidingsref01_told.l2 k x0 x1 x2 x8 x9 x10 false 0
def tidingsref01_told.l2 : Nat → List (S65) → Int → Int → List (S65) → Int → List Int → Bool → Int → Option ((List (S65)) × Int)
  | 0, _, _, _, _, _, _, _, _ => none
  | k + 1, x0, x1, x2, x8, x9, x10, x12, x13 => if x13 < (x10.length : Int) then (if 0 ≤ x13 then ((tidingsref01_in.f k x0 ((x9) % 256) (rd x10 x13)).bind fun t352 => (if t352 = true then (if (wrap64 (x1)) = x9 then (if x2 > 0 then (tidingsref01_told.j5 k x0 x1 x2 x8 x9 x10 x12 x13 (!((rd x10 x13) == (IntKind.u64.wrap (x2))))) else (tidingsref01_told.j5 k x0 x1 x2 x8 x9 x10 x12 x13 (!false))) else (tidingsref01_told.j5 k x0 x1 x2 x8 x9 x10 x12 x13 (!false))) else (tidingsref01_told.j5 k x0 x1 x2 x8 x9 x10 x12 x13 false))) else (none)) else (tidingsref01_told.l0 k x0 x1 x2 x8 (wrap64 (x9 + 1)))
def tidingsref01_told.j5 : Nat → List (S65) → Int → Int → List (S65) → Int → List Int → Bool → Int → Bool → Option ((List (S65)) × Int)
  | 0, _, _, _, _, _, _, _, _, _ => none
  | k + 1, x0, x1, x2, x8, x9, x10, x12, x13, x14 => if x14 = true then (tidingsref01_told.j6 k x0 x1 x2 x8 x9 x10 x12 x13 x14 (!x12)) else (tidingsref01_told.j6 k x0 x1 x2 x8 x9 x10 x12 x13 x14 false)
def tidingsref01_told.j6 : Nat → List (S65) → Int → Int → List (S65) → Int → List Int → Bool → Int → Bool → Bool → Option ((List (S65)) × Int)
  | 0, _, _, _, _, _, _, _, _, _, _ => none
  | k + 1, x0, x1, x2, x8, x9, x10, x12, x13, x14, x105 => if x105 = true then (if 0 ≤ x13 then (if x13 < (x10.length : Int) then (if x8.length < 11728124029610 then ((some (x8 ++ [(⟨(x9) % 256, (rd x10 x13) % 4294967296, 0⟩ : S65)] : List (S65))).bind fun y355 => (if x14 = true then (tidingsref01_told.l2 k x0 x1 x2 y355 x9 x10 x14 (wrap64 (x13 + 1))) else (if x12 = true then (if 0 ≤ (wrap64 ((y355.length : Int) - 1)) then (if (wrap64 ((y355.length : Int) - 1)) < (y355.length : Int) then (tidingsref01_told.l2 k x0 x1 x2 (y355.set ((wrap64 ((y355.length : Int) - 1)) : Int).toNat (⟨(rd_T65 y355 (wrap64 ((y355.length : Int) - 1))).f0, (rd_T65 y355 (wrap64 ((y355.length : Int) - 1))).f1, (IntKind.u64.wrap ((rd x10 x13) - 1)) % 4294967296⟩ : S65)) x9 x10 x14 (wrap64 (x13 + 1))) else (none)) else (none)) else (tidingsref01_told.l2 k x0 x1 x2 y355 x9 x10 x14 (wrap64 (x13 + 1)))))) else (none)) else (none)) else (none)) else (if x14 = true then (tidingsref01_told.l2 k x0 x1 x2 x8 x9 x10 x14 (wrap64 (x13 + 1))) else (if x12 = true then (if 0 ≤ x13 then (if x13 < (x10.length : Int) then (if 0 ≤ (wrap64 ((x8.length : Int) - 1)) then (if (wrap64 ((x8.length : Int) - 1)) < (x8.length : Int) then (tidingsref01_told.l2 k x0 x1 x2 (x8.set ((wrap64 ((x8.length : Int) - 1)) : Int).toNat (⟨(rd_T65 x8 (wrap64 ((x8.length : Int) - 1))).f0, (rd_T65 x8 (wrap64 ((x8.length : Int) - 1))).f1, (IntKind.u64.wrap ((rd x10 x13) - 1)) % 4294967296⟩ : S65)) x9 x10 x14 (wrap64 (x13 + 1))) else (none)) else (none)) else (none)) else (none)) else (tidingsref01_told.l2 k x0 x1 x2 x8 x9 x10 x14 (wrap64 (x13 + 1)))))
end
def tidingsref01_told.f (k : Nat) (l0 : List (S65)) (a1 : Int) (a2 : Int) : Option ((List (S65)) × Int) := tidingsref01_told.l0 k l0 a1 a2 ([] : List (S65)) 0
set_option maxHeartbeats 8000000 in
set_option maxRecDepth 100000 in
theorem tidingsref01_told.calls (k : Nat) (A0 : Option Addr) (c0 : Nat) (l0 : List (S65)) (a1 : Int) (a2 : Int) (r1 : List (S65)) (r2 : Int) (w : World) (hr0 : Kd.C k65 w A0 l0.length l0) (hc0 : l0.length ≤ c0) (h : tidingsref01_told.f k l0 a1 a2 = some (r1, r2)) :
    Calls Tryd.prog 42 #[.slice A0 l0.length c0, .int .u8 a1, .int .u32 a2] w fun e w' => ∃ v0_ : Value, e = .returned (.tuple #[v0_, .int .i64 r2]) ∧ Kd.R k65 65 w' w.heap.size (fun _ => True) v0_ r1 ∧ Below w.heap.size w w' := by
  have hu65 := Tryd.underlying65
  have HR0 := Aside0.mk hr0
  have HC0 := Aside0.mk hc0
  clear hr0 hc0
  have HB := Aside0.mk (Below.refl w.heap.size w)
  have H : (tidingsref01_told.l0 k l0 a1 a2 ([] : List (S65)) 0) = some (r1, r2) := h
  clear h
  have H' := Aside0.mk H
  clear H
  go_enter Tryd.func42, Tryd.ntmps42
  go_wp2
  go_loopg [8, 9] k (fun kq v8 v9 w' => ∃ (x8_1 : List (S65)) (x9_1 : Int), v9 = .int .i64 x9_1 ∧ Aside0 (tidingsref01_told.l0 kq l0 a1 a2 x8_1 x9_1 = some (r1, r2)) ∧ Aside0 (kq ≤ k) ∧ Aside0 (Kd.R k65 65 w' w.heap.size (fun _ => True) v8 x8_1) ∧ Aside0 (Below w.heap.size w w'))
  case atStart => exact ⟨(([] : List (S65))), (0), (by first | rfl | (simp; done) | (simp [*]; done)), H', ⟨Nat.le_refl _⟩, ⟨by first | exact Kd.R_nil _ _ _ _ _ | exact Kd.N_nil _ _ _ _ _ | exact Kd.V_nil _ _ _ _ _ | exact Kd.Q_nil _ _ _ _ _ | exact Kd.S_nil _ _ _ _ _⟩, ⟨by repeat (first | (with_reducible first | exact HB.out | apply below_alloc | apply pw_below_drewN | apply below_drew1) | exact HB.out)⟩⟩
  case round =>
    clear H'
    try clear p2
    obtain ⟨x8_1, x9_1, rfl, HA, HK1, HO_8, HB⟩ := hrel
    cases gk with
    | zero => exact absurd HA.out (by simp [tidingsref01_told.l0])
    | succ k1 =>
      have H := HA.out
      clear HA
      simp only [tidingsref01_told.l0] at H
      by_cases c4 : x9_1 < 8
      · rw [if_pos c4] at H
        have c4b0 : decide (x9_1 < 8) = true := decide_eq_true c4
        clear c4
        have H' := Aside0.mk H
        clear H
        go_wp2
        go_loopg [10, 11] k1 (fun kq v10 v11 w' => ∃ (x10_2 : List Int) (x11_2 : Int), v11 = .int .i64 x11_2 ∧ Aside0 (tidingsref01_told.l1 kq l0 a1 a2 x8_1 x9_1 x10_2 x11_2 = some (r1, r2)) ∧ Aside0 (kq ≤ k1) ∧ Aside0 (Kd.R k65 65 w' w.heap.size (fun _ => True) u8 x8_1) ∧ Aside0 (Kd.R (Kd.int .u64) 70 w' w.heap.size (fun _ => True) v10 x10_2) ∧ Aside0 (Below w.heap.size w w'))
        case atStart => exact ⟨(([] : List Int)), (0), (by first | rfl | (simp; done) | (simp [*]; done)), H', ⟨Nat.le_refl _⟩, ⟨by (with_reducible repeat (first | apply Kd.R_alloc | apply Kd.R_drewN | apply Kd.R_drew)); exact HO_8.out⟩, ⟨by first | exact Kd.R_nil _ _ _ _ _ | exact Kd.N_nil _ _ _ _ _ | exact Kd.V_nil _ _ _ _ _ | exact Kd.Q_nil _ _ _ _ _ | exact Kd.S_nil _ _ _ _ _⟩, ⟨by repeat (first | (with_reducible first | exact HB.out | apply below_alloc | apply pw_below_drewN | apply below_drew1) | exact HB.out)⟩⟩
        case round =>
          clear H'
          try clear p2
          try clear c4
          try clear c4b0
          try clear p2
          obtain ⟨x10_2, x11_2, rfl, HA, HK2, HO_8, HO_10, HB⟩ := hrel
          cases gk with
          | zero => exact absurd HA.out (by simp [tidingsref01_told.l1])
          | succ k2 =>
            have H := HA.out
            clear HA
            simp only [tidingsref01_told.l1] at H
            by_cases c5 : x11_2 < (l0.length : Int)
            · rw [if_pos c5] at H
              have c5b0 : decide (x11_2 < (l0.length : Int)) = true := decide_eq_true c5
              clear c5
              by_cases c6 : 0 ≤ x11_2
              · rw [if_pos c6] at H
                have c6b0 : decide (0 ≤ x11_2) = true := decide_eq_true c6
                clear c6
                by_cases c7 : (wrap64 ((rd_T65 l0 x11_2).f0)) = x9_1
                · rw [if_pos c7] at H
                  have c7b0 : ((wrap64 ((rd_T65 l0 x11_2).f0)) == x9_1) = true := beq_iff_eq.mpr c7
                  have c7b1 : ((wrap64 ((rd_T65 l0 x11_2).f0)) != x9_1) = false := bne_eq_false_iff_eq.mpr c7
                  clear c7
                  replace H := Option.bind_eq_some_iff.mp H
                  obtain ⟨t338, A80, H⟩ := H
                  replace H : ((tidingsref01_put.f k2 t338 (IntKind.u64.wrap ((IntKind.u64.wrap ((rd_T65 l0 x11_2).f2)) + 1))).bind fun t342 => (tidingsref01_told.l1 k2 l0 a1 a2 x8_1 x9_1 t342 (wrap64 (x11_2 + 1)))) = some (r1, r2) := H
                  have A8 := Aside0.mk A80
                  clear A80
                  replace H := Option.bind_eq_some_iff.mp H
                  obtain ⟨t342, A90, H⟩ := H
                  replace H : (tidingsref01_told.l1 k2 l0 a1 a2 x8_1 x9_1 t342 (wrap64 (x11_2 + 1))) = some (r1, r2) := H
                  have A9 := Aside0.mk A90
                  clear A90
                  have H' := Aside0.mk H
                  clear H
                  have p336 : 0 ≤ (x11_2 : Int) := of_decide_eq_true (by first | (with_reducible assumption) | assumption)
                  have q336 : x11_2 < (l0.length : Int) := of_decide_eq_true (by first | (with_reducible assumption) | assumption)
                  obtain ⟨ad336, e336, hx336_0, hx336_1, hx336_2⟩ := at_T65 HR0.out x11_2 p336 q336
                  cases e336
                  replace hx336_0 := (HB.out.cell (World.block_lt_of_cell? w _ hx336_0)).trans hx336_0
                  replace hx336_1 := (HB.out.cell (World.block_lt_of_cell? w _ hx336_1)).trans hx336_1
                  replace hx336_2 := (HB.out.cell (World.block_lt_of_cell? w _ hx336_2)).trans hx336_2
                  replace p336 := eq_true p336
                  replace q336 := eq_true q336
                  have p337 : 0 ≤ (x11_2 : Int) := of_decide_eq_true (by first | (with_reducible assumption) | assumption)
                  have q337 : x11_2 < (l0.length : Int) := of_decide_eq_true (by first | (with_reducible assumption) | assumption)
                  obtain ⟨ad337, e337, hx337_0, hx337_1, hx337_2⟩ := at_T65 HR0.out x11_2 p337 q337
                  obtain rfl : ad336 = ad337 := (by injection e337)
                  replace hx337_0 := (HB.out.cell (World.block_lt_of_cell? w _ hx337_0)).trans hx337_0
                  replace hx337_1 := (HB.out.cell (World.block_lt_of_cell? w _ hx337_1)).trans hx337_1
                  replace hx337_2 := (HB.out.cell (World.block_lt_of_cell? w _ hx337_2)).trans hx337_2
                  replace p337 := eq_true p337
                  replace q337 := eq_true q337
                  obtain ⟨Ao10, co10, eo10⟩ := Kd.R_slice HO_10.out
                  subst eo10
                  go_wp2_with (first | ((with_reducible refine gate_callee (f := 59) rfl ?_); refine goesL_ (some 40) rfl rfl Tryd.func59 (by kernel_rfl) rfl #[.slice Ao10 x10_2.length co10, .int .u64 (IntKind.u64.wrap ((rd_T65 l0 x11_2).f1))] rfl (by (try simp only [List.map_toArray, List.map_cons, List.map_nil]); first | done | rfl | (simp only [List.length_drop, List.length_take]; rfl)) ?_; (with_reducible refine (tidingsref01_put.calls k2 (fun k_ => some k_ = (.slice Ao10 x10_2.length co10 : Value).ownBlock) (.slice Ao10 x10_2.length co10) x10_2 (IntKind.u64.wrap ((rd_T65 l0 x11_2).f1)) t338 w _ ?side1 ?side2 A8.out).mono ?_); (case side1 => repeat (first | (with_reducible first | exact HB.out | apply below_alloc | apply pw_below_drewN | apply below_drew1) | exact HB.out)); (case side2 => exact Kd.R_tight rfl HO_10.out); rintro e w11 ⟨v339, rfl, ho0, hb, hkp⟩; refine ⟨_, rfl, ?_⟩; have n0_ := Aside0.mk (Kd.R_mono (ok' := fun k_ => True) (Kd.R_keptB ((Kd.R_apart' HO_8.out (Kd.R_typed HO_10.out) (by decide))) hkp (fun k_ hk_ hs_ => (hk_.2) hs_)) (fun k_ hk_ => trivial)); have n1_ := Aside0.mk (Kd.R_mono (ok' := fun k_ => True) ho0 (fun k_ hk_ => trivial)); have n2_ := Aside0.mk (hb); clear HO_8; clear HB; clear HO_10; have HO_8 := n0_; have HO340 := n1_; have HB := n2_; clear n0_ n1_ n2_; (try clear hb); (try clear hkp); (try clear ho0); have p341 : 0 ≤ (x11_2 : Int) := of_decide_eq_true (by first | (with_reducible assumption) | assumption); have q341 : x11_2 < (l0.length : Int) := of_decide_eq_true (by first | (with_reducible assumption) | assumption); obtain ⟨ad341, e341, hx341_0, hx341_1, hx341_2⟩ := at_T65 HR0.out x11_2 p341 q341; obtain rfl : ad336 = ad341 := (by injection e341); replace hx341_0 := (HB.out.cell (World.block_lt_of_cell? w _ hx341_0)).trans hx341_0; replace hx341_1 := (HB.out.cell (World.block_lt_of_cell? w _ hx341_1)).trans hx341_1; replace hx341_2 := (HB.out.cell (World.block_lt_of_cell? w _ hx341_2)).trans hx341_2; replace p341 := eq_true p341; replace q341 := eq_true q341; obtain ⟨Ao12, co12, eo12⟩ := Kd.R_slice HO340.out; subst eo12) | ((with_reducible refine gate_callee (f := 59) rfl ?_); refine goesL_ (some 49) rfl rfl Tryd.func59 (by kernel_rfl) rfl #[.slice Ao12 t338.length co12, .int .u64 (IntKind.u64.wrap ((IntKind.u64.wrap ((rd_T65 l0 x11_2).f2)) + 1))] rfl (by (try simp only [List.map_toArray, List.map_cons, List.map_nil]); first | done | rfl | (simp only [List.length_drop, List.length_take]; rfl)) ?_; (with_reducible refine (tidingsref01_put.calls k2 (fun k_ => some k_ = (.slice Ao12 t338.length co12 : Value).ownBlock) (.slice Ao12 t338.length co12) t338 (IntKind.u64.wrap ((IntKind.u64.wrap ((rd_T65 l0 x11_2).f2)) + 1)) t342 w _ ?side1 ?side2 A9.out).mono ?_); (case side1 => repeat (first | (with_reducible first | exact HB.out | apply below_alloc | apply pw_below_drewN | apply below_drew1) | exact HB.out)); (case side2 => exact Kd.R_tight rfl HO340.out); rintro e w13 ⟨v343, rfl, ho0, hb, hkp⟩; refine ⟨_, rfl, ?_⟩; have n0_ := Aside0.mk (Kd.R_mono (ok' := fun k_ => True) (Kd.R_keptB ((Kd.R_apart' HO_8.out (Kd.R_typed HO340.out) (by decide))) hkp (fun k_ hk_ hs_ => (hk_.2) hs_)) (fun k_ hk_ => trivial)); have n1_ := Aside0.mk (Kd.R_mono (ok' := fun k_ => True) ho0 (fun k_ hk_ => trivial)); have n2_ := Aside0.mk (hb); clear HO_8; clear HB; clear HO340; have HO_8 := n0_; have HO344 := n1_; have HB := n2_; clear n0_ n1_ n2_; (try clear hb); (try clear hkp); (try clear ho0)))
                  go_roundg k2
                  case measure => have := HK1.out; have := HK2.out; omega
                  case rel => exact ⟨(t342), (wrap64 (x11_2 + 1)), (by first | rfl | (simp; done) | (simp [*]; done)), H', ⟨by have := HK1.out; have := HK2.out; omega⟩, ⟨by (with_reducible repeat (first | apply Kd.R_alloc | apply Kd.R_drewN | apply Kd.R_drew)); exact HO_8.out⟩, ⟨by (with_reducible repeat (first | apply Kd.R_alloc | apply Kd.R_drewN | apply Kd.R_drew)); exact HO344.out⟩, ⟨by repeat (first | (with_reducible first | exact HB.out | apply below_alloc | apply pw_below_drewN | apply below_drew1) | exact HB.out)⟩⟩
                · rw [if_neg c7] at H
                  have c7b0 : ((wrap64 ((rd_T65 l0 x11_2).f0)) == x9_1) = false := beq_eq_false_iff_ne.mpr c7
                  have c7b1 : ((wrap64 ((rd_T65 l0 x11_2).f0)) != x9_1) = true := bne_iff_ne.mpr c7
                  have H' := Aside0.mk H
                  clear H
                  have p336 : 0 ≤ (x11_2 : Int) := of_decide_eq_true (by first | (with_reducible assumption) | assumption)
                  have q336 : x11_2 < (l0.length : Int) := of_decide_eq_true (by first | (with_reducible assumption) | assumption)
                  obtain ⟨ad336, e336, hx336_0, hx336_1, hx336_2⟩ := at_T65 HR0.out x11_2 p336 q336
                  cases e336
                  replace hx336_0 := (HB.out.cell (World.block_lt_of_cell? w _ hx336_0)).trans hx336_0
                  replace hx336_1 := (HB.out.cell (World.block_lt_of_cell? w _ hx336_1)).trans hx336_1
                  replace hx336_2 := (HB.out.cell (World.block_lt_of_cell? w _ hx336_2)).trans hx336_2
                  replace p336 := eq_true p336
                  replace q336 := eq_true q336
                  go_wp2
                  go_roundg k2
                  case measure => have := HK1.out; have := HK2.out; omega
                  case rel => exact ⟨(x10_2), (wrap64 (x11_2 + 1)), (by first | rfl | (simp; done) | (simp [*]; done)), H', ⟨by have := HK1.out; have := HK2.out; omega⟩, ⟨by (with_reducible repeat (first | apply Kd.R_alloc | apply Kd.R_drewN | apply Kd.R_drew)); exact HO_8.out⟩, ⟨by (with_reducible repeat (first | apply Kd.R_alloc | apply Kd.R_drewN | apply Kd.R_drew)); exact HO_10.out⟩, ⟨by repeat (first | (with_reducible first | exact HB.out | apply below_alloc | apply pw_below_drewN | apply below_drew1) | exact HB.out)⟩⟩
              · rw [if_neg c6] at H
                exact absurd H (by simp)
            · rw [if_neg c5] at H
              have c5b0 : decide (x11_2 < (l0.length : Int)) = false := decide_eq_false c5
              clear c5
              have HC14 := Aside0.mk H
              clear H
              go_upto_region 12 with (fail)
              go_cut [57] (fun v57 wc => ∃ (kq : Nat) (x57_13 : Bool), v57 = .bool x57_13 ∧ Aside0 (tidingsref01_told.j2 kq l0 a1 a2 x8_1 x9_1 x10_2 x57_13 = some (r1, r2)) ∧ Aside0 (kq ≤ k2) ∧ Aside0 (Kd.R k65 65 wc w.heap.size (fun _ => True) u8 x8_1) ∧ Aside0 (Kd.R (Kd.int .u64) 70 wc w.heap.size (fun _ => True) u10 x10_2) ∧ Aside0 (Below w.heap.size w wc))
              case first =>
                have H := HC14.out
                clear HC14
                by_cases c15 : (wrap64 (a1)) = x9_1
                · rw [if_pos c15] at H
                  have c15b0 : ((wrap64 (a1)) == x9_1) = true := beq_iff_eq.mpr c15
                  have c15b1 : ((wrap64 (a1)) != x9_1) = false := bne_eq_false_iff_eq.mpr c15
                  clear c15
                  (first | rw [c15b0] | (simp only [i64_w, i32_w]; rw [c15b0]) | skip)
                  have H' := Aside0.mk H
                  clear H
                  go_wp2
                  go_meet
                  case rel => exact ⟨_, (decide (a2 > 0)), (by first | rfl | (simp; done) | (simp [*]; done)), H', ⟨by have := HK1.out; have := HK2.out; first | omega | exact Nat.le_refl _⟩, ⟨by (with_reducible repeat (first | apply Kd.R_alloc | apply Kd.R_drewN | apply Kd.R_drew)); exact HO_8.out⟩, ⟨by (with_reducible repeat (first | apply Kd.R_alloc | apply Kd.R_drewN | apply Kd.R_drew)); exact HO_10.out⟩, ⟨by repeat (first | (with_reducible first | exact HB.out | apply below_alloc | apply pw_below_drewN | apply below_drew1) | exact HB.out)⟩⟩
                · rw [if_neg c15] at H
                  have c15b0 : ((wrap64 (a1)) == x9_1) = false := beq_eq_false_iff_ne.mpr c15
                  have c15b1 : ((wrap64 (a1)) != x9_1) = true := bne_iff_ne.mpr c15
                  (first | rw [c15b0] | (simp only [i64_w, i32_w]; rw [c15b0]) | skip)
                  have H' := Aside0.mk H
                  clear H
                  go_wp2
                  go_meet
                  case rel => exact ⟨_, (false), (by first | rfl | (simp; done) | (simp [*]; done)), H', ⟨by have := HK1.out; have := HK2.out; first | omega | exact Nat.le_refl _⟩, ⟨by (with_reducible repeat (first | apply Kd.R_alloc | apply Kd.R_drewN | apply Kd.R_drew)); exact HO_8.out⟩, ⟨by (with_reducible repeat (first | apply Kd.R_alloc | apply Kd.R_drewN | apply Kd.R_drew)); exact HO_10.out⟩, ⟨by repeat (first | (with_reducible first | exact HB.out | apply below_alloc | apply pw_below_drewN | apply below_drew1) | exact HB.out)⟩⟩
              case rest =>
                clear HC14
                try clear c1
                try clear p2
                try clear p3
                try clear q3
                try clear hx3
                try clear c4
                try clear c4b0
                try clear c5
                try clear c5b0
                try clear c6
                try clear c6b0
                try clear p6
                try clear c7
                try clear c7b0
                try clear c7b1
                try clear c15
                try clear c15b0
                try clear c15b1
                try clear hx336_0
                try clear hx336_1
                try clear hx336_2
                try clear hx337_0
                try clear hx337_1
                try clear hx337_2
                try clear hx341_0
                try clear hx341_1
                try clear hx341_2
                try clear p2
                try clear p336
                try clear p337
                try clear p341
                try clear q336
                try clear q337
                try clear q341
                obtain ⟨kq, x57_13, rfl, HA, HJ13, HO_8, HO_10, HB⟩ := hcut
                cases kq with
                | zero => exact absurd HA.out (by simp [tidingsref01_told.j2])
                | succ kj13 =>
                  have H := HA.out
                  clear HA
                  simp only [tidingsref01_told.j2] at H
                  have HC16 := Aside0.mk H
                  clear H
                  go_upto_if 57 with (fail)
                  go_cut [10] (fun v10 wc => ∃ (kq : Nat) (x10_15 : List Int), Aside0 (tidingsref01_told.j3 kq l0 a1 a2 x8_1 x9_1 x10_15 = some (r1, r2)) ∧ Aside0 (kq ≤ kj13) ∧ Aside0 (Kd.R k65 65 wc w.heap.size (fun _ => True) u8 x8_1) ∧ Aside0 (Kd.R (Kd.int .u64) 70 wc w.heap.size (fun _ => True) v10 x10_15) ∧ Aside0 (Below w.heap.size w wc))
                  case first =>
                    have H := HC16.out
                    clear HC16
                    by_cases c17 : x57_13 = true
                    · subst c17
                      have H1 : ((tidingsref01_put.f kj13 x10_2 (IntKind.u64.wrap (a2))).bind fun t345 => ((tidingsref01_put.f kj13 t345 (IntKind.u64.wrap ((IntKind.u64.wrap (a2)) + 1))).bind fun t348 => (tidingsref01_told.j3 kj13 l0 a1 a2 x8_1 x9_1 t348))) = some (r1, r2) := by rw [if_pos rfl] at H; exact H
                      clear H
                      have H := H1
                      clear H1
                      replace H := Option.bind_eq_some_iff.mp H
                      obtain ⟨t345, A180, H⟩ := H
                      replace H : ((tidingsref01_put.f kj13 t345 (IntKind.u64.wrap ((IntKind.u64.wrap (a2)) + 1))).bind fun t348 => (tidingsref01_told.j3 kj13 l0 a1 a2 x8_1 x9_1 t348)) = some (r1, r2) := H
                      have A18 := Aside0.mk A180
                      clear A180
                      replace H := Option.bind_eq_some_iff.mp H
                      obtain ⟨t348, A190, H⟩ := H
                      replace H : (tidingsref01_told.j3 kj13 l0 a1 a2 x8_1 x9_1 t348) = some (r1, r2) := H
                      have A19 := Aside0.mk A190
                      clear A190
                      have H' := Aside0.mk H
                      clear H
                      obtain ⟨Ao20, co20, eo20⟩ := Kd.R_slice HO_10.out
                      subst eo20
                      go_wp2_with (first | ((with_reducible refine gate_callee (f := 59) rfl ?_); refine goesL_ (some 61) rfl rfl Tryd.func59 (by kernel_rfl) rfl #[.slice Ao20 x10_2.length co20, .int .u64 (IntKind.u64.wrap (a2))] rfl (by (try simp only [List.map_toArray, List.map_cons, List.map_nil]); first | done | rfl | (simp only [List.length_drop, List.length_take]; rfl)) ?_; (with_reducible refine (tidingsref01_put.calls kj13 (fun k_ => some k_ = (.slice Ao20 x10_2.length co20 : Value).ownBlock) (.slice Ao20 x10_2.length co20) x10_2 (IntKind.u64.wrap (a2)) t345 w _ ?side1 ?side2 A18.out).mono ?_); (case side1 => repeat (first | (with_reducible first | exact HB.out | apply below_alloc | apply pw_below_drewN | apply below_drew1) | exact HB.out)); (case side2 => exact Kd.R_tight rfl HO_10.out); rintro e w21 ⟨v346, rfl, ho0, hb, hkp⟩; refine ⟨_, rfl, ?_⟩; have n0_ := Aside0.mk (Kd.R_mono (ok' := fun k_ => True) (Kd.R_keptB ((Kd.R_apart' HO_8.out (Kd.R_typed HO_10.out) (by decide))) hkp (fun k_ hk_ hs_ => (hk_.2) hs_)) (fun k_ hk_ => trivial)); have n1_ := Aside0.mk (Kd.R_mono (ok' := fun k_ => True) ho0 (fun k_ hk_ => trivial)); have n2_ := Aside0.mk (hb); clear HO_8; clear HB; clear HO_10; have HO_8 := n0_; have HO347 := n1_; have HB := n2_; clear n0_ n1_ n2_; (try clear hb); (try clear hkp); (try clear ho0); obtain ⟨Ao22, co22, eo22⟩ := Kd.R_slice HO347.out; subst eo22) | ((with_reducible refine gate_callee (f := 59) rfl ?_); refine goesL_ (some 66) rfl rfl Tryd.func59 (by kernel_rfl) rfl #[.slice Ao22 t345.length co22, .int .u64 (IntKind.u64.wrap ((IntKind.u64.wrap (a2)) + 1))] rfl (by (try simp only [List.map_toArray, List.map_cons, List.map_nil]); first | done | rfl | (simp only [List.length_drop, List.length_take]; rfl)) ?_; (with_reducible refine (tidingsref01_put.calls kj13 (fun k_ => some k_ = (.slice Ao22 t345.length co22 : Value).ownBlock) (.slice Ao22 t345.length co22) t345 (IntKind.u64.wrap ((IntKind.u64.wrap (a2)) + 1)) t348 w _ ?side1 ?side2 A19.out).mono ?_); (case side1 => repeat (first | (with_reducible first | exact HB.out | apply below_alloc | apply pw_below_drewN | apply below_drew1) | exact HB.out)); (case side2 => exact Kd.R_tight rfl HO347.out); rintro e w23 ⟨v349, rfl, ho0, hb, hkp⟩; refine ⟨_, rfl, ?_⟩; have n0_ := Aside0.mk (Kd.R_mono (ok' := fun k_ => True) (Kd.R_keptB ((Kd.R_apart' HO_8.out (Kd.R_typed HO347.out) (by decide))) hkp (fun k_ hk_ hs_ => (hk_.2) hs_)) (fun k_ hk_ => trivial)); have n1_ := Aside0.mk (Kd.R_mono (ok' := fun k_ => True) ho0 (fun k_ hk_ => trivial)); have n2_ := Aside0.mk (hb); clear HO_8; clear HB; clear HO347; have HO_8 := n0_; have HO350 := n1_; have HB := n2_; clear n0_ n1_ n2_; (try clear hb); (try clear hkp); (try clear ho0)))
                      go_meet
                      case rel => exact ⟨_, (t348), H', ⟨by have := HK1.out; have := HK2.out; have := HJ13.out; first | omega | exact Nat.le_refl _⟩, ⟨by (with_reducible repeat (first | apply Kd.R_alloc | apply Kd.R_drewN | apply Kd.R_drew)); exact HO_8.out⟩, ⟨by (with_reducible repeat (first | apply Kd.R_alloc | apply Kd.R_drewN | apply Kd.R_drew)); exact HO350.out⟩, ⟨by repeat (first | (with_reducible first | exact HB.out | apply below_alloc | apply pw_below_drewN | apply below_drew1) | exact HB.out)⟩⟩
                    · replace c17 := Bool.eq_false_iff.mpr c17
                      subst c17
                      have H1 : (tidingsref01_told.j3 kj13 l0 a1 a2 x8_1 x9_1 x10_2) = some (r1, r2) := by rw [if_neg (show ¬ (false = true) by decide)] at H; exact H
                      clear H
                      have H := H1
                      clear H1
                      have H' := Aside0.mk H
                      clear H
                      go_wp2
                      go_meet
                      case rel => exact ⟨_, (x10_2), H', ⟨by have := HK1.out; have := HK2.out; have := HJ13.out; first | omega | exact Nat.le_refl _⟩, ⟨by (with_reducible repeat (first | apply Kd.R_alloc | apply Kd.R_drewN | apply Kd.R_drew)); exact HO_8.out⟩, ⟨by (with_reducible repeat (first | apply Kd.R_alloc | apply Kd.R_drewN | apply Kd.R_drew)); exact HO_10.out⟩, ⟨by repeat (first | (with_reducible first | exact HB.out | apply below_alloc | apply pw_below_drewN | apply below_drew1) | exact HB.out)⟩⟩
                  case rest =>
                    clear HC16
                    try clear c1
                    try clear p2
                    try clear p3
                    try clear q3
                    try clear hx3
                    try clear c4
                    try clear c4b0
                    try clear c5
                    try clear c5b0
                    try clear c6
                    try clear c6b0
                    try clear p6
                    try clear c7
                    try clear c7b0
                    try clear c7b1
                    try clear c15
                    try clear c15b0
                    try clear c15b1
                    try clear c17
                    try clear hx336_0
                    try clear hx336_1
                    try clear hx336_2
                    try clear hx337_0
                    try clear hx337_1
                    try clear hx337_2
                    try clear hx341_0
                    try clear hx341_1
                    try clear hx341_2
                    try clear p2
                    try clear p3
                    try clear p336
                    try clear p337
                    try clear p341
                    try clear p6
                    try clear q3
                    try clear q336
                    try clear q337
                    try clear q341
                    obtain ⟨kq, x10_15, HA, HJ15, HO_8, HO_10, HB⟩ := hcut
                    cases kq with
                    | zero => exact absurd HA.out (by simp [tidingsref01_told.j3])
                    | succ kj15 =>
                      have H := HA.out
                      clear HA
                      simp only [tidingsref01_told.j3] at H
                      have H' := Aside0.mk H
                      clear H
                      go_wp2
                      go_loopg [8, 12, 13] kj15 (fun kq v8 v12 v13 w' => ∃ (x8_5 : List (S65)) (x12_5 : Bool) (x13_5 : Int), v12 = .bool x12_5 ∧ v13 = .int .i64 x13_5 ∧ Aside0 (tidingsref01_told.l2 kq l0 a1 a2 x8_5 x9_1 x10_15 x12_5 x13_5 = some (r1, r2)) ∧ Aside0 (kq ≤ kj15) ∧ Aside0 (Kd.R k65 65 w' w.heap.size (fun _ => True) v8 x8_5) ∧ Aside0 (Kd.R (Kd.int .u64) 70 w' w.heap.size (fun _ => True) u10 x10_15) ∧ Aside0 (Below w.heap.size w w'))
                      case atStart => exact ⟨(x8_1), (false), (0), (by first | rfl | (simp; done) | (simp [*]; done)), (by first | rfl | (simp; done) | (simp [*]; done)), H', ⟨Nat.le_refl _⟩, ⟨by (with_reducible repeat (first | apply Kd.R_alloc | apply Kd.R_drewN | apply Kd.R_drew)); exact HO_8.out⟩, ⟨by (with_reducible repeat (first | apply Kd.R_alloc | apply Kd.R_drewN | apply Kd.R_drew)); exact HO_10.out⟩, ⟨by repeat (first | (with_reducible first | exact HB.out | apply below_alloc | apply pw_below_drewN | apply below_drew1) | exact HB.out)⟩⟩
                      case round =>
                        clear H'
                        try clear c1
                        try clear p2
                        try clear p3
                        try clear q3
                        try clear hx3
                        try clear c4
                        try clear c4b0
                        try clear c5
                        try clear c5b0
                        try clear c6
                        try clear c6b0
                        try clear p6
                        try clear c7
                        try clear c7b0
                        try clear c7b1
                        try clear c15
                        try clear c15b0
                        try clear c15b1
                        try clear c17
                        try clear hx336_0
                        try clear hx336_1
                        try clear hx336_2
                        try clear hx337_0
                        try clear hx337_1
                        try clear hx337_2
                        try clear hx341_0
                        try clear hx341_1
                        try clear hx341_2
                        try clear p2
                        try clear p3
                        try clear p336
                        try clear p337
                        try clear p341
                        try clear p6
                        try clear q3
                        try clear q336
                        try clear q337
                        try clear q341
                        obtain ⟨x8_5, x12_5, x13_5, rfl, rfl, HA, HK5, HO_8, HO_10, HB⟩ := hrel
                        cases gk with
                        | zero => exact absurd HA.out (by simp [tidingsref01_told.l2])
                        | succ k5 =>
                          have H := HA.out
                          clear HA
                          simp only [tidingsref01_told.l2] at H
                          by_cases c24 : x13_5 < (x10_15.length : Int)
                          · rw [if_pos c24] at H
                            have c24b0 : decide (x13_5 < (x10_15.length : Int)) = true := decide_eq_true c24
                            clear c24
                            have HC25 := Aside0.mk H
                            clear H
                            obtain ⟨Ao26, co26, eo26⟩ := Kd.R_slice HO_10.out
                            subst eo26
                            go_upto_region 19 with (fail)
                            go_cut [14] (fun v14 wc => ∃ (kq : Nat) (x14_24 : Bool), v14 = .bool x14_24 ∧ Aside0 (tidingsref01_told.j5 kq l0 a1 a2 x8_5 x9_1 x10_15 x12_5 x13_5 x14_24 = some (r1, r2)) ∧ Aside0 (kq ≤ k5) ∧ Aside0 (Kd.R k65 65 wc w.heap.size (fun _ => True) u8 x8_5) ∧ Aside0 (Kd.R (Kd.int .u64) 70 wc w.heap.size (fun _ => True) (.slice Ao26 x10_15.length co26) x10_15) ∧ Aside0 (Below w.heap.size w wc))
                            case first =>
                              have H := HC25.out
                              clear HC25
                              by_cases c27 : 0 ≤ x13_5
                              · rw [if_pos c27] at H
                                have c27b0 : decide (0 ≤ x13_5) = true := decide_eq_true c27
                                clear c27
                                (first | rw [c27b0] | (simp only [i64_w, i32_w]; rw [c27b0]) | skip)
                                replace H := Option.bind_eq_some_iff.mp H
                                obtain ⟨t352, A280, H⟩ := H
                                replace H : (if t352 = true then (if (wrap64 (a1)) = x9_1 then (if a2 > 0 then (tidingsref01_told.j5 k5 l0 a1 a2 x8_5 x9_1 x10_15 x12_5 x13_5 (!((rd x10_15 x13_5) == (IntKind.u64.wrap (a2))))) else (tidingsref01_told.j5 k5 l0 a1 a2 x8_5 x9_1 x10_15 x12_5 x13_5 (!false))) else (tidingsref01_told.j5 k5 l0 a1 a2 x8_5 x9_1 x10_15 x12_5 x13_5 (!false))) else (tidingsref01_told.j5 k5 l0 a1 a2 x8_5 x9_1 x10_15 x12_5 x13_5 false)) = some (r1, r2) := H
                                have A28 := Aside0.mk A280
                                clear A280
                                by_cases c29 : t352 = true
                                · subst c29
                                  have H1 : (if (wrap64 (a1)) = x9_1 then (if a2 > 0 then (tidingsref01_told.j5 k5 l0 a1 a2 x8_5 x9_1 x10_15 x12_5 x13_5 (!((rd x10_15 x13_5) == (IntKind.u64.wrap (a2))))) else (tidingsref01_told.j5 k5 l0 a1 a2 x8_5 x9_1 x10_15 x12_5 x13_5 (!false))) else (tidingsref01_told.j5 k5 l0 a1 a2 x8_5 x9_1 x10_15 x12_5 x13_5 (!false))) = some (r1, r2) := by rw [if_pos rfl] at H; exact H
                                  clear H
                                  have H := H1
                                  clear H1
                                  by_cases c30 : (wrap64 (a1)) = x9_1
                                  · rw [if_pos c30] at H
                                    have c30b0 : ((wrap64 (a1)) == x9_1) = true := beq_iff_eq.mpr c30
                                    have c30b1 : ((wrap64 (a1)) != x9_1) = false := bne_eq_false_iff_eq.mpr c30
                                    clear c30
                                    by_cases c31 : a2 > 0
                                    · rw [if_pos c31] at H
                                      have c31b0 : decide (0 < a2) = true := decide_eq_true c31
                                      clear c31
                                      have H' := Aside0.mk H
                                      clear H
                                      have p351 : 0 ≤ (x13_5 : Int) := of_decide_eq_true (by first | (with_reducible assumption) | assumption)
                                      have q351 : x13_5 < (x10_15.length : Int) := of_decide_eq_true (by first | (with_reducible assumption) | assumption)
                                      obtain ⟨ad351, e351, hx351_0⟩ := Kd.at_int (Kd.R_reads' HO_10.out).2.2 x13_5 p351 q351
                                      cases e351
                                      replace p351 := eq_true p351
                                      replace q351 := eq_true q351
                                      go_wp2_with (first | ((with_reducible refine gate_callee (f := 60) rfl ?_); refine goesL_ (some 80) rfl rfl Tryd.func60 (by kernel_rfl) rfl #[.slice A0 l0.length c0, .int .u8 ((x9_1) % 256), .int .u64 (rd x10_15 x13_5)] rfl (by (try simp only [List.map_toArray, List.map_cons, List.map_nil]); first | done | rfl | (simp only [List.length_drop, List.length_take]; rfl)) ?_; (with_reducible refine (tidingsref01_in.calls k5 _ _ l0 ((x9_1) % 256) (rd x10_15 x13_5) true _ ?side1 ?side2 A28.out).mono ?_); (case side1 => repeat (first | exact (Kd.C_below HR0.out HB.out) | (with_reducible refine Kd.C_alloc ?_ _) | (with_reducible refine Kd.C_drewN ?_ _) | (with_reducible refine Kd.C_drew ?_))); (case side2 => exact HC0.out); rintro e w' ⟨rfl, ⟨nd, rfl⟩⟩; refine ⟨_, rfl, ?_⟩; have p353 : 0 ≤ (x13_5 : Int) := of_decide_eq_true (by first | (with_reducible assumption) | assumption); have q353 : x13_5 < (x10_15.length : Int) := of_decide_eq_true (by first | (with_reducible assumption) | assumption); obtain ⟨ad353, e353, hx353_0⟩ := Kd.at_int (Kd.R_reads' HO_10.out).2.2 x13_5 p353 q353; obtain rfl : ad351 = ad353 := (by injection e353); replace p353 := eq_true p353; replace q353 := eq_true q353))
                                      go_meet
                                      case rel => exact ⟨_, (!((rd x10_15 x13_5) == (IntKind.u64.wrap (a2)))), (by first | rfl | (simp; done) | (simp [*]; done)), H', ⟨by have := HK1.out; have := HK2.out; have := HJ13.out; have := HJ15.out; have := HK5.out; first | omega | exact Nat.le_refl _⟩, ⟨by (with_reducible repeat (first | apply Kd.R_alloc | apply Kd.R_drewN | apply Kd.R_drew)); exact HO_8.out⟩, ⟨by (with_reducible repeat (first | apply Kd.R_alloc | apply Kd.R_drewN | apply Kd.R_drew)); exact HO_10.out⟩, ⟨by repeat (first | (with_reducible first | exact HB.out | apply below_alloc | apply pw_below_drewN | apply below_drew1) | exact HB.out)⟩⟩
                                    · rw [if_neg c31] at H
                                      have c31b0 : decide (0 < a2) = false := decide_eq_false c31
                                      clear c31
                                      have H' := Aside0.mk H
                                      clear H
                                      have p351 : 0 ≤ (x13_5 : Int) := of_decide_eq_true (by first | (with_reducible assumption) | assumption)
                                      have q351 : x13_5 < (x10_15.length : Int) := of_decide_eq_true (by first | (with_reducible assumption) | assumption)
                                      obtain ⟨ad351, e351, hx351_0⟩ := Kd.at_int (Kd.R_reads' HO_10.out).2.2 x13_5 p351 q351
                                      cases e351
                                      replace p351 := eq_true p351
                                      replace q351 := eq_true q351
                                      go_wp2_with (first | ((with_reducible refine gate_callee (f := 60) rfl ?_); refine goesL_ (some 80) rfl rfl Tryd.func60 (by kernel_rfl) rfl #[.slice A0 l0.length c0, .int .u8 ((x9_1) % 256), .int .u64 (rd x10_15 x13_5)] rfl (by (try simp only [List.map_toArray, List.map_cons, List.map_nil]); first | done | rfl | (simp only [List.length_drop, List.length_take]; rfl)) ?_; (with_reducible refine (tidingsref01_in.calls k5 _ _ l0 ((x9_1) % 256) (rd x10_15 x13_5) true _ ?side1 ?side2 A28.out).mono ?_); (case side1 => repeat (first | exact (Kd.C_below HR0.out HB.out) | (with_reducible refine Kd.C_alloc ?_ _) | (with_reducible refine Kd.C_drewN ?_ _) | (with_reducible refine Kd.C_drew ?_))); (case side2 => exact HC0.out); rintro e w' ⟨rfl, ⟨nd, rfl⟩⟩; refine ⟨_, rfl, ?_⟩))
                                      go_meet
                                      case rel => exact ⟨_, (!false), (by first | rfl | (simp; done) | (simp [*]; done)), H', ⟨by have := HK1.out; have := HK2.out; have := HJ13.out; have := HJ15.out; have := HK5.out; first | omega | exact Nat.le_refl _⟩, ⟨by (with_reducible repeat (first | apply Kd.R_alloc | apply Kd.R_drewN | apply Kd.R_drew)); exact HO_8.out⟩, ⟨by (with_reducible repeat (first | apply Kd.R_alloc | apply Kd.R_drewN | apply Kd.R_drew)); exact HO_10.out⟩, ⟨by repeat (first | (with_reducible first | exact HB.out | apply below_alloc | apply pw_below_drewN | apply below_drew1) | exact HB.out)⟩⟩
                                  · rw [if_neg c30] at H
                                    have c30b0 : ((wrap64 (a1)) == x9_1) = false := beq_eq_false_iff_ne.mpr c30
                                    have c30b1 : ((wrap64 (a1)) != x9_1) = true := bne_iff_ne.mpr c30
                                    have H' := Aside0.mk H
                                    clear H
                                    have p351 : 0 ≤ (x13_5 : Int) := of_decide_eq_true (by first | (with_reducible assumption) | assumption)
                                    have q351 : x13_5 < (x10_15.length : Int) := of_decide_eq_true (by first | (with_reducible assumption) | assumption)
                                    obtain ⟨ad351, e351, hx351_0⟩ := Kd.at_int (Kd.R_reads' HO_10.out).2.2 x13_5 p351 q351
                                    cases e351
                                    replace p351 := eq_true p351
                                    replace q351 := eq_true q351
                                    go_wp2_with (first | ((with_reducible refine gate_callee (f := 60) rfl ?_); refine goesL_ (some 80) rfl rfl Tryd.func60 (by kernel_rfl) rfl #[.slice A0 l0.length c0, .int .u8 ((x9_1) % 256), .int .u64 (rd x10_15 x13_5)] rfl (by (try simp only [List.map_toArray, List.map_cons, List.map_nil]); first | done | rfl | (simp only [List.length_drop, List.length_take]; rfl)) ?_; (with_reducible refine (tidingsref01_in.calls k5 _ _ l0 ((x9_1) % 256) (rd x10_15 x13_5) true _ ?side1 ?side2 A28.out).mono ?_); (case side1 => repeat (first | exact (Kd.C_below HR0.out HB.out) | (with_reducible refine Kd.C_alloc ?_ _) | (with_reducible refine Kd.C_drewN ?_ _) | (with_reducible refine Kd.C_drew ?_))); (case side2 => exact HC0.out); rintro e w' ⟨rfl, ⟨nd, rfl⟩⟩; refine ⟨_, rfl, ?_⟩))
                                    go_meet
                                    case rel => exact ⟨_, (!false), (by first | rfl | (simp; done) | (simp [*]; done)), H', ⟨by have := HK1.out; have := HK2.out; have := HJ13.out; have := HJ15.out; have := HK5.out; first | omega | exact Nat.le_refl _⟩, ⟨by (with_reducible repeat (first | apply Kd.R_alloc | apply Kd.R_drewN | apply Kd.R_drew)); exact HO_8.out⟩, ⟨by (with_reducible repeat (first | apply Kd.R_alloc | apply Kd.R_drewN | apply Kd.R_drew)); exact HO_10.out⟩, ⟨by repeat (first | (with_reducible first | exact HB.out | apply below_alloc | apply pw_below_drewN | apply below_drew1) | exact HB.out)⟩⟩
                                · replace c29 := Bool.eq_false_iff.mpr c29
                                  subst c29
                                  have H1 : (tidingsref01_told.j5 k5 l0 a1 a2 x8_5 x9_1 x10_15 x12_5 x13_5 false) = some (r1, r2) := by rw [if_neg (show ¬ (false = true) by decide)] at H; exact H
                                  clear H
                                  have H := H1
                                  clear H1
                                  have H' := Aside0.mk H
                                  clear H
                                  have p351 : 0 ≤ (x13_5 : Int) := of_decide_eq_true (by first | (with_reducible assumption) | assumption)
                                  have q351 : x13_5 < (x10_15.length : Int) := of_decide_eq_true (by first | (with_reducible assumption) | assumption)
                                  obtain ⟨ad351, e351, hx351_0⟩ := Kd.at_int (Kd.R_reads' HO_10.out).2.2 x13_5 p351 q351
                                  cases e351
                                  replace p351 := eq_true p351
                                  replace q351 := eq_true q351
                                  go_wp2_with (first | ((with_reducible refine gate_callee (f := 60) rfl ?_); refine goesL_ (some 80) rfl rfl Tryd.func60 (by kernel_rfl) rfl #[.slice A0 l0.length c0, .int .u8 ((x9_1) % 256), .int .u64 (rd x10_15 x13_5)] rfl (by (try simp only [List.map_toArray, List.map_cons, List.map_nil]); first | done | rfl | (simp only [List.length_drop, List.length_take]; rfl)) ?_; (with_reducible refine (tidingsref01_in.calls k5 _ _ l0 ((x9_1) % 256) (rd x10_15 x13_5) false _ ?side1 ?side2 A28.out).mono ?_); (case side1 => repeat (first | exact (Kd.C_below HR0.out HB.out) | (with_reducible refine Kd.C_alloc ?_ _) | (with_reducible refine Kd.C_drewN ?_ _) | (with_reducible refine Kd.C_drew ?_))); (case side2 => exact HC0.out); rintro e w' ⟨rfl, ⟨nd, rfl⟩⟩; refine ⟨_, rfl, ?_⟩))
                                  go_meet
                                  case rel => exact ⟨_, (false), (by first | rfl | (simp; done) | (simp [*]; done)), H', ⟨by have := HK1.out; have := HK2.out; have := HJ13.out; have := HJ15.out; have := HK5.out; first | omega | exact Nat.le_refl _⟩, ⟨by (with_reducible repeat (first | apply Kd.R_alloc | apply Kd.R_drewN | apply Kd.R_drew)); exact HO_8.out⟩, ⟨by (with_reducible repeat (first | apply Kd.R_alloc | apply Kd.R_drewN | apply Kd.R_drew)); exact HO_10.out⟩, ⟨by repeat (first | (with_reducible first | exact HB.out | apply below_alloc | apply pw_below_drewN | apply below_drew1) | exact HB.out)⟩⟩
                              · rw [if_neg c27] at H
                                exact absurd H (by simp)
                            case rest =>
                              clear HC25
                              try clear c1
                              try clear c2
                              try clear p2
                              try clear c3
                              try clear p3
                              try clear q3
                              try clear hx3
                              try clear c4
                              try clear c4b0
                              try clear c5
                              try clear c5b0
                              try clear c6
                              try clear c6b0
                              try clear p6
                              try clear c7
                              try clear c7b0
                              try clear c7b1
                              try clear c15
                              try clear c15b0
                              try clear c15b1
                              try clear c17
                              try clear c24
                              try clear c24b0
                              try clear c27
                              try clear c27b0
                              try clear c29
                              try clear c30
                              try clear c30b0
                              try clear c30b1
                              try clear c31
                              try clear c31b0
                              try clear hx336_0
                              try clear hx336_1
                              try clear hx336_2
                              try clear hx337_0
                              try clear hx337_1
                              try clear hx337_2
                              try clear hx341_0
                              try clear hx341_1
                              try clear hx341_2
                              try clear hx351_0
                              try clear hx353_0
                              try clear p2
                              try clear p3
                              try clear p336
                              try clear p337
                              try clear p341
                              try clear p351
                              try clear p353
                              try clear p6
                              try clear q3
                              try clear q336
                              try clear q337
                              try clear q341
                              try clear q351
                              try clear q353
                              obtain ⟨kq, x14_24, rfl, HA, HJ24, HO_8, HO_10, HB⟩ := hcut
                              cases kq with
                              | zero => exact absurd HA.out (by simp [tidingsref01_told.j5])
                              | succ kj24 =>
                                have H := HA.out
                                clear HA
                                simp only [tidingsref01_told.j5] at H
                                have HC32 := Aside0.mk H
                                clear H
                                go_upto_region 20 with (fail)
                                go_cut [105] (fun v105 wc => ∃ (kq : Nat) (x105_31 : Bool), v105 = .bool x105_31 ∧ Aside0 (tidingsref01_told.j6 kq l0 a1 a2 x8_5 x9_1 x10_15 x12_5 x13_5 x14_24 x105_31 = some (r1, r2)) ∧ Aside0 (kq ≤ kj24) ∧ Aside0 (Kd.R k65 65 wc w.heap.size (fun _ => True) u8 x8_5) ∧ Aside0 (Kd.R (Kd.int .u64) 70 wc w.heap.size (fun _ => True) (.slice Ao26 x10_15.length co26) x10_15) ∧ Aside0 (Below w.heap.size w wc))
                                case first =>
                                  have H := HC32.out
                                  clear HC32
                                  by_cases c33 : x14_24 = true
                                  · subst c33
                                    have H1 : (tidingsref01_told.j6 kj24 l0 a1 a2 x8_5 x9_1 x10_15 x12_5 x13_5 true (!x12_5)) = some (r1, r2) := by rw [if_pos rfl] at H; exact H
                                    clear H
                                    have H := H1
                                    clear H1
                                    have H' := Aside0.mk H
                                    clear H
                                    go_wp2
                                    go_meet
                                    case rel => exact ⟨_, (!x12_5), (by first | rfl | (simp; done) | (simp [*]; done)), H', ⟨by have := HK1.out; have := HK2.out; have := HJ13.out; have := HJ15.out; have := HK5.out; have := HJ24.out; first | omega | exact Nat.le_refl _⟩, ⟨by (with_reducible repeat (first | apply Kd.R_alloc | apply Kd.R_drewN | apply Kd.R_drew)); exact HO_8.out⟩, ⟨by (with_reducible repeat (first | apply Kd.R_alloc | apply Kd.R_drewN | apply Kd.R_drew)); exact HO_10.out⟩, ⟨by repeat (first | (with_reducible first | exact HB.out | apply below_alloc | apply pw_below_drewN | apply below_drew1) | exact HB.out)⟩⟩
                                  · replace c33 := Bool.eq_false_iff.mpr c33
                                    subst c33
                                    have H1 : (tidingsref01_told.j6 kj24 l0 a1 a2 x8_5 x9_1 x10_15 x12_5 x13_5 false false) = some (r1, r2) := by rw [if_neg (show ¬ (false = true) by decide)] at H; exact H
                                    clear H
                                    have H := H1
                                    clear H1
                                    have H' := Aside0.mk H
                                    clear H
                                    go_wp2
                                    go_meet
                                    case rel => exact ⟨_, (false), (by first | rfl | (simp; done) | (simp [*]; done)), H', ⟨by have := HK1.out; have := HK2.out; have := HJ13.out; have := HJ15.out; have := HK5.out; have := HJ24.out; first | omega | exact Nat.le_refl _⟩, ⟨by (with_reducible repeat (first | apply Kd.R_alloc | apply Kd.R_drewN | apply Kd.R_drew)); exact HO_8.out⟩, ⟨by (with_reducible repeat (first | apply Kd.R_alloc | apply Kd.R_drewN | apply Kd.R_drew)); exact HO_10.out⟩, ⟨by repeat (first | (with_reducible first | exact HB.out | apply below_alloc | apply pw_below_drewN | apply below_drew1) | exact HB.out)⟩⟩
                                case rest =>
                                  clear HC32
                                  try clear c1
                                  try clear c2
                                  try clear p2
                                  try clear c3
                                  try clear p3
                                  try clear q3
                                  try clear hx3
                                  try clear c4
                                  try clear c4b0
                                  try clear c5
                                  try clear c5b0
                                  try clear c6
                                  try clear c6b0
                                  try clear p6
                                  try clear c7
                                  try clear c7b0
                                  try clear c7b1
                                  try clear c15
                                  try clear c15b0
                                  try clear c15b1
                                  try clear c17
                                  try clear c24
                                  try clear c24b0
                                  try clear c27
                                  try clear c27b0
                                  try clear c29
                                  try clear c30
                                  try clear c30b0
                                  try clear c30b1
                                  try clear c31
                                  try clear c31b0
                                  try clear c33
                                  try clear p33
                                  try clear q33
                                  try clear hx33
                                  try clear hx336_0
                                  try clear hx336_1
                                  try clear hx336_2
                                  try clear hx337_0
                                  try clear hx337_1
                                  try clear hx337_2
                                  try clear hx341_0
                                  try clear hx341_1
                                  try clear hx341_2
                                  try clear hx351_0
                                  try clear hx353_0
                                  try clear p2
                                  try clear p3
                                  try clear p336
                                  try clear p337
                                  try clear p341
                                  try clear p351
                                  try clear p353
                                  try clear p6
                                  try clear q3
                                  try clear q336
                                  try clear q337
                                  try clear q341
                                  try clear q351
                                  try clear q353
                                  obtain ⟨kq, x105_31, rfl, HA, HJ31, HO_8, HO_10, HB⟩ := hcut
                                  cases kq with
                                  | zero => exact absurd HA.out (by simp [tidingsref01_told.j6])
                                  | succ kj31 =>
                                    have H := HA.out
                                    clear HA
                                    simp only [tidingsref01_told.j6] at H
                                    by_cases c34 : x105_31 = true
                                    · subst c34
                                      have H1 : (if 0 ≤ x13_5 then (if x13_5 < (x10_15.length : Int) then (if x8_5.length < 11728124029610 then ((some (x8_5 ++ [(⟨(x9_1) % 256, (rd x10_15 x13_5) % 4294967296, 0⟩ : S65)] : List (S65))).bind fun y355 => (if x14_24 = true then (tidingsref01_told.l2 kj31 l0 a1 a2 y355 x9_1 x10_15 x14_24 (wrap64 (x13_5 + 1))) else (if x12_5 = true then (if 0 ≤ (wrap64 ((y355.length : Int) - 1)) then (if (wrap64 ((y355.length : Int) - 1)) < (y355.length : Int) then (tidingsref01_told.l2 kj31 l0 a1 a2 (y355.set ((wrap64 ((y355.length : Int) - 1)) : Int).toNat (⟨(rd_T65 y355 (wrap64 ((y355.length : Int) - 1))).f0, (rd_T65 y355 (wrap64 ((y355.length : Int) - 1))).f1, (IntKind.u64.wrap ((rd x10_15 x13_5) - 1)) % 4294967296⟩ : S65)) x9_1 x10_15 x14_24 (wrap64 (x13_5 + 1))) else (none)) else (none)) else (tidingsref01_told.l2 kj31 l0 a1 a2 y355 x9_1 x10_15 x14_24 (wrap64 (x13_5 + 1)))))) else (none)) else (none)) else (none)) = some (r1, r2) := by rw [if_pos rfl] at H; exact H
                                      clear H
                                      have H := H1
                                      clear H1
                                      by_cases c35 : 0 ≤ x13_5
                                      · rw [if_pos c35] at H
                                        have c35b0 : decide (0 ≤ x13_5) = true := decide_eq_true c35
                                        clear c35
                                        by_cases c36 : x13_5 < (x10_15.length : Int)
                                        · rw [if_pos c36] at H
                                          have c36b0 : decide (x13_5 < (x10_15.length : Int)) = true := decide_eq_true c36
                                          clear c36
                                          by_cases c37 : x8_5.length < 11728124029610
                                          · rw [if_pos c37] at H
                                            have LMc37 := Aside0.mk c37
                                            clear c37
                                            obtain ⟨y355, hy355⟩ : ∃ y_ : List (S65), y_ = (x8_5 ++ [(⟨(x9_1) % 256, (rd x10_15 x13_5) % 4294967296, 0⟩ : S65)]) := ⟨_, rfl⟩
                                            replace H : (if x14_24 = true then (tidingsref01_told.l2 kj31 l0 a1 a2 y355 x9_1 x10_15 x14_24 (wrap64 (x13_5 + 1))) else (if x12_5 = true then (if 0 ≤ (wrap64 ((y355.length : Int) - 1)) then (if (wrap64 ((y355.length : Int) - 1)) < (y355.length : Int) then (tidingsref01_told.l2 kj31 l0 a1 a2 (y355.set ((wrap64 ((y355.length : Int) - 1)) : Int).toNat (⟨(rd_T65 y355 (wrap64 ((y355.length : Int) - 1))).f0, (rd_T65 y355 (wrap64 ((y355.length : Int) - 1))).f1, (IntKind.u64.wrap ((rd x10_15 x13_5) - 1)) % 4294967296⟩ : S65)) x9_1 x10_15 x14_24 (wrap64 (x13_5 + 1))) else (none)) else (none)) else (tidingsref01_told.l2 kj31 l0 a1 a2 y355 x9_1 x10_15 x14_24 (wrap64 (x13_5 + 1))))) = some (r1, r2) := by first | (rw [hy355]; with_reducible exact H) | (have H2_ := (Option.bind_some _ _).symm.trans H; rw [hy355]; with_reducible exact H2_) | (have H2_ := (Option.bind_some _ _).symm.trans H; with_reducible exact H2_) | with_reducible exact H | (rw [hy355]; exact H) | exact H
                                            have Ny355 := Aside0.mk hy355
                                            clear hy355
                                            by_cases c38 : x14_24 = true
                                            · subst c38
                                              have H1 : (tidingsref01_told.l2 kj31 l0 a1 a2 y355 x9_1 x10_15 true (wrap64 (x13_5 + 1))) = some (r1, r2) := by rw [if_pos rfl] at H; exact H
                                              clear H
                                              have H := H1
                                              clear H1
                                              have H' := Aside0.mk H
                                              clear H
                                              have p354 : 0 ≤ (x13_5 : Int) := of_decide_eq_true (by first | (with_reducible assumption) | assumption)
                                              have q354 : x13_5 < (x10_15.length : Int) := of_decide_eq_true (by first | (with_reducible assumption) | assumption)
                                              obtain ⟨ad354, e354, hx354_0⟩ := Kd.at_int (Kd.R_reads' HO_10.out).2.2 x13_5 p354 q354
                                              cases e354
                                              replace p354 := eq_true p354
                                              replace q354 := eq_true q354
                                              go_wp2_with (first | ((with_reducible refine gate_builtin (b := .append) (xs := #[.tmp 106, .tmp 115]) rfl ?_); at_builtin; refine Kd.R_append k65 (w0 := w) w.heap.size rfl (.tmp 106) (.tmp 115) 39 65 (.agg #[(.int .u8 0), (.int .u32 0), (.int .u32 0)]) 12 rfl Tryd.underlying39 info65 rfl (by decide) (by omega) u8 x8_5 (⟨(x9_1) % 256, (rd x10_15 x13_5) % 4294967296, 0⟩ : S65) [.int .u8 ((x9_1) % 256), .int .u32 ((rd x10_15 x13_5) % 4294967296), .int .u32 0] (fun _ => True) (fun _ => False) rfl rfl ?aP (fun _ hk => hk.elim) ?aF ?aO ?aB ?aS ?aL ?_; (case aP => exact k65_mkM _ _ _ (⟨(x9_1) % 256, (rd x10_15 x13_5) % 4294967296, 0⟩ : S65)); (case aB => exact (by repeat (first | (with_reducible first | exact HB.out | apply below_alloc | apply pw_below_drewN | apply below_drew1) | exact HB.out))); (case aF => exact (fun _ _ => trivial)); (case aO => exact (by (with_reducible repeat (first | apply Kd.R_alloc | apply Kd.R_drewN | apply Kd.R_drew)); exact HO_8.out)); (case aS => exact (below_size (by repeat (first | (with_reducible first | exact HB.out | apply below_alloc | apply pw_below_drewN | apply below_drew1) | exact HB.out)))); (case aL => have := LMc37.out; omega); intro v356 w39 ho hb hg hat; rw [← Ny355.out] at ho; have n0_ := Aside0.mk (Kd.R_over' (by (with_reducible repeat (first | apply Kd.R_alloc | apply Kd.R_drewN | apply Kd.R_drew)); exact HO_10.out) (Kd.R_typed (by (with_reducible repeat (first | apply Kd.R_alloc | apply Kd.R_drewN | apply Kd.R_drew)); exact HO_8.out)) (by decide) hg); have n1_ := Aside0.mk (hb); have n2_ := Aside0.mk (ho); clear HO_10; clear HB; clear HO_8; have HO_10 := n0_; have HB := n1_; have HO357 := n2_; clear n0_ n1_ n2_; clear ho hb hg hat))
                                              go_roundg kj31
                                              case measure => have := HK1.out; have := HK2.out; have := HJ13.out; have := HJ15.out; have := HK5.out; have := HJ24.out; have := HJ31.out; omega
                                              case rel => exact ⟨(y355), (true), (wrap64 (x13_5 + 1)), (by first | rfl | (simp; done) | (simp [*]; done)), (by first | rfl | (simp; done) | (simp [*]; done)), H', ⟨by have := HK1.out; have := HK2.out; have := HJ13.out; have := HJ15.out; have := HK5.out; have := HJ24.out; have := HJ31.out; omega⟩, ⟨by (with_reducible repeat (first | apply Kd.R_alloc | apply Kd.R_drewN | apply Kd.R_drew)); exact HO357.out⟩, ⟨by (with_reducible repeat (first | apply Kd.R_alloc | apply Kd.R_drewN | apply Kd.R_drew)); exact HO_10.out⟩, ⟨by repeat (first | (with_reducible first | exact HB.out | apply below_alloc | apply pw_below_drewN | apply below_drew1) | exact HB.out)⟩⟩
                                            · replace c38 := Bool.eq_false_iff.mpr c38
                                              subst c38
                                              have H1 : (if x12_5 = true then (if 0 ≤ (wrap64 ((y355.length : Int) - 1)) then (if (wrap64 ((y355.length : Int) - 1)) < (y355.length : Int) then (tidingsref01_told.l2 kj31 l0 a1 a2 (y355.set ((wrap64 ((y355.length : Int) - 1)) : Int).toNat (⟨(rd_T65 y355 (wrap64 ((y355.length : Int) - 1))).f0, (rd_T65 y355 (wrap64 ((y355.length : Int) - 1))).f1, (IntKind.u64.wrap ((rd x10_15 x13_5) - 1)) % 4294967296⟩ : S65)) x9_1 x10_15 false (wrap64 (x13_5 + 1))) else (none)) else (none)) else (tidingsref01_told.l2 kj31 l0 a1 a2 y355 x9_1 x10_15 false (wrap64 (x13_5 + 1)))) = some (r1, r2) := by rw [if_neg (show ¬ (false = true) by decide)] at H; exact H
                                              clear H
                                              have H := H1
                                              clear H1
                                              by_cases c40 : x12_5 = true
                                              · subst c40
                                                have H1 : (if 0 ≤ (wrap64 ((y355.length : Int) - 1)) then (if (wrap64 ((y355.length : Int) - 1)) < (y355.length : Int) then (tidingsref01_told.l2 kj31 l0 a1 a2 (y355.set ((wrap64 ((y355.length : Int) - 1)) : Int).toNat (⟨(rd_T65 y355 (wrap64 ((y355.length : Int) - 1))).f0, (rd_T65 y355 (wrap64 ((y355.length : Int) - 1))).f1, (IntKind.u64.wrap ((rd x10_15 x13_5) - 1)) % 4294967296⟩ : S65)) x9_1 x10_15 false (wrap64 (x13_5 + 1))) else (none)) else (none)) = some (r1, r2) := by rw [if_pos rfl] at H; exact H
                                                clear H
                                                have H := H1
                                                clear H1
                                                obtain ⟨ji41, hji41⟩ : ∃ j_ : Int, (wrap64 ((y355.length : Int) - 1)) = j_ := ⟨_, rfl⟩
                                                replace H : (if 0 ≤ (ji41) then (if (ji41) < (y355.length : Int) then (tidingsref01_told.l2 kj31 l0 a1 a2 (y355.set ((ji41) : Int).toNat (⟨(rd_T65 y355 (ji41)).f0, (rd_T65 y355 (ji41)).f1, (IntKind.u64.wrap ((rd x10_15 x13_5) - 1)) % 4294967296⟩ : S65)) x9_1 x10_15 false (wrap64 (x13_5 + 1))) else (none)) else (none)) = some (r1, r2) := by first | (rw [hji41] at H; exact H) | (simp only [hji41] at H ⊢; exact H)
                                                have hji41w : (IntKind.i64.wrap ((y355.length : Int) - 1)) = ji41 := (i64_w _).trans hji41
                                                by_cases c42 : 0 ≤ (ji41)
                                                · rw [if_pos c42] at H
                                                  have c42b0 : decide (0 ≤ (ji41)) = true := decide_eq_true c42
                                                  clear c42
                                                  by_cases c43 : (ji41) < (y355.length : Int)
                                                  · rw [if_pos c43] at H
                                                    have c43b0 : decide ((ji41) < (y355.length : Int)) = true := decide_eq_true c43
                                                    clear c43
                                                    obtain ⟨y359, hy359⟩ : ∃ y_ : List (S65), y_ = (y355.set ((ji41) : Int).toNat (⟨(rd_T65 y355 (ji41)).f0, (rd_T65 y355 (ji41)).f1, (IntKind.u64.wrap ((rd x10_15 x13_5) - 1)) % 4294967296⟩ : S65)) := ⟨_, rfl⟩
                                                    replace H : (tidingsref01_told.l2 kj31 l0 a1 a2 y359 x9_1 x10_15 false (wrap64 (x13_5 + 1))) = some (r1, r2) := by first | (rw [hy359]; with_reducible exact H) | (have H2_ := (Option.bind_some _ _).symm.trans H; rw [hy359]; with_reducible exact H2_) | (have H2_ := (Option.bind_some _ _).symm.trans H; with_reducible exact H2_) | with_reducible exact H | (rw [hy359]; exact H) | exact H
                                                    have Ny359 := Aside0.mk hy359
                                                    clear hy359
                                                    have H' := Aside0.mk H
                                                    clear H
                                                    have p354 : 0 ≤ (x13_5 : Int) := of_decide_eq_true (by first | (with_reducible assumption) | assumption)
                                                    have q354 : x13_5 < (x10_15.length : Int) := of_decide_eq_true (by first | (with_reducible assumption) | assumption)
                                                    obtain ⟨ad354, e354, hx354_0⟩ := Kd.at_int (Kd.R_reads' HO_10.out).2.2 x13_5 p354 q354
                                                    cases e354
                                                    replace p354 := eq_true p354
                                                    replace q354 := eq_true q354
                                                    go_wp2_with (first | ((with_reducible refine gate_builtin (b := .append) (xs := #[.tmp 106, .tmp 115]) rfl ?_); at_builtin; refine Kd.R_append k65 (w0 := w) w.heap.size rfl (.tmp 106) (.tmp 115) 39 65 (.agg #[(.int .u8 0), (.int .u32 0), (.int .u32 0)]) 12 rfl Tryd.underlying39 info65 rfl (by decide) (by omega) u8 x8_5 (⟨(x9_1) % 256, (rd x10_15 x13_5) % 4294967296, 0⟩ : S65) [.int .u8 ((x9_1) % 256), .int .u32 ((rd x10_15 x13_5) % 4294967296), .int .u32 0] (fun _ => True) (fun _ => False) rfl rfl ?aP (fun _ hk => hk.elim) ?aF ?aO ?aB ?aS ?aL ?_; (case aP => exact k65_mkM _ _ _ (⟨(x9_1) % 256, (rd x10_15 x13_5) % 4294967296, 0⟩ : S65)); (case aB => exact (by repeat (first | (with_reducible first | exact HB.out | apply below_alloc | apply pw_below_drewN | apply below_drew1) | exact HB.out))); (case aF => exact (fun _ _ => trivial)); (case aO => exact (by (with_reducible repeat (first | apply Kd.R_alloc | apply Kd.R_drewN | apply Kd.R_drew)); exact HO_8.out)); (case aS => exact (below_size (by repeat (first | (with_reducible first | exact HB.out | apply below_alloc | apply pw_below_drewN | apply below_drew1) | exact HB.out)))); (case aL => have := LMc37.out; omega); intro v356 w45 ho hb hg hat; rw [← Ny355.out] at ho; have n0_ := Aside0.mk (Kd.R_over' (by (with_reducible repeat (first | apply Kd.R_alloc | apply Kd.R_drewN | apply Kd.R_drew)); exact HO_10.out) (Kd.R_typed (by (with_reducible repeat (first | apply Kd.R_alloc | apply Kd.R_drewN | apply Kd.R_drew)); exact HO_8.out)) (by decide) hg); have n1_ := Aside0.mk (hb); have n2_ := Aside0.mk (ho); clear HO_10; clear HB; clear HO_8; have HO_10 := n0_; have HB := n1_; have HO357 := n2_; clear n0_ n1_ n2_; clear ho hb hg hat; obtain ⟨Ao46, co46, eo46⟩ := Kd.R_slice HO357.out; subst eo46; have p358 : 0 ≤ (x13_5 : Int) := of_decide_eq_true (by first | (with_reducible assumption) | assumption); have q358 : x13_5 < (x10_15.length : Int) := of_decide_eq_true (by first | (with_reducible assumption) | assumption); obtain ⟨ad358, e358, hx358_0⟩ := Kd.at_int (Kd.R_reads' HO_10.out).2.2 x13_5 p358 q358; obtain rfl : ad354 = ad358 := (by injection e358); replace p358 := eq_true p358; replace q358 := eq_true q358; have p44 : 0 ≤ ((ji41) : Int) := of_decide_eq_true (by first | (with_reducible assumption) | assumption); have q44 : ((ji41) : Int) < ((y355.length : Int) : Int) := of_decide_eq_true (by first | (with_reducible assumption) | assumption); obtain ⟨go44, co44, eo44, gb44, gl44, cl44, HG44⟩ := Kd.R_form HO357.out (by omega); (first | cases eo44 | (injection eo44 with ea_ en_ ec_; (first | subst ea_ | (injection ea_ with ea_; subst ea_)); subst ec_; clear en_)); have GB44 := Aside0.mk gb44; have GG44 := Aside0.mk HG44; clear gb44 gl44 HG44; obtain ⟨ce44, hcl44, hM44, hcc44, hfr44⟩ := Kd.R_elem HO357.out z65 ((ji41) : Int) p44 q44; obtain rfl := k65_openM hM44; have hx44_0 : w45.cell? ⟨go44, ((ji41) : Int).toNat * 3, none⟩ = some (.int .u8 ((rd_T65 y355 (ji41)).f0)) := hcc44 0 _ rfl; have hx44_1 : w45.cell? ⟨go44, ((ji41) : Int).toNat * 3 + 1, none⟩ = some (.int .u32 ((rd_T65 y355 (ji41)).f1)) := hcc44 1 _ rfl; have hx44_2 : w45.cell? ⟨go44, ((ji41) : Int).toNat * 3 + 2, none⟩ = some (.int .u32 ((rd_T65 y355 (ji41)).f2)) := hcc44 2 _ rfl; have hf44_0 : w45.frozen? ⟨go44, ((ji41) : Int).toNat * 3, none⟩ = false := hfr44 0; have hf44_1 : w45.frozen? ⟨go44, ((ji41) : Int).toNat * 3 + 1, none⟩ = false := hfr44 1; have hf44_2 : w45.frozen? ⟨go44, ((ji41) : Int).toNat * 3 + 2, none⟩ = false := hfr44 2; clear hcl44 hcc44 hfr44 hM44; replace p44 := eq_true p44; replace q44 := eq_true q44; have HX47 := Aside0.mk (show Kd.R k65 65 w45 w.heap.size (fun _ => True) (.slice (some ⟨go44, 0, none⟩) y355.length co46) y355 from (by (with_reducible repeat (first | apply Kd.R_alloc | apply Kd.R_drewN | apply Kd.R_drew)); exact HO357.out)); obtain ⟨ce47, hcl47, hM47, hcc47, hfr47⟩ := Kd.R_elem HX47.out z65 ((ji41) : Int) (of_decide_eq_true (by first | (with_reducible assumption) | assumption)) (by have h_ : ((ji41) : Int) < ((y355.length : Int) : Int) := of_decide_eq_true (by first | (with_reducible assumption) | assumption); first | exact h_ | (have e_ := (Kd.R_reads' HO357.out).1; omega) | simpa using h_); obtain rfl := k65_openM hM47; have HP47 := Kd.R_seg HX47.out ((ji41) : Int) (of_decide_eq_true (by first | (with_reducible assumption) | assumption)) (by have h_ : ((ji41) : Int) < ((y355.length : Int) : Int) := of_decide_eq_true (by first | (with_reducible assumption) | assumption); first | exact h_ | (have e_ := (Kd.R_reads' HO357.out).1; omega) | simpa using h_) (seg := [.int .u32 ((IntKind.u64.wrap ((rd x10_15 x13_5) - 1)) % 4294967296)]) (j := 2) hcl47 hcc47 (show 3 ≤ 3 from by decide) (x' := (⟨(rd_T65 y355 (ji41)).f0, (rd_T65 y355 (ji41)).f1, (IntKind.u64.wrap ((rd x10_15 x13_5) - 1)) % 4294967296⟩ : S65)) (k65_mkM _ _ _ (⟨(rd_T65 y355 (ji41)).f0, (rd_T65 y355 (ji41)).f1, (IntKind.u64.wrap ((rd x10_15 x13_5) - 1)) % 4294967296⟩ : S65) ) (fun _ hk => hk); have hx47_2 := hcc47 2 _ rfl; (try simp only [show (k65).sz = 3 from rfl, Nat.mul_one, Nat.add_zero] at hx47_2); have hf47_2 := hfr47 2; (try simp only [show (k65).sz = 3 from rfl, Nat.mul_one, Nat.add_zero] at hf47_2); clear hcl47 hcc47 hfr47 hM47) | ((with_reducible refine gate_store (t := 23) (p := 133) rfl ?_); refine store_event (t := 23) (p := 133) (v := ?vo_w48) (w1 := (w45.setCell ⟨go44, ((ji41) : Int).toNat * 3 + 2, none⟩ (.int .u32 ((IntKind.u64.wrap ((rd x10_15 x13_5) - 1)) % 4294967296)))) ?hg ?ho ?hn ?hr ?_; (case ho => rfl); (case hg => rfl); (case hn => rfl); (case hr => first | (go_simp; done) | (go_simp; rfl)); intro w48 hw; have hg : w45.grownBy w48 (some go44) := (by rw [hw]; exact HP47.2); have hp_ : Kd.R k65 65 w48 w.heap.size (fun _ => True) (.slice (some ⟨go44, 0, none⟩) y355.length co46) y359 := (by rw [hw, Ny359.out]; exact HP47.1); clear HP47; have n0_ := Aside0.mk (Kd.R_over' (v := (.slice (some ⟨go44, 0, none⟩) y355.length co46)) (by (with_reducible repeat (first | apply Kd.R_alloc | apply Kd.R_drewN | apply Kd.R_drew)); exact HO_10.out) (Kd.R_typed HO357.out) (by decide) hg); have n1_ := Aside0.mk (hp_); have n2_ := Aside0.mk ((by rw [hw]; exact below_set (HB.out) GB44.out : Below w.heap.size w w48)); clear HO_10; clear HO357; clear HB; have HO_10 := n0_; have HO357 := n1_; have HB := n2_; clear n0_ n1_ n2_; clear hg hw hp_))
                                                    go_roundg kj31
                                                    case measure => have := HK1.out; have := HK2.out; have := HJ13.out; have := HJ15.out; have := HK5.out; have := HJ24.out; have := HJ31.out; omega
                                                    case rel => exact ⟨(y359), (false), (wrap64 (x13_5 + 1)), (by first | rfl | (simp; done) | (simp [*]; done)), (by first | rfl | (simp; done) | (simp [*]; done)), H', ⟨by have := HK1.out; have := HK2.out; have := HJ13.out; have := HJ15.out; have := HK5.out; have := HJ24.out; have := HJ31.out; omega⟩, ⟨by (with_reducible repeat (first | apply Kd.R_alloc | apply Kd.R_drewN | apply Kd.R_drew)); exact HO357.out⟩, ⟨by (with_reducible repeat (first | apply Kd.R_alloc | apply Kd.R_drewN | apply Kd.R_drew)); exact HO_10.out⟩, ⟨by repeat (first | (with_reducible first | exact HB.out | apply below_alloc | apply pw_below_drewN | apply below_drew1) | exact HB.out)⟩⟩
                                                  · rw [if_neg c43] at H
                                                    exact absurd H (by simp)
                                                · rw [if_neg c42] at H
                                                  exact absurd H (by simp)
                                              · replace c40 := Bool.eq_false_iff.mpr c40
                                                subst c40
                                                have H1 : (tidingsref01_told.l2 kj31 l0 a1 a2 y355 x9_1 x10_15 false (wrap64 (x13_5 + 1))) = some (r1, r2) := by rw [if_neg (show ¬ (false = true) by decide)] at H; exact H
                                                clear H
                                                have H := H1
                                                clear H1
                                                have H' := Aside0.mk H
                                                clear H
                                                have p354 : 0 ≤ (x13_5 : Int) := of_decide_eq_true (by first | (with_reducible assumption) | assumption)
                                                have q354 : x13_5 < (x10_15.length : Int) := of_decide_eq_true (by first | (with_reducible assumption) | assumption)
                                                obtain ⟨ad354, e354, hx354_0⟩ := Kd.at_int (Kd.R_reads' HO_10.out).2.2 x13_5 p354 q354
                                                cases e354
                                                replace p354 := eq_true p354
                                                replace q354 := eq_true q354
                                                go_wp2_with (first | ((with_reducible refine gate_builtin (b := .append) (xs := #[.tmp 106, .tmp 115]) rfl ?_); at_builtin; refine Kd.R_append k65 (w0 := w) w.heap.size rfl (.tmp 106) (.tmp 115) 39 65 (.agg #[(.int .u8 0), (.int .u32 0), (.int .u32 0)]) 12 rfl Tryd.underlying39 info65 rfl (by decide) (by omega) u8 x8_5 (⟨(x9_1) % 256, (rd x10_15 x13_5) % 4294967296, 0⟩ : S65) [.int .u8 ((x9_1) % 256), .int .u32 ((rd x10_15 x13_5) % 4294967296), .int .u32 0] (fun _ => True) (fun _ => False) rfl rfl ?aP (fun _ hk => hk.elim) ?aF ?aO ?aB ?aS ?aL ?_; (case aP => exact k65_mkM _ _ _ (⟨(x9_1) % 256, (rd x10_15 x13_5) % 4294967296, 0⟩ : S65)); (case aB => exact (by repeat (first | (with_reducible first | exact HB.out | apply below_alloc | apply pw_below_drewN | apply below_drew1) | exact HB.out))); (case aF => exact (fun _ _ => trivial)); (case aO => exact (by (with_reducible repeat (first | apply Kd.R_alloc | apply Kd.R_drewN | apply Kd.R_drew)); exact HO_8.out)); (case aS => exact (below_size (by repeat (first | (with_reducible first | exact HB.out | apply below_alloc | apply pw_below_drewN | apply below_drew1) | exact HB.out)))); (case aL => have := LMc37.out; omega); intro v356 w49 ho hb hg hat; rw [← Ny355.out] at ho; have n0_ := Aside0.mk (Kd.R_over' (by (with_reducible repeat (first | apply Kd.R_alloc | apply Kd.R_drewN | apply Kd.R_drew)); exact HO_10.out) (Kd.R_typed (by (with_reducible repeat (first | apply Kd.R_alloc | apply Kd.R_drewN | apply Kd.R_drew)); exact HO_8.out)) (by decide) hg); have n1_ := Aside0.mk (hb); have n2_ := Aside0.mk (ho); clear HO_10; clear HB; clear HO_8; have HO_10 := n0_; have HB := n1_; have HO357 := n2_; clear n0_ n1_ n2_; clear ho hb hg hat))
                                                go_roundg kj31
                                                case measure => have := HK1.out; have := HK2.out; have := HJ13.out; have := HJ15.out; have := HK5.out; have := HJ24.out; have := HJ31.out; omega
                                                case rel => exact ⟨(y355), (false), (wrap64 (x13_5 + 1)), (by first | rfl | (simp; done) | (simp [*]; done)), (by first | rfl | (simp; done) | (simp [*]; done)), H', ⟨by have := HK1.out; have := HK2.out; have := HJ13.out; have := HJ15.out; have := HK5.out; have := HJ24.out; have := HJ31.out; omega⟩, ⟨by (with_reducible repeat (first | apply Kd.R_alloc | apply Kd.R_drewN | apply Kd.R_drew)); exact HO357.out⟩, ⟨by (with_reducible repeat (first | apply Kd.R_alloc | apply Kd.R_drewN | apply Kd.R_drew)); exact HO_10.out⟩, ⟨by repeat (first | (with_reducible first | exact HB.out | apply below_alloc | apply pw_below_drewN | apply below_drew1) | exact HB.out)⟩⟩
                                          · rw [if_neg c37] at H
                                            exact absurd H (by simp)
                                        · rw [if_neg c36] at H
                                          exact absurd H (by simp)
                                      · rw [if_neg c35] at H
                                        exact absurd H (by simp)
                                    · replace c34 := Bool.eq_false_iff.mpr c34
                                      subst c34
                                      have H1 : (if x14_24 = true then (tidingsref01_told.l2 kj31 l0 a1 a2 x8_5 x9_1 x10_15 x14_24 (wrap64 (x13_5 + 1))) else (if x12_5 = true then (if 0 ≤ x13_5 then (if x13_5 < (x10_15.length : Int) then (if 0 ≤ (wrap64 ((x8_5.length : Int) - 1)) then (if (wrap64 ((x8_5.length : Int) - 1)) < (x8_5.length : Int) then (tidingsref01_told.l2 kj31 l0 a1 a2 (x8_5.set ((wrap64 ((x8_5.length : Int) - 1)) : Int).toNat (⟨(rd_T65 x8_5 (wrap64 ((x8_5.length : Int) - 1))).f0, (rd_T65 x8_5 (wrap64 ((x8_5.length : Int) - 1))).f1, (IntKind.u64.wrap ((rd x10_15 x13_5) - 1)) % 4294967296⟩ : S65)) x9_1 x10_15 x14_24 (wrap64 (x13_5 + 1))) else (none)) else (none)) else (none)) else (none)) else (tidingsref01_told.l2 kj31 l0 a1 a2 x8_5 x9_1 x10_15 x14_24 (wrap64 (x13_5 + 1))))) = some (r1, r2) := by rw [if_neg (show ¬ (false = true) by decide)] at H; exact H
                                      clear H
                                      have H := H1
                                      clear H1
                                      by_cases c50 : x14_24 = true
                                      · subst c50
                                        have H1 : (tidingsref01_told.l2 kj31 l0 a1 a2 x8_5 x9_1 x10_15 true (wrap64 (x13_5 + 1))) = some (r1, r2) := by rw [if_pos rfl] at H; exact H
                                        clear H
                                        have H := H1
                                        clear H1
                                        have H' := Aside0.mk H
                                        clear H
                                        go_wp2
                                        go_roundg kj31
                                        case measure => have := HK1.out; have := HK2.out; have := HJ13.out; have := HJ15.out; have := HK5.out; have := HJ24.out; have := HJ31.out; omega
                                        case rel => exact ⟨(x8_5), (true), (wrap64 (x13_5 + 1)), (by first | rfl | (simp; done) | (simp [*]; done)), (by first | rfl | (simp; done) | (simp [*]; done)), H', ⟨by have := HK1.out; have := HK2.out; have := HJ13.out; have := HJ15.out; have := HK5.out; have := HJ24.out; have := HJ31.out; omega⟩, ⟨by (with_reducible repeat (first | apply Kd.R_alloc | apply Kd.R_drewN | apply Kd.R_drew)); exact HO_8.out⟩, ⟨by (with_reducible repeat (first | apply Kd.R_alloc | apply Kd.R_drewN | apply Kd.R_drew)); exact HO_10.out⟩, ⟨by repeat (first | (with_reducible first | exact HB.out | apply below_alloc | apply pw_below_drewN | apply below_drew1) | exact HB.out)⟩⟩
                                      · replace c50 := Bool.eq_false_iff.mpr c50
                                        subst c50
                                        have H1 : (if x12_5 = true then (if 0 ≤ x13_5 then (if x13_5 < (x10_15.length : Int) then (if 0 ≤ (wrap64 ((x8_5.length : Int) - 1)) then (if (wrap64 ((x8_5.length : Int) - 1)) < (x8_5.length : Int) then (tidingsref01_told.l2 kj31 l0 a1 a2 (x8_5.set ((wrap64 ((x8_5.length : Int) - 1)) : Int).toNat (⟨(rd_T65 x8_5 (wrap64 ((x8_5.length : Int) - 1))).f0, (rd_T65 x8_5 (wrap64 ((x8_5.length : Int) - 1))).f1, (IntKind.u64.wrap ((rd x10_15 x13_5) - 1)) % 4294967296⟩ : S65)) x9_1 x10_15 false (wrap64 (x13_5 + 1))) else (none)) else (none)) else (none)) else (none)) else (tidingsref01_told.l2 kj31 l0 a1 a2 x8_5 x9_1 x10_15 false (wrap64 (x13_5 + 1)))) = some (r1, r2) := by rw [if_neg (show ¬ (false = true) by decide)] at H; exact H
                                        clear H
                                        have H := H1
                                        clear H1
                                        by_cases c51 : x12_5 = true
                                        · subst c51
                                          have H1 : (if 0 ≤ x13_5 then (if x13_5 < (x10_15.length : Int) then (if 0 ≤ (wrap64 ((x8_5.length : Int) - 1)) then (if (wrap64 ((x8_5.length : Int) - 1)) < (x8_5.length : Int) then (tidingsref01_told.l2 kj31 l0 a1 a2 (x8_5.set ((wrap64 ((x8_5.length : Int) - 1)) : Int).toNat (⟨(rd_T65 x8_5 (wrap64 ((x8_5.length : Int) - 1))).f0, (rd_T65 x8_5 (wrap64 ((x8_5.length : Int) - 1))).f1, (IntKind.u64.wrap ((rd x10_15 x13_5) - 1)) % 4294967296⟩ : S65)) x9_1 x10_15 false (wrap64 (x13_5 + 1))) else (none)) else (none)) else (none)) else (none)) = some (r1, r2) := by rw [if_pos rfl] at H; exact H
                                          clear H
                                          have H := H1
                                          clear H1
                                          by_cases c52 : 0 ≤ x13_5
                                          · rw [if_pos c52] at H
                                            have c52b0 : decide (0 ≤ x13_5) = true := decide_eq_true c52
                                            clear c52
                                            by_cases c53 : x13_5 < (x10_15.length : Int)
                                            · rw [if_pos c53] at H
                                              have c53b0 : decide (x13_5 < (x10_15.length : Int)) = true := decide_eq_true c53
                                              clear c53
                                              obtain ⟨ji54, hji54⟩ : ∃ j_ : Int, (wrap64 ((x8_5.length : Int) - 1)) = j_ := ⟨_, rfl⟩
                                              replace H : (if 0 ≤ (ji54) then (if (ji54) < (x8_5.length : Int) then (tidingsref01_told.l2 kj31 l0 a1 a2 (x8_5.set ((ji54) : Int).toNat (⟨(rd_T65 x8_5 (ji54)).f0, (rd_T65 x8_5 (ji54)).f1, (IntKind.u64.wrap ((rd x10_15 x13_5) - 1)) % 4294967296⟩ : S65)) x9_1 x10_15 false (wrap64 (x13_5 + 1))) else (none)) else (none)) = some (r1, r2) := by first | (rw [hji54] at H; exact H) | (simp only [hji54] at H ⊢; exact H)
                                              have hji54w : (IntKind.i64.wrap ((x8_5.length : Int) - 1)) = ji54 := (i64_w _).trans hji54
                                              by_cases c55 : 0 ≤ (ji54)
                                              · rw [if_pos c55] at H
                                                have c55b0 : decide (0 ≤ (ji54)) = true := decide_eq_true c55
                                                clear c55
                                                by_cases c56 : (ji54) < (x8_5.length : Int)
                                                · rw [if_pos c56] at H
                                                  have c56b0 : decide ((ji54) < (x8_5.length : Int)) = true := decide_eq_true c56
                                                  clear c56
                                                  obtain ⟨y361, hy361⟩ : ∃ y_ : List (S65), y_ = (x8_5.set ((ji54) : Int).toNat (⟨(rd_T65 x8_5 (ji54)).f0, (rd_T65 x8_5 (ji54)).f1, (IntKind.u64.wrap ((rd x10_15 x13_5) - 1)) % 4294967296⟩ : S65)) := ⟨_, rfl⟩
                                                  replace H : (tidingsref01_told.l2 kj31 l0 a1 a2 y361 x9_1 x10_15 false (wrap64 (x13_5 + 1))) = some (r1, r2) := by first | (rw [hy361]; with_reducible exact H) | (have H2_ := (Option.bind_some _ _).symm.trans H; rw [hy361]; with_reducible exact H2_) | (have H2_ := (Option.bind_some _ _).symm.trans H; with_reducible exact H2_) | with_reducible exact H | (rw [hy361]; exact H) | exact H
                                                  have Ny361 := Aside0.mk hy361
                                                  clear hy361
                                                  have H' := Aside0.mk H
                                                  clear H
                                                  obtain ⟨Ao58, co58, eo58⟩ := Kd.R_slice HO_8.out
                                                  subst eo58
                                                  have p360 : 0 ≤ (x13_5 : Int) := of_decide_eq_true (by first | (with_reducible assumption) | assumption)
                                                  have q360 : x13_5 < (x10_15.length : Int) := of_decide_eq_true (by first | (with_reducible assumption) | assumption)
                                                  obtain ⟨ad360, e360, hx360_0⟩ := Kd.at_int (Kd.R_reads' HO_10.out).2.2 x13_5 p360 q360
                                                  cases e360
                                                  replace p360 := eq_true p360
                                                  replace q360 := eq_true q360
                                                  have p57 : 0 ≤ ((ji54) : Int) := of_decide_eq_true (by first | (with_reducible assumption) | assumption)
                                                  have q57 : ((ji54) : Int) < ((x8_5.length : Int) : Int) := of_decide_eq_true (by first | (with_reducible assumption) | assumption)
                                                  obtain ⟨go57, co57, eo57, gb57, gl57, cl57, HG57⟩ := Kd.R_form HO_8.out (by omega)
                                                  (first | cases eo57 | (injection eo57 with ea_ en_ ec_; (first | subst ea_ | (injection ea_ with ea_; subst ea_)); subst ec_; clear en_))
                                                  have GB57 := Aside0.mk gb57
                                                  have GG57 := Aside0.mk HG57
                                                  clear gb57 gl57 HG57
                                                  obtain ⟨ce57, hcl57, hM57, hcc57, hfr57⟩ := Kd.R_elem HO_8.out z65 ((ji54) : Int) p57 q57
                                                  obtain rfl := k65_openM hM57
                                                  have hx57_0 : wc.cell? ⟨go57, ((ji54) : Int).toNat * 3, none⟩ = some (.int .u8 ((rd_T65 x8_5 (ji54)).f0)) := hcc57 0 _ rfl
                                                  have hx57_1 : wc.cell? ⟨go57, ((ji54) : Int).toNat * 3 + 1, none⟩ = some (.int .u32 ((rd_T65 x8_5 (ji54)).f1)) := hcc57 1 _ rfl
                                                  have hx57_2 : wc.cell? ⟨go57, ((ji54) : Int).toNat * 3 + 2, none⟩ = some (.int .u32 ((rd_T65 x8_5 (ji54)).f2)) := hcc57 2 _ rfl
                                                  have hf57_0 : wc.frozen? ⟨go57, ((ji54) : Int).toNat * 3, none⟩ = false := hfr57 0
                                                  have hf57_1 : wc.frozen? ⟨go57, ((ji54) : Int).toNat * 3 + 1, none⟩ = false := hfr57 1
                                                  have hf57_2 : wc.frozen? ⟨go57, ((ji54) : Int).toNat * 3 + 2, none⟩ = false := hfr57 2
                                                  clear hcl57 hcc57 hfr57 hM57
                                                  replace p57 := eq_true p57
                                                  replace q57 := eq_true q57
                                                  have HX59 := Aside0.mk (show Kd.R k65 65 wc w.heap.size (fun _ => True) (.slice (some ⟨go57, 0, none⟩) x8_5.length co58) x8_5 from (by (with_reducible repeat (first | apply Kd.R_alloc | apply Kd.R_drewN | apply Kd.R_drew)); exact HO_8.out))
                                                  obtain ⟨ce59, hcl59, hM59, hcc59, hfr59⟩ := Kd.R_elem HX59.out z65 ((ji54) : Int) (of_decide_eq_true (by first | (with_reducible assumption) | assumption)) (by have h_ : ((ji54) : Int) < ((x8_5.length : Int) : Int) := of_decide_eq_true (by first | (with_reducible assumption) | assumption); first | exact h_ | (have e_ := (Kd.R_reads' HO_8.out).1; omega) | simpa using h_)
                                                  obtain rfl := k65_openM hM59
                                                  have HP59 := Kd.R_seg HX59.out ((ji54) : Int) (of_decide_eq_true (by first | (with_reducible assumption) | assumption)) (by have h_ : ((ji54) : Int) < ((x8_5.length : Int) : Int) := of_decide_eq_true (by first | (with_reducible assumption) | assumption); first | exact h_ | (have e_ := (Kd.R_reads' HO_8.out).1; omega) | simpa using h_) (seg := [.int .u32 ((IntKind.u64.wrap ((rd x10_15 x13_5) - 1)) % 4294967296)]) (j := 2) hcl59 hcc59 (show 3 ≤ 3 from by decide) (x' := (⟨(rd_T65 x8_5 (ji54)).f0, (rd_T65 x8_5 (ji54)).f1, (IntKind.u64.wrap ((rd x10_15 x13_5) - 1)) % 4294967296⟩ : S65)) (k65_mkM _ _ _ (⟨(rd_T65 x8_5 (ji54)).f0, (rd_T65 x8_5 (ji54)).f1, (IntKind.u64.wrap ((rd x10_15 x13_5) - 1)) % 4294967296⟩ : S65) ) (fun _ hk => hk)
                                                  have hx59_2 := hcc59 2 _ rfl
                                                  (try simp only [show (k65).sz = 3 from rfl, Nat.mul_one, Nat.add_zero] at hx59_2)
                                                  have hf59_2 := hfr59 2
                                                  (try simp only [show (k65).sz = 3 from rfl, Nat.mul_one, Nat.add_zero] at hf59_2)
                                                  clear hcl59 hcc59 hfr59 hM59
                                                  go_wp2_with (first | ((with_reducible refine gate_store (t := 23) (p := 133) rfl ?_); refine store_event (t := 23) (p := 133) (v := ?vo_w60) (w1 := (wc.setCell ⟨go57, ((ji54) : Int).toNat * 3 + 2, none⟩ (.int .u32 ((IntKind.u64.wrap ((rd x10_15 x13_5) - 1)) % 4294967296)))) ?hg ?ho ?hn ?hr ?_; (case ho => rfl); (case hg => rfl); (case hn => rfl); (case hr => first | (go_simp; done) | (go_simp; rfl)); intro w60 hw; have hg : wc.grownBy w60 (some go57) := (by rw [hw]; exact HP59.2); have hp_ : Kd.R k65 65 w60 w.heap.size (fun _ => True) (.slice (some ⟨go57, 0, none⟩) x8_5.length co58) y361 := (by rw [hw, Ny361.out]; exact HP59.1); clear HP59; have n0_ := Aside0.mk (hp_); have n1_ := Aside0.mk (Kd.R_over' (v := (.slice (some ⟨go57, 0, none⟩) x8_5.length co58)) (by (with_reducible repeat (first | apply Kd.R_alloc | apply Kd.R_drewN | apply Kd.R_drew)); exact HO_10.out) (Kd.R_typed HO_8.out) (by decide) hg); have n2_ := Aside0.mk ((by rw [hw]; exact below_set (HB.out) GB57.out : Below w.heap.size w w60)); clear HO_8; clear HO_10; clear HB; have HO_8 := n0_; have HO_10 := n1_; have HB := n2_; clear n0_ n1_ n2_; clear hg hw hp_))
                                                  go_roundg kj31
                                                  case measure => have := HK1.out; have := HK2.out; have := HJ13.out; have := HJ15.out; have := HK5.out; have := HJ24.out; have := HJ31.out; omega
                                                  case rel => exact ⟨(y361), (false), (wrap64 (x13_5 + 1)), (by first | rfl | (simp; done) | (simp [*]; done)), (by first | rfl | (simp; done) | (simp [*]; done)), H', ⟨by have := HK1.out; have := HK2.out; have := HJ13.out; have := HJ15.out; have := HK5.out; have := HJ24.out; have := HJ31.out; omega⟩, ⟨by (with_reducible repeat (first | apply Kd.R_alloc | apply Kd.R_drewN | apply Kd.R_drew)); exact HO_8.out⟩, ⟨by (with_reducible repeat (first | apply Kd.R_alloc | apply Kd.R_drewN | apply Kd.R_drew)); exact HO_10.out⟩, ⟨by repeat (first | (with_reducible first | exact HB.out | apply below_alloc | apply pw_below_drewN | apply below_drew1) | exact HB.out)⟩⟩
                                                · rw [if_neg c56] at H
                                                  exact absurd H (by simp)
                                              · rw [if_neg c55] at H
                                                exact absurd H (by simp)
                                            · rw [if_neg c53] at H
                                              exact absurd H (by simp)
                                          · rw [if_neg c52] at H
                                            exact absurd H (by simp)
                                        · replace c51 := Bool.eq_false_iff.mpr c51
                                          subst c51
                                          have H1 : (tidingsref01_told.l2 kj31 l0 a1 a2 x8_5 x9_1 x10_15 false (wrap64 (x13_5 + 1))) = some (r1, r2) := by rw [if_neg (show ¬ (false = true) by decide)] at H; exact H
                                          clear H
                                          have H := H1
                                          clear H1
                                          have H' := Aside0.mk H
                                          clear H
                                          go_wp2
                                          go_roundg kj31
                                          case measure => have := HK1.out; have := HK2.out; have := HJ13.out; have := HJ15.out; have := HK5.out; have := HJ24.out; have := HJ31.out; omega
                                          case rel => exact ⟨(x8_5), (false), (wrap64 (x13_5 + 1)), (by first | rfl | (simp; done) | (simp [*]; done)), (by first | rfl | (simp; done) | (simp [*]; done)), H', ⟨by have := HK1.out; have := HK2.out; have := HJ13.out; have := HJ15.out; have := HK5.out; have := HJ24.out; have := HJ31.out; omega⟩, ⟨by (with_reducible repeat (first | apply Kd.R_alloc | apply Kd.R_drewN | apply Kd.R_drew)); exact HO_8.out⟩, ⟨by (with_reducible repeat (first | apply Kd.R_alloc | apply Kd.R_drewN | apply Kd.R_drew)); exact HO_10.out⟩, ⟨by repeat (first | (with_reducible first | exact HB.out | apply below_alloc | apply pw_below_drewN | apply below_drew1) | exact HB.out)⟩⟩
                          · rw [if_neg c24] at H
                            have c24b0 : decide (x13_5 < (x10_15.length : Int)) = false := decide_eq_false c24
                            clear c24
                            have H' := Aside0.mk H
                            clear H
                            obtain ⟨Ao61, co61, eo61⟩ := Kd.R_slice HO_10.out
                            subst eo61
                            go_wp2
                            go_roundg k5
                            case measure => have := HK1.out; have := HK2.out; have := HJ13.out; have := HJ15.out; have := HK5.out; omega
                            case rel => exact ⟨(x8_5), (wrap64 (x9_1 + 1)), (by first | rfl | (simp; done) | (simp [*]; done)), H', ⟨by have := HK1.out; have := HK2.out; have := HJ13.out; have := HJ15.out; have := HK5.out; omega⟩, ⟨by (with_reducible repeat (first | apply Kd.R_alloc | apply Kd.R_drewN | apply Kd.R_drew)); exact HO_8.out⟩, ⟨by repeat (first | (with_reducible first | exact HB.out | apply below_alloc | apply pw_below_drewN | apply below_drew1) | exact HB.out)⟩⟩
      · rw [if_neg c4] at H
        have c4b0 : decide (x9_1 < 8) = false := decide_eq_false c4
        clear c4
        by_cases c62 : (x8_1.length : Int) > 64
        · rw [if_pos c62] at H
          have c62b0 : decide (64 < (x8_1.length : Int)) = true := decide_eq_true c62
          have c62b1 : decide (64 < x8_1.length) = true := decide_eq_true (by omega)
          clear c62
          simp only [Option.some.injEq, Prod.mk.injEq] at H
          obtain ⟨rfl, rfl⟩ := H
          obtain ⟨Ao63, co63, eo63⟩ := Kd.R_slice HO_8.out
          subst eo63
          go_wp2
          go_ret2
          exact ⟨_, by first | rfl | (simp [errW_none, errW_some] <;> rfl) | (simp [*, errW_none, errW_some] <;> rfl), by first | exact Kd.R_nil _ _ _ _ _ | exact Kd.N_nil _ _ _ _ _ | exact Kd.V_nil _ _ _ _ _ | exact Kd.Q_nil _ _ _ _ _ | exact Kd.S_nil _ _ _ _ _, by repeat (first | (with_reducible first | exact HB.out | apply below_alloc | apply pw_below_drewN | apply below_drew1) | exact HB.out)⟩
        · rw [if_neg c62] at H
          have c62b0 : decide (64 < (x8_1.length : Int)) = false := decide_eq_false c62
          have c62b1 : decide (64 < x8_1.length) = false := decide_eq_false (by omega)
          clear c62
          simp only [Option.some.injEq, Prod.mk.injEq] at H
          obtain ⟨rfl, rfl⟩ := H
          obtain ⟨Ao64, co64, eo64⟩ := Kd.R_slice HO_8.out
          subst eo64
          go_wp2
          go_ret2
          exact ⟨_, by first | rfl | (simp [errW_none, errW_some] <;> rfl) | (simp [*, errW_none, errW_some] <;> rfl), by (with_reducible repeat (first | apply Kd.R_alloc | apply Kd.R_drewN | apply Kd.R_drew)); exact HO_8.out, by repeat (first | (with_reducible first | exact HB.out | apply below_alloc | apply pw_below_drewN | apply below_drew1) | exact HB.out)⟩
end Go.Proofs.YtiminjibcafkaaaDoor.X
