-- MADE BY wip/prx.py (the kit's printer, with contracts proved by hand). Not trusted: Lean checks it.
import Derived.Test.YtiminjibcafkaaaDoorKUJ7
import Derived.Test.YtiminjibcafkaaaDoorKUJ11
import Derived.Test.YtiminjibcafkaaaDoorKUXhslicesSortFuncRun
namespace Go.Proofs.YtiminjibcafkaaaDoor.X
open Go.RowKit Go.Proofs.YtiminjibcafkaaaDoorW.PrintWords Go.Proofs.YtiminjibcafkaaaDoorW.PrintLast Go.Proofs.YtiminjibcafkaaaDoorW.PrintMore
attribute [local go_sem] max2_int min2_int max_two min_two max_three min_three max_four min_four   -- for this text's walks alone
set_option linter.unusedVariables false
set_option linter.unusedSimpArgs false
/-! ### know_merged: function 40 -/
mutual
def know_merged.l0 : Nat → List (S65) → List (S65) → Int → Int → Option ((List (S65)) × Option Int)
  | 0, _, _, _, _ => none
  | k + 1, x4, x12, x13, x14 => if x14 < x13 then (if 0 ≤ x14 then (if x14 < (x12.length : Int) then (if (wrap64 ((x4.length : Int) - 1)) ≥ 0 then (if 0 ≤ (wrap64 ((x4.length : Int) - 1)) then (if (wrap64 ((x4.length : Int) - 1)) < (x4.length : Int) then ((know_apart.f ((rd_T65 x4 (wrap64 ((x4.length : Int) - 1))).f0) ((rd_T65 x4 (wrap64 ((x4.length : Int) - 1))).f1) ((rd_T65 x4 (wrap64 ((x4.length : Int) - 1))).f2) ((rd_T65 x12 x14).f0) ((rd_T65 x12 x14).f1) ((rd_T65 x12 x14).f2)).bind fun t232 => (know_merged.j1 k x4 (wrap64 ((x4.length : Int) - 1)) x12 x13 x14 (!t232) ((rd_T65 x12 x14).f0) ((rd_T65 x12 x14).f1) ((rd_T65 x12 x14).f2))) else (none)) else (none)) else (know_merged.j1 k x4 (wrap64 ((x4.length : Int) - 1)) x12 x13 x14 false ((rd_T65 x12 x14).f0) ((rd_T65 x12 x14).f1) ((rd_T65 x12 x14).f2))) else (none)) else (none)) else (if (x4.length : Int) > 64 then (some (([] : List (S65)), some 5)) else (some (x4, none)))
def know_merged.j1 : Nat → List (S65) → Int → List (S65) → Int → Int → Bool → Int → Int → Int → Option ((List (S65)) × Option Int)
  | 0, _, _, _, _, _, _, _, _, _ => none
  | k + 1, x4, x7, x12, x13, x14, x21, x231000, x231001, x231002 => if x21 = true then (if 0 ≤ x7 then (if x7 < (x4.length : Int) then (if x231002 ≤ ((rd_T65 x4 x7).f2) then (know_merged.l0 k x4 x12 x13 (wrap64 (x14 + 1))) else (if x7 ≤ (x4.length : Int) then ((some (x4.take (x7 : Int).toNat : List (S65))).bind fun y235 => (if y235.length < 11728124029610 then (know_merged.l0 k (y235 ++ [(⟨x231000, (rd_T65 x4 x7).f1, x231002⟩ : S65)]) x12 x13 (wrap64 (x14 + 1))) else (none))) else (none))) else (none)) else (none)) else (if x4.length < 11728124029610 then (know_merged.l0 k (x4 ++ [(⟨x231000, x231001, x231002⟩ : S65)]) x12 x13 (wrap64 (x14 + 1))) else (none))
end
def know_merged.f (k : Nat) (l0 : List (S65)) : Option ((List (S65)) × Option Int) := (slices_Clone_Run.f l0).bind fun t225 => ((slices_SortFunc_Run.f t225).bind fun t228 => (know_merged.l0 k ([] : List (S65)) t228 (t225.length : Int) 0))
theorem know_merged.mono_l : ∀ k, (∀ y0 y1 y2 y3, LeO (know_merged.l0 k y0 y1 y2 y3) (know_merged.l0 (k + 1) y0 y1 y2 y3)) ∧ (∀ y0 y1 y2 y3 y4 y5 y6 y7 y8, LeO (know_merged.j1 k y0 y1 y2 y3 y4 y5 y6 y7 y8) (know_merged.j1 (k + 1) y0 y1 y2 y3 y4 y5 y6 y7 y8))
  | 0 => ⟨fun _ _ _ _ r h => by simp [know_merged.l0] at h, fun _ _ _ _ _ _ _ _ _ r h => by simp [know_merged.j1] at h⟩
  | k + 1 => by
    obtain ⟨ih0, ih1⟩ := know_merged.mono_l k
    refine ⟨?_, ?_⟩
    · intro y0 y1 y2 y3
      unfold know_merged.l0
      repeat' first
      | (with_reducible exact ih0 _ _ _ _)
      | (with_reducible exact ih1 _ _ _ _ _ _ _ _ _)
      | (with_reducible exact LeO.refl _)
      | (with_reducible exact LeO.none _)
      | (with_reducible refine LeO.ite ?_ ?_)
      | (with_reducible refine LeO.bind ?_ (fun _ => ?_))
      | exact ih0 _ _ _ _
      | exact ih1 _ _ _ _ _ _ _ _ _
      | exact LeO.none _
      | refine LeO.ite ?_ ?_
      | refine LeO.bind ?_ (fun _ => ?_)
    · intro y0 y1 y2 y3 y4 y5 y6 y7 y8
      unfold know_merged.j1
      repeat' first
      | (with_reducible exact ih0 _ _ _ _)
      | (with_reducible exact ih1 _ _ _ _ _ _ _ _ _)
      | (with_reducible exact LeO.refl _)
      | (with_reducible exact LeO.none _)
      | (with_reducible refine LeO.ite ?_ ?_)
      | (with_reducible refine LeO.bind ?_ (fun _ => ?_))
      | exact ih0 _ _ _ _
      | exact ih1 _ _ _ _ _ _ _ _ _
      | exact LeO.none _
      | refine LeO.ite ?_ ?_
      | refine LeO.bind ?_ (fun _ => ?_)
theorem know_merged.mono : ∀ a0 k, LeO (know_merged.f k a0) (know_merged.f (k + 1) a0) := by
  intro a0 k
  obtain ⟨ih0, ih1⟩ := know_merged.mono_l k
  unfold know_merged.f
  repeat' first
      | (with_reducible exact ih0 _ _ _ _)
      | (with_reducible exact ih1 _ _ _ _ _ _ _ _ _)
      | (with_reducible exact LeO.refl _)
      | (with_reducible exact LeO.none _)
      | (with_reducible refine LeO.ite ?_ ?_)
      | (with_reducible refine LeO.bind ?_ (fun _ => ?_))
      | exact ih0 _ _ _ _
      | exact ih1 _ _ _ _ _ _ _ _ _
      | exact LeO.none _
      | refine LeO.ite ?_ ?_
      | refine LeO.bind ?_ (fun _ => ?_)
def know_merged.T8 : Bool × List (List Nat × List Nat) := (true, [([], []), ([0], [0]), ([1], [1]), ([2], [2]), ([2], [2]), ([3, 4, 2], [2, 3, 4]), ([5, 2], [2, 5]), ([2], [2]), ([6, 7, 2, 2], [2, 6, 7]), ([8, 2], [2, 8]), ([2, 9], [2, 9]), ([10, 8], [10])])
def know_merged.B8 : List Nat := [0, 1, 3, 7, 7, 31, 63, 7, 255, 511, 1023, 2047]
theorem know_merged.tab8 : rtab .any (opsOf Tryd.f40 8) = know_merged.T8 := by kernel_rfl
theorem know_merged.bits8 : waitsOk know_merged.T8.2 know_merged.B8 = true := by kernel_rfl
def know_merged.T9 : Bool × List (List Nat × List Nat) := (true, [([], []), ([0], [0]), ([], []), ([], []), ([2, 3], [2, 3]), ([4], [4]), ([5], [5]), ([1, 6], [1, 6])])
def know_merged.B9 : List Nat := [0, 1, 0, 0, 12, 28, 60, 127]
theorem know_merged.tab9 : rtab .any (opsOf Tryd.f40 9) = know_merged.T9 := by kernel_rfl
theorem know_merged.bits9 : waitsOk know_merged.T9.2 know_merged.B9 = true := by kernel_rfl
set_option maxHeartbeats 8000000 in
set_option maxRecDepth 100000 in
theorem know_merged.calls (k : Nat) (A0 : Option Addr) (c0 : Nat) (l0 : List (S65)) (r1 : List (S65)) (r2 : Option Int) (w : World) (hr0 : Kd.C k65 w A0 l0.length l0) (hc0 : l0.length ≤ c0) (h : know_merged.f k l0 = some (r1, r2)) :
    Calls Tryd.prog 40 #[.slice A0 l0.length c0] w fun e w' => ∃ v0_ : Value, e = .returned (.tuple #[v0_, errW r2]) ∧ Kd.R k65 65 w' w.heap.size (fun _ => True) v0_ r1 ∧ Below w.heap.size w w' := by
  have hu65 := Tryd.underlying65
  have hu30 := Tryd.underlying30
  have hu52 := Tryd.underlying52
  have HR0 := Aside0.mk hr0
  have HC0 := Aside0.mk hc0
  clear hr0 hc0
  have HB := Aside0.mk (Below.refl w.heap.size w)
  have H : ((slices_Clone_Run.f l0).bind fun t225 => ((slices_SortFunc_Run.f t225).bind fun t228 => (know_merged.l0 k ([] : List (S65)) t228 (t225.length : Int) 0))) = some (r1, r2) := h
  clear h
  replace H := Option.bind_eq_some_iff.mp H
  obtain ⟨t225, A20, H⟩ := H
  replace H : ((slices_SortFunc_Run.f t225).bind fun t228 => (know_merged.l0 k ([] : List (S65)) t228 (t225.length : Int) 0)) = some (r1, r2) := H
  have A2 := Aside0.mk A20
  clear A20
  replace H := Option.bind_eq_some_iff.mp H
  obtain ⟨t228, A30, H⟩ := H
  replace H : (know_merged.l0 k ([] : List (S65)) t228 (t225.length : Int) 0) = some (r1, r2) := H
  have A3 := Aside0.mk A30
  clear A30
  have H' := Aside0.mk H
  clear H
  go_enter Tryd.func40, Tryd.ntmps40
  go_wp2_with (first | ((with_reducible refine gate_callee (f := 41) rfl ?_); refine goesL_ (some 9) rfl rfl Tryd.func41 (by kernel_rfl) rfl #[.slice A0 l0.length c0] rfl (by (try simp only [List.map_toArray, List.map_cons, List.map_nil]); first | done | rfl | (simp only [List.length_drop, List.length_take]; rfl)) ?_; (with_reducible refine (slices_Clone_Run.calls _ _ l0 t225 _ ?side1 ?side2 A2.out).mono ?_); (case side1 => repeat (first | exact HR0.out | (with_reducible refine Kd.C_alloc ?_ _) | (with_reducible refine Kd.C_drewN ?_ _) | (with_reducible refine Kd.C_drew ?_))); (case side2 => exact HC0.out); rintro e w4 ⟨v226, rfl, ho0, hb⟩; refine ⟨_, rfl, ?_⟩; have n0_ := Aside0.mk (Kd.R_lower ho0 (below_size (by repeat (first | (with_reducible first | exact HB.out | apply below_alloc | apply pw_below_drewN | apply below_drew1) | exact HB.out)))); have n1_ := Aside0.mk (below_step (by repeat (first | (with_reducible first | exact HB.out | apply below_alloc | apply pw_below_drewN | apply below_drew1) | exact HB.out)) hb); clear HB; have HO227 := n0_; have HB := n1_; clear n0_ n1_; (try clear hb); (try clear hb2); (try clear hk); (try clear hi); (try clear ho0); obtain ⟨Ao5, co5, eo5⟩ := Kd.R_slice HO227.out; subst eo5) | ((with_reducible refine gate_callee (f := 57) rfl ?_); refine goesL_ (some 11) rfl rfl Tryd.func57 (by kernel_rfl) rfl #[.slice Ao5 t225.length co5, .func (.func 58) #[] #[]] rfl (by (try simp only [List.map_toArray, List.map_cons, List.map_nil]); first | done | rfl | (simp only [List.length_drop, List.length_take]; rfl)) ?_; (with_reducible refine (slices_SortFunc_Run.calls (fun k_ => some k_ = (.slice Ao5 t225.length co5 : Value).ownBlock) (.slice Ao5 t225.length co5) t225  t228 w _ ?side1 ?side2 A3.out).mono ?_); (case side1 => repeat (first | (with_reducible first | exact HB.out | apply below_alloc | apply pw_below_drewN | apply below_drew1) | exact HB.out)); (case side2 => exact Kd.R_tight rfl HO227.out); rintro e w6 ⟨rfl, hy0, hb, hkp⟩; refine ⟨_, rfl, ?_⟩; have n0_ := Aside0.mk (Kd.R_reok rfl hy0 (fun k_ e_ => HO227.out.1 k_ e_)); have n1_ := Aside0.mk (hb); clear HO227; clear HB; have HO227 := n0_; have HB := n1_; clear n0_ n1_; (try clear hb); (try clear hkp); (try clear hy0)))
  go_loopg [4, 14] k (fun kq v4 v14 w' => ∃ (x4_1 : List (S65)) (x14_1 : Int), v14 = .int .i64 x14_1 ∧ Aside0 (know_merged.l0 kq x4_1 t228 (t225.length : Int) x14_1 = some (r1, r2)) ∧ Aside0 (kq ≤ k) ∧ Aside0 (Kd.R k65 65 w' w.heap.size (fun k_ => some k_ ≠ ((.slice Ao5 t225.length co5) : Value).ownBlock) v4 x4_1) ∧ Aside0 (Kd.R k65 65 w' w.heap.size (fun k_ => some k_ ≠ (v4 : Value).ownBlock) (.slice Ao5 t225.length co5) t228) ∧ Aside0 (Below w.heap.size w w'))
  case atStart => exact ⟨(([] : List (S65))), (0), (by first | rfl | (simp; done) | (simp [*]; done)), H', ⟨Nat.le_refl _⟩, ⟨by first | exact Kd.R_nil _ _ _ _ _ | exact Kd.N_nil _ _ _ _ _ | exact Kd.V_nil _ _ _ _ _ | exact Kd.Q_nil _ _ _ _ _ | exact Kd.S_nil _ _ _ _ _⟩, ⟨by (with_reducible repeat (first | apply Kd.R_alloc | apply Kd.R_drewN | apply Kd.R_drew)); exact Kd.R_mono HO227.out (fun _ hk => (by simp [Value.ownBlock]))⟩, ⟨by repeat (first | (with_reducible first | exact HB.out | apply below_alloc | apply pw_below_drewN | apply below_drew1) | exact HB.out)⟩⟩
  case round =>
    clear H'
    try clear p2
    try clear c4
    try clear c5
    obtain ⟨x4_1, x14_1, rfl, HA, HK1, HO_4, HO_12, HB⟩ := hrel
    have hl12_1 := (Kd.R_reads' HO_12.out).1
    rw [hl12_1] at HO_12
    (try simp only [hl12_1])
    (try simp only [hl12_1] at HO_4)
    cases gk with
    | zero => exact absurd HA.out (by simp [know_merged.l0])
    | succ k1 =>
      have H := HA.out
      clear HA
      simp only [know_merged.l0] at H
      by_cases c7 : x14_1 < (t225.length : Int)
      · rw [if_pos c7] at H
        have c7b0 : decide (x14_1 < (t225.length : Int)) = true := decide_eq_true c7
        clear c7
        by_cases c8 : 0 ≤ x14_1
        · rw [if_pos c8] at H
          have c8b0 : decide (0 ≤ x14_1) = true := decide_eq_true c8
          clear c8
          by_cases c9 : x14_1 < (t228.length : Int)
          · rw [if_pos c9] at H
            have c9b0 : decide (x14_1 < (t228.length : Int)) = true := decide_eq_true c9
            clear c9
            have HC10 := Aside0.mk H
            clear H
            have p229 : 0 ≤ (x14_1 : Int) := of_decide_eq_true (by first | (with_reducible assumption) | assumption)
            have q229 : x14_1 < (t228.length : Int) := of_decide_eq_true (by first | (with_reducible assumption) | assumption)
            obtain ⟨ad229, e229, hx229_0, hx229_1, hx229_2⟩ := at_T65 (Kd.R_reads' HO_12.out).2.2 x14_1 p229 q229
            cases e229
            replace p229 := eq_true p229
            replace q229 := eq_true q229
            go_upto_region 8 with (first | ((with_reducible refine gate_dst (N := 6) rfl ?_); refine box_event ?hg (N := 6) ?hd (cs := #[.int .u8 0, .int .u32 0, .int .u32 0]) (t := 65) ?hr ?_; (case hd => rfl); (case hg => rfl); (case hr => first | (go_simp; done) | (go_simp; rfl)); intro gb230 hg w11 hbox hb; have n0_ := Aside0.mk (Kd.R_below (Kd.R_elderB (by (with_reducible repeat (first | apply Kd.R_alloc | apply Kd.R_drewN | apply Kd.R_drew)); exact HO_4.out) gb230 (Nat.le_of_eq hg.symm)) hb); have n1_ := Aside0.mk (Kd.R_below (Kd.R_elderB (by (with_reducible repeat (first | apply Kd.R_alloc | apply Kd.R_drewN | apply Kd.R_drew)); exact HO_12.out) gb230 (Nat.le_of_eq hg.symm)) hb); have n2_ := Aside0.mk (below_step (by repeat (first | (with_reducible first | exact HB.out | apply below_alloc | apply pw_below_drewN | apply below_drew1) | exact HB.out)) hb); have n3_ := Aside0.mk (hbox); have n4_ := Aside0.mk ((by rw [hg]; exact (below_size (by repeat (first | (with_reducible first | exact HB.out | apply below_alloc | apply pw_below_drewN | apply below_drew1) | exact HB.out))) : w.heap.size ≤ gb230)); have n5_ := Aside0.mk ((by rw [hg]; exact (below_size (by repeat (first | (with_reducible first | exact HB.out | apply below_alloc | apply pw_below_drewN | apply below_drew1) | exact HB.out))) : w.heap.size ≤ gb230)); clear HO_4; clear HO_12; clear HB; have HO_4 := n0_; have HO_12 := n1_; have HB := n2_; have BK230 := n3_; have GW230 := n4_; have GE230 := n5_; clear n0_ n1_ n2_ n3_ n4_ n5_; clear hb hbox hg; have hcz12_0 : w11.cell? ⟨gb230, 0, none⟩ = some (.int .u8 0) := (blk_cell BK230.out 0).trans rfl; have hcz12_1 : w11.cell? ⟨gb230, 1, none⟩ = some (.int .u32 0) := (blk_cell BK230.out 1).trans rfl; have hcz12_2 : w11.cell? ⟨gb230, 2, none⟩ = some (.int .u32 0) := (blk_cell BK230.out 2).trans rfl; have hfz12_0 := blk_frozen BK230.out 0; have hfz12_1 := blk_frozen BK230.out 1; have hfz12_2 := blk_frozen BK230.out 2; obtain ⟨Ao13, co13, eo13⟩ := Kd.R_slice HO_4.out; subst eo13))
            (try simp only [Act.put, List.setIfInBounds_toArray, List.set_cons_zero, List.set_cons_succ])
            go_cut [21] (fun v21 wc => ∃ (kq : Nat) (x21_9 : Bool), v21 = .bool x21_9 ∧ Aside0 (know_merged.j1 kq x4_1 (wrap64 ((x4_1.length : Int) - 1)) t228 (t225.length : Int) x14_1 x21_9 ((rd_T65 t228 x14_1).f0) ((rd_T65 t228 x14_1).f1) ((rd_T65 t228 x14_1).f2) = some (r1, r2)) ∧ Aside0 (kq ≤ k1) ∧ Aside0 (Kd.R k65 65 wc w.heap.size (fun k_ => some k_ ≠ ((.slice (some ad229) t228.length co5) : Value).ownBlock ∧ k_ ≠ gb230) (.slice Ao13 x4_1.length co13) x4_1) ∧ Aside0 (Kd.R k65 65 wc w.heap.size (fun k_ => some k_ ≠ ((.slice Ao13 x4_1.length co13) : Value).ownBlock ∧ k_ ≠ gb230) (.slice (some ad229) t228.length co5) t228) ∧ Aside0 (wc.heap[gb230]? = some (.cells #[.int .u8 ((rd_T65 t228 x14_1).f0), .int .u32 ((rd_T65 t228 x14_1).f1), .int .u32 ((rd_T65 t228 x14_1).f2)] 65 (0, 0))) ∧ Aside0 (Below w.heap.size w wc))
            case first =>
              have H := HC10.out
              clear HC10
              by_cases c14 : (wrap64 ((x4_1.length : Int) - 1)) ≥ 0
              · rw [if_pos c14] at H
                have c14b0 : decide (0 ≤ (wrap64 ((x4_1.length : Int) - 1))) = true := decide_eq_true c14
                clear c14
                (first | rw [c14b0] | (simp only [i64_w, i32_w]; rw [c14b0]) | skip)
                obtain ⟨ji15, hji15⟩ : ∃ j_ : Int, (wrap64 ((x4_1.length : Int) - 1)) = j_ := ⟨_, rfl⟩
                replace H : (if 0 ≤ (ji15) then (if (ji15) < (x4_1.length : Int) then ((know_apart.f ((rd_T65 x4_1 (ji15)).f0) ((rd_T65 x4_1 (ji15)).f1) ((rd_T65 x4_1 (ji15)).f2) ((rd_T65 t228 x14_1).f0) ((rd_T65 t228 x14_1).f1) ((rd_T65 t228 x14_1).f2)).bind fun t232 => (know_merged.j1 k1 x4_1 ji15 t228 (t225.length : Int) x14_1 (!t232) ((rd_T65 t228 x14_1).f0) ((rd_T65 t228 x14_1).f1) ((rd_T65 t228 x14_1).f2))) else (none)) else (none)) = some (r1, r2) := by first | (rw [hji15] at H; exact H) | (simp only [hji15] at H ⊢; exact H)
                (try rw [hji15] at c14b0)
                have hji15w : (IntKind.i64.wrap ((x4_1.length : Int) - 1)) = ji15 := (i64_w _).trans hji15
                by_cases c16 : 0 ≤ (ji15)
                · rw [if_pos c16] at H
                  have c16b0 : decide (0 ≤ (ji15)) = true := decide_eq_true c16
                  clear c16
                  by_cases c17 : (ji15) < (x4_1.length : Int)
                  · rw [if_pos c17] at H
                    have c17b0 : decide ((ji15) < (x4_1.length : Int)) = true := decide_eq_true c17
                    clear c17
                    replace H := Option.bind_eq_some_iff.mp H
                    obtain ⟨t232, A180, H⟩ := H
                    replace H : (know_merged.j1 k1 x4_1 ji15 t228 (t225.length : Int) x14_1 (!t232) ((rd_T65 t228 x14_1).f0) ((rd_T65 t228 x14_1).f1) ((rd_T65 t228 x14_1).f2)) = some (r1, r2) := H
                    have A18 := Aside0.mk A180
                    clear A180
                    have H' := Aside0.mk H
                    clear H
                    try go_wp2
                    have n0_ : Aside0 (Kd.R k65 65 (((w11.setCell ⟨gb230, 0, none⟩ (.int .u8 ((rd_T65 t228 x14_1).f0))).setCell ⟨gb230, 1, none⟩ (.int .u32 ((rd_T65 t228 x14_1).f1))).setCell ⟨gb230, 2, none⟩ (.int .u32 ((rd_T65 t228 x14_1).f2))) w.heap.size (fun k_ => some k_ ≠ (.slice (some ad229) t228.length co5 : Value).ownBlock ∧ k_ ≠ gb230) (.slice Ao13 x4_1.length co13) x4_1) := ⟨by (with_reducible repeat (first | apply Kd.R_alloc | apply Kd.R_drewN | apply Kd.R_drew)); exact Kd.R_mono (Kd.R_far (p := ⟨gb230, 2, none⟩) (Kd.R_far (p := ⟨gb230, 1, none⟩) (Kd.R_far (p := ⟨gb230, 0, none⟩) (Kd.R_mono HO_4.out (fun k_ hk => (⟨hk, hk.2⟩ : _ ∧ k_ ≠ gb230))) (fun _ hk => hk.2) (.int .u8 ((rd_T65 t228 x14_1).f0))) (fun _ hk => hk.2) (.int .u32 ((rd_T65 t228 x14_1).f1))) (fun _ hk => hk.2) (.int .u32 ((rd_T65 t228 x14_1).f2))) (fun _ hk => ⟨hk.1.1, hk.1.2⟩)⟩
                    have n1_ : Aside0 (Kd.R k65 65 (((w11.setCell ⟨gb230, 0, none⟩ (.int .u8 ((rd_T65 t228 x14_1).f0))).setCell ⟨gb230, 1, none⟩ (.int .u32 ((rd_T65 t228 x14_1).f1))).setCell ⟨gb230, 2, none⟩ (.int .u32 ((rd_T65 t228 x14_1).f2))) w.heap.size (fun k_ => some k_ ≠ (.slice Ao13 x4_1.length co13 : Value).ownBlock ∧ k_ ≠ gb230) (.slice (some ad229) t228.length co5) t228) := ⟨by (with_reducible repeat (first | apply Kd.R_alloc | apply Kd.R_drewN | apply Kd.R_drew)); exact Kd.R_mono (Kd.R_far (p := ⟨gb230, 2, none⟩) (Kd.R_far (p := ⟨gb230, 1, none⟩) (Kd.R_far (p := ⟨gb230, 0, none⟩) (Kd.R_mono HO_12.out (fun k_ hk => (⟨hk, hk.2⟩ : _ ∧ k_ ≠ gb230))) (fun _ hk => hk.2) (.int .u8 ((rd_T65 t228 x14_1).f0))) (fun _ hk => hk.2) (.int .u32 ((rd_T65 t228 x14_1).f1))) (fun _ hk => hk.2) (.int .u32 ((rd_T65 t228 x14_1).f2))) (fun _ hk => ⟨hk.1.1, hk.1.2⟩)⟩
                    have n2_ : Aside0 ((((w11.setCell ⟨gb230, 0, none⟩ (.int .u8 ((rd_T65 t228 x14_1).f0))).setCell ⟨gb230, 1, none⟩ (.int .u32 ((rd_T65 t228 x14_1).f1))).setCell ⟨gb230, 2, none⟩ (.int .u32 ((rd_T65 t228 x14_1).f2))).heap[gb230]? = some (.cells #[.int .u8 ((rd_T65 t228 x14_1).f0), .int .u32 ((rd_T65 t228 x14_1).f1), .int .u32 ((rd_T65 t228 x14_1).f2)] 65 (0, 0))) := ⟨by (with_reducible repeat (first | refine blk_drewN ?_ _ | refine blk_drew ?_ | refine blk_alloc ?_ _)); refine blk_put (cs := #[.int .u8 ((rd_T65 t228 x14_1).f0), .int .u32 ((rd_T65 t228 x14_1).f1), .int .u32 0]) ?_ 2 _ rfl; (with_reducible repeat (first | refine blk_drewN ?_ _ | refine blk_drew ?_ | refine blk_alloc ?_ _)); refine blk_put (cs := #[.int .u8 ((rd_T65 t228 x14_1).f0), .int .u32 0, .int .u32 0]) ?_ 1 _ rfl; (with_reducible repeat (first | refine blk_drewN ?_ _ | refine blk_drew ?_ | refine blk_alloc ?_ _)); refine blk_put (cs := #[.int .u8 0, .int .u32 0, .int .u32 0]) ?_ 0 _ rfl; (with_reducible repeat (first | refine blk_drewN ?_ _ | refine blk_drew ?_ | refine blk_alloc ?_ _)); exact BK230.out⟩
                    have n3_ : Aside0 (Below w.heap.size w (((w11.setCell ⟨gb230, 0, none⟩ (.int .u8 ((rd_T65 t228 x14_1).f0))).setCell ⟨gb230, 1, none⟩ (.int .u32 ((rd_T65 t228 x14_1).f1))).setCell ⟨gb230, 2, none⟩ (.int .u32 ((rd_T65 t228 x14_1).f2)))) := ⟨by repeat (first | (with_reducible first | exact HB.out | apply below_alloc | apply pw_below_drewN | apply below_drew1 | refine below_set ?_ GE230.out) | exact HB.out)⟩
                    (try clear HO_4)
                    (try clear HO_12)
                    (try clear BK230)
                    (try clear HB)
                    generalize (((w11.setCell ⟨gb230, 0, none⟩ (.int .u8 ((rd_T65 t228 x14_1).f0))).setCell ⟨gb230, 1, none⟩ (.int .u32 ((rd_T65 t228 x14_1).f1))).setCell ⟨gb230, 2, none⟩ (.int .u32 ((rd_T65 t228 x14_1).f2))) = w19 at n0_ n1_ n2_ n3_ ⊢
                    have HO_4 := n0_
                    have HO_12 := n1_
                    have BK230 := n2_
                    have HB := n3_
                    clear n0_ n1_ n2_ n3_
                    have n0_ := Aside0.mk (Kd.R_drew HO_4.out)
                    have n1_ := Aside0.mk (Kd.R_drew HO_12.out)
                    have n2_ := Aside0.mk (blk_drew BK230.out)
                    have n3_ := Aside0.mk (below_drew1 HB.out)
                    clear HO_4
                    clear HO_12
                    clear BK230
                    clear HB
                    have HO_4 := n0_
                    have HO_12 := n1_
                    have BK230 := n2_
                    have HB := n3_
                    clear n0_ n1_ n2_ n3_
                    have p231 : 0 ≤ ((ji15) : Int) := of_decide_eq_true (by first | (with_reducible assumption) | assumption)
                    have q231 : (ji15) < (x4_1.length : Int) := of_decide_eq_true (by first | (with_reducible assumption) | assumption)
                    obtain ⟨ad231, e231, hx231_0, hx231_1, hx231_2⟩ := at_T65 (Kd.R_reads' HO_4.out).2.2 (ji15) p231 q231
                    cases e231
                    replace p231 := eq_true p231
                    replace q231 := eq_true q231
                    refine start_ (n := 12) (S := fun w' => w'.cell? ⟨gb230, 0, none⟩ = some (.int .u8 ((rd_T65 t228 x14_1).f0)) ∧ w'.cell? ⟨gb230, 1, none⟩ = some (.int .u32 ((rd_T65 t228 x14_1).f1)) ∧ w'.cell? ⟨gb230, 2, none⟩ = some (.int .u32 ((rd_T65 t228 x14_1).f2)) ∧ w'.cell? (ad231.add (((ji15)).toNat * 3)) = some (.int .u8 ((rd_T65 x4_1 (ji15)).f0)) ∧ w'.cell? ⟨(ad231.add (((ji15)).toNat * 3)).block, (ad231.add (((ji15)).toNat * 3)).off + 1, none⟩ = some (.int .u32 ((rd_T65 x4_1 (ji15)).f1)) ∧ w'.cell? ⟨(ad231.add (((ji15)).toNat * 3)).block, (ad231.add (((ji15)).toNat * 3)).off + 2, none⟩ = some (.int .u32 ((rd_T65 x4_1 (ji15)).f2))) (ds := []) #[false, false, false, false, false, false, false, false, false, false, false, false] (by kernel_rfl) rfl rfl ⟨(blk_cell BK230.out 0).trans rfl, (blk_cell BK230.out 1).trans rfl, (blk_cell BK230.out 2).trans rfl, hx231_0, hx231_1, hx231_2⟩ (fun hHeld => ?_); refine with_tabW know_merged.tab8 know_merged.bits8 (fun HT_ HW_ => ?_)
                    generalize w19.drew = w20 at HO_4 HO_12 BK230 HB hx231_0 hx231_1 hx231_2 hHeld ⊢
                    refine pure_ (i := 0) (N := some 22) (v := ?_) (a' := ?_) #[true, false, false, false, false, false, false, false, false, false, false, false] rfl rfl (any_of HT_.out (by kernel_rfl)) (fun _ _ _ h => h) (Or.inl ⟨by rfl, ?_⟩) ?_ ?_
                    rotate_left
                    · intro w'
                      go_simp
                      with_reducible rfl
                    rotate_left
                    · simp only [Act.put, List.setIfInBounds_toArray, List.set_cons_zero, List.set_cons_succ, i64_w, i32_w]
                      rfl
                    refine pure_ (i := 1) (N := some 23) (v := ?_) (a' := ?_) #[true, true, false, false, false, false, false, false, false, false, false, false] rfl rfl (any_of HT_.out (by kernel_rfl)) (fun _ _ _ h => h) (Or.inl ⟨by rfl, ?_⟩) ?_ ?_
                    rotate_left
                    · intro w'
                      go_simp
                      with_reducible rfl
                    rotate_left
                    · simp only [Act.put, List.setIfInBounds_toArray, List.set_cons_zero, List.set_cons_succ, i64_w, i32_w]
                      rfl
                    refine pure_ (i := 2) (N := some 24) (v := ?_) (a' := ?_) #[true, true, true, false, false, false, false, false, false, false, false, false] rfl rfl (any_of HT_.out (by kernel_rfl)) (fun _ _ _ h => h) (Or.inl ⟨by rfl, ?_⟩) ?_ ?_
                    rotate_left
                    · intro w'
                      go_simp
                      with_reducible rfl
                    rotate_left
                    · simp only [Act.put, List.setIfInBounds_toArray, List.set_cons_zero, List.set_cons_succ, i64_w, i32_w]
                      rfl
                    refine pure_ (i := 3) (N := some 25) (v := ?_) (a' := ?_) #[true, true, true, true, false, false, false, false, false, false, false, false] rfl rfl (any_of HT_.out (by kernel_rfl)) (fun _ _ _ h => h) (Or.inl ⟨by rfl, ?_⟩) ?_ ?_
                    rotate_left
                    · intro w'
                      go_simp
                      with_reducible rfl
                    rotate_left
                    · simp only [Act.put, List.setIfInBounds_toArray, List.set_cons_zero, List.set_cons_succ, i64_w, i32_w]
                      rfl
                    refine pure_ (i := 4) (N := some 26) (v := ?_) (a' := ?_) #[true, true, true, true, true, false, false, false, false, false, false, false] rfl rfl (any_of HT_.out (by kernel_rfl)) (fun _ _ _ h => h) (Or.inl ⟨by rfl, ?_⟩) ?_ ?_
                    rotate_left
                    · intro w'
                      go_simp
                      with_reducible rfl
                    rotate_left
                    · simp only [Act.put, List.setIfInBounds_toArray, List.set_cons_zero, List.set_cons_succ, i64_w, i32_w]
                      rfl
                    refine pure_ (i := 5) (N := some 27) (v := ?_) (a' := ?_) #[true, true, true, true, true, true, false, false, false, false, false, false] rfl rfl (any_of HT_.out (by kernel_rfl)) (fun _ _ _ h => h) (Or.inl ⟨by rfl, ?_⟩) ?_ ?_
                    rotate_left
                    · intro w'
                      go_simp
                      with_reducible rfl
                    rotate_left
                    · simp only [Act.put, List.setIfInBounds_toArray, List.set_cons_zero, List.set_cons_succ, i64_w, i32_w]
                      rfl
                    refine take_ (i := 6) (N := some 28) (v := ?_) (a' := ?_) #[true, true, true, true, true, true, true, false, false, false, false, false] rfl rfl (take_ofW HT_.out HW_.out (by kernel_rfl)) (fun _ _ _ h => h) (Or.inl ⟨by rfl, ?_⟩) hHeld ?_ ?_
                    rotate_left
                    · rintro w' ⟨s0, s1, s2, s3, s4, s5⟩
                      go_simp
                      with_reducible rfl
                    rotate_left
                    · simp only [Act.put, List.setIfInBounds_toArray, List.set_cons_zero, List.set_cons_succ, i64_w, i32_w]
                      rfl
                    refine take_ (i := 7) (N := some 29) (v := ?_) (a' := ?_) #[true, true, true, true, true, true, true, true, false, false, false, false] rfl rfl (take_ofW HT_.out HW_.out (by kernel_rfl)) (fun _ _ _ h => h) (Or.inl ⟨by rfl, ?_⟩) hHeld ?_ ?_
                    rotate_left
                    · rintro w' ⟨s0, s1, s2, s3, s4, s5⟩
                      go_simp
                      with_reducible rfl
                    rotate_left
                    · simp only [Act.put, List.setIfInBounds_toArray, List.set_cons_zero, List.set_cons_succ, i64_w, i32_w]
                      rfl
                    refine one_ (i := 8) (N := some 30) #[true, true, true, true, true, true, true, true, true, false, false, false] rfl rfl (one_of HT_.out (by kernel_rfl)) (by decide) (fun K hK => ?_)
                    refine goes_ Tryd.func43 (by kernel_rfl) rfl #[.agg #[.int .u8 ((rd_T65 x4_1 (ji15)).f0), .int .u32 ((rd_T65 x4_1 (ji15)).f1), .int .u32 ((rd_T65 x4_1 (ji15)).f2)], .agg #[.int .u8 ((rd_T65 t228 x14_1).f0), .int .u32 ((rd_T65 t228 x14_1).f1), .int .u32 ((rd_T65 t228 x14_1).f2)]] (by rfl) rfl rfl (by (try simp only [List.map_toArray, List.map_cons, List.map_nil]); first | done | (simp only [hji15]; rfl) | rfl | (simp only [List.length_drop, List.length_take]; rfl)) ?_
                    with_reducible refine (know_apart.calls ((rd_T65 x4_1 (ji15)).f0) ((rd_T65 x4_1 (ji15)).f1) ((rd_T65 x4_1 (ji15)).f2) ((rd_T65 t228 x14_1).f0) ((rd_T65 t228 x14_1).f1) ((rd_T65 t228 x14_1).f2) t232 _ A18.out).mono ?_
                    rintro e w21 ⟨rfl, hb⟩
                    have HS3_ := (hb.cell (World.block_lt_of_cell? _ _ (hHeld.2.2.2.1))).trans (hHeld.2.2.2.1)
                    have HS4_ := (hb.cell (World.block_lt_of_cell? _ _ (hHeld.2.2.2.2.1))).trans (hHeld.2.2.2.2.1)
                    have HS5_ := (hb.cell (World.block_lt_of_cell? _ _ (hHeld.2.2.2.2.2))).trans (hHeld.2.2.2.2.2)
                    refine ⟨_, rfl, ?_⟩
                    have n0_ := Aside0.mk (Kd.R_below (by (with_reducible repeat (first | apply Kd.R_alloc | apply Kd.R_drewN | apply Kd.R_drew)); exact HO_4.out) hb)
                    have n1_ := Aside0.mk (Kd.R_below (by (with_reducible repeat (first | apply Kd.R_alloc | apply Kd.R_drewN | apply Kd.R_drew)); exact HO_12.out) hb)
                    have n2_ := Aside0.mk (blk_below (g := gb230) (o := .cells #[.int .u8 ((rd_T65 t228 x14_1).f0), .int .u32 ((rd_T65 t228 x14_1).f1), .int .u32 ((rd_T65 t228 x14_1).f2)] 65 (0, 0)) (by (with_reducible repeat (first | refine blk_drewN ?_ _ | refine blk_drew ?_ | refine blk_alloc ?_ _)); exact BK230.out) hb)
                    have n3_ := Aside0.mk (below_step (by repeat (first | (with_reducible first | exact HB.out | apply below_alloc | apply pw_below_drewN | apply below_drew1 | refine below_set ?_ GE230.out) | exact HB.out)) hb)
                    clear HO_4
                    clear HO_12
                    clear BK230
                    clear HB
                    have HO_4 := n0_
                    have HO_12 := n1_
                    have BK230 := n2_
                    have HB := n3_
                    clear n0_ n1_ n2_ n3_
                    (try clear hb)
                    (try clear hb2)
                    (try clear hk)
                    (try clear hi)
                    refine hK.out _ _ ⟨(blk_cell BK230.out 0).trans rfl, (blk_cell BK230.out 1).trans rfl, (blk_cell BK230.out 2).trans rfl, HS3_, HS4_, HS5_⟩ (fun hHeld => ?_)
                    clear hK K
                    refine norm_ (a' := ?_) ?_ ?_
                    rotate_left
                    · show Act.put _ (some 30) _ = _
                      simp only [Act.put, List.setIfInBounds_toArray, List.set_cons_zero, List.set_cons_succ, i64_w, i32_w]
                      rfl
                    refine pure_ (i := 9) (N := some 31) (v := ?_) (a' := ?_) #[true, true, true, true, true, true, true, true, true, true, false, false] rfl rfl (any_of HT_.out (by kernel_rfl)) (fun _ _ _ h => h) (Or.inl ⟨by rfl, ?_⟩) ?_ ?_
                    rotate_left
                    · intro w'
                      go_simp
                      with_reducible rfl
                    rotate_left
                    · simp only [Act.put, List.setIfInBounds_toArray, List.set_cons_zero, List.set_cons_succ, i64_w, i32_w]
                      rfl
                    refine pure_ (i := 10) (N := some 32) (v := ?_) (a' := ?_) #[true, true, true, true, true, true, true, true, true, true, true, false] rfl rfl (any_of HT_.out (by kernel_rfl)) (fun _ _ _ h => h) (Or.inl ⟨by rfl, ?_⟩) ?_ ?_
                    rotate_left
                    · intro w'
                      go_simp
                      with_reducible rfl
                    rotate_left
                    · simp only [Act.put, List.setIfInBounds_toArray, List.set_cons_zero, List.set_cons_succ, i64_w, i32_w]
                      rfl
                    refine pure_ (i := 11) (N := some 21) (v := ?_) (a' := ?_) #[true, true, true, true, true, true, true, true, true, true, true, true] rfl rfl (any_of HT_.out (by kernel_rfl)) (fun _ _ _ h => h) (Or.inl ⟨by rfl, ?_⟩) ?_ ?_
                    rotate_left
                    · intro w'
                      go_simp
                      with_reducible rfl
                    rotate_left
                    · simp only [Act.put, List.setIfInBounds_toArray, List.set_cons_zero, List.set_cons_succ, i64_w, i32_w]
                      rfl
                    refine done_ (done_of HT_.out (by kernel_rfl)) ?_
                    try go_wp2
                    go_meet
                    case rel => exact ⟨_, (!t232), (by first | rfl | (simp; done) | (simp [*]; done)), (by first | exact H' | (rw [hji15]; exact H')), ⟨by have := HK1.out; first | omega | exact Nat.le_refl _⟩, ⟨by (try simp only [hl12_1]); (with_reducible repeat (first | apply Kd.R_alloc | apply Kd.R_drewN | apply Kd.R_drew)); exact HO_4.out⟩, ⟨by (try simp only [hl12_1]); (with_reducible repeat (first | apply Kd.R_alloc | apply Kd.R_drewN | apply Kd.R_drew)); exact HO_12.out⟩, ⟨by (try simp only [hl12_1]); (with_reducible repeat (first | refine blk_drewN ?_ _ | refine blk_drew ?_ | refine blk_alloc ?_ _)); exact BK230.out⟩, ⟨by repeat (first | (with_reducible first | exact HB.out | apply below_alloc | apply pw_below_drewN | apply below_drew1 | refine below_set ?_ GE230.out) | exact HB.out)⟩⟩
                  · rw [if_neg c17] at H
                    exact absurd H (by simp)
                · rw [if_neg c16] at H
                  exact absurd H (by simp)
              · rw [if_neg c14] at H
                have c14b0 : decide (0 ≤ (wrap64 ((x4_1.length : Int) - 1))) = false := decide_eq_false c14
                clear c14
                (first | rw [c14b0] | (simp only [i64_w, i32_w]; rw [c14b0]) | skip)
                have H' := Aside0.mk H
                clear H
                try go_wp2
                have n0_ : Aside0 (Kd.R k65 65 (((w11.setCell ⟨gb230, 0, none⟩ (.int .u8 ((rd_T65 t228 x14_1).f0))).setCell ⟨gb230, 1, none⟩ (.int .u32 ((rd_T65 t228 x14_1).f1))).setCell ⟨gb230, 2, none⟩ (.int .u32 ((rd_T65 t228 x14_1).f2))) w.heap.size (fun k_ => some k_ ≠ (.slice (some ad229) t228.length co5 : Value).ownBlock ∧ k_ ≠ gb230) (.slice Ao13 x4_1.length co13) x4_1) := ⟨by (with_reducible repeat (first | apply Kd.R_alloc | apply Kd.R_drewN | apply Kd.R_drew)); exact Kd.R_mono (Kd.R_far (p := ⟨gb230, 2, none⟩) (Kd.R_far (p := ⟨gb230, 1, none⟩) (Kd.R_far (p := ⟨gb230, 0, none⟩) (Kd.R_mono HO_4.out (fun k_ hk => (⟨hk, hk.2⟩ : _ ∧ k_ ≠ gb230))) (fun _ hk => hk.2) (.int .u8 ((rd_T65 t228 x14_1).f0))) (fun _ hk => hk.2) (.int .u32 ((rd_T65 t228 x14_1).f1))) (fun _ hk => hk.2) (.int .u32 ((rd_T65 t228 x14_1).f2))) (fun _ hk => ⟨hk.1.1, hk.1.2⟩)⟩
                have n1_ : Aside0 (Kd.R k65 65 (((w11.setCell ⟨gb230, 0, none⟩ (.int .u8 ((rd_T65 t228 x14_1).f0))).setCell ⟨gb230, 1, none⟩ (.int .u32 ((rd_T65 t228 x14_1).f1))).setCell ⟨gb230, 2, none⟩ (.int .u32 ((rd_T65 t228 x14_1).f2))) w.heap.size (fun k_ => some k_ ≠ (.slice Ao13 x4_1.length co13 : Value).ownBlock ∧ k_ ≠ gb230) (.slice (some ad229) t228.length co5) t228) := ⟨by (with_reducible repeat (first | apply Kd.R_alloc | apply Kd.R_drewN | apply Kd.R_drew)); exact Kd.R_mono (Kd.R_far (p := ⟨gb230, 2, none⟩) (Kd.R_far (p := ⟨gb230, 1, none⟩) (Kd.R_far (p := ⟨gb230, 0, none⟩) (Kd.R_mono HO_12.out (fun k_ hk => (⟨hk, hk.2⟩ : _ ∧ k_ ≠ gb230))) (fun _ hk => hk.2) (.int .u8 ((rd_T65 t228 x14_1).f0))) (fun _ hk => hk.2) (.int .u32 ((rd_T65 t228 x14_1).f1))) (fun _ hk => hk.2) (.int .u32 ((rd_T65 t228 x14_1).f2))) (fun _ hk => ⟨hk.1.1, hk.1.2⟩)⟩
                have n2_ : Aside0 ((((w11.setCell ⟨gb230, 0, none⟩ (.int .u8 ((rd_T65 t228 x14_1).f0))).setCell ⟨gb230, 1, none⟩ (.int .u32 ((rd_T65 t228 x14_1).f1))).setCell ⟨gb230, 2, none⟩ (.int .u32 ((rd_T65 t228 x14_1).f2))).heap[gb230]? = some (.cells #[.int .u8 ((rd_T65 t228 x14_1).f0), .int .u32 ((rd_T65 t228 x14_1).f1), .int .u32 ((rd_T65 t228 x14_1).f2)] 65 (0, 0))) := ⟨by (with_reducible repeat (first | refine blk_drewN ?_ _ | refine blk_drew ?_ | refine blk_alloc ?_ _)); refine blk_put (cs := #[.int .u8 ((rd_T65 t228 x14_1).f0), .int .u32 ((rd_T65 t228 x14_1).f1), .int .u32 0]) ?_ 2 _ rfl; (with_reducible repeat (first | refine blk_drewN ?_ _ | refine blk_drew ?_ | refine blk_alloc ?_ _)); refine blk_put (cs := #[.int .u8 ((rd_T65 t228 x14_1).f0), .int .u32 0, .int .u32 0]) ?_ 1 _ rfl; (with_reducible repeat (first | refine blk_drewN ?_ _ | refine blk_drew ?_ | refine blk_alloc ?_ _)); refine blk_put (cs := #[.int .u8 0, .int .u32 0, .int .u32 0]) ?_ 0 _ rfl; (with_reducible repeat (first | refine blk_drewN ?_ _ | refine blk_drew ?_ | refine blk_alloc ?_ _)); exact BK230.out⟩
                have n3_ : Aside0 (Below w.heap.size w (((w11.setCell ⟨gb230, 0, none⟩ (.int .u8 ((rd_T65 t228 x14_1).f0))).setCell ⟨gb230, 1, none⟩ (.int .u32 ((rd_T65 t228 x14_1).f1))).setCell ⟨gb230, 2, none⟩ (.int .u32 ((rd_T65 t228 x14_1).f2)))) := ⟨by repeat (first | (with_reducible first | exact HB.out | apply below_alloc | apply pw_below_drewN | apply below_drew1 | refine below_set ?_ GE230.out) | exact HB.out)⟩
                (try clear HO_4)
                (try clear HO_12)
                (try clear BK230)
                (try clear HB)
                generalize (((w11.setCell ⟨gb230, 0, none⟩ (.int .u8 ((rd_T65 t228 x14_1).f0))).setCell ⟨gb230, 1, none⟩ (.int .u32 ((rd_T65 t228 x14_1).f1))).setCell ⟨gb230, 2, none⟩ (.int .u32 ((rd_T65 t228 x14_1).f2))) = w22 at n0_ n1_ n2_ n3_ ⊢
                have HO_4 := n0_
                have HO_12 := n1_
                have BK230 := n2_
                have HB := n3_
                clear n0_ n1_ n2_ n3_
                have n0_ := Aside0.mk (Kd.R_drew HO_4.out)
                have n1_ := Aside0.mk (Kd.R_drew HO_12.out)
                have n2_ := Aside0.mk (blk_drew BK230.out)
                have n3_ := Aside0.mk (below_drew1 HB.out)
                clear HO_4
                clear HO_12
                clear BK230
                clear HB
                have HO_4 := n0_
                have HO_12 := n1_
                have BK230 := n2_
                have HB := n3_
                clear n0_ n1_ n2_ n3_
                refine start_ (n := 12) (S := fun w' => True) (ds := []) #[false, false, false, false, false, false, false, false, false, false, false, false] (by kernel_rfl) rfl rfl trivial (fun hHeld => ?_); refine with_tabW know_merged.tab8 know_merged.bits8 (fun HT_ HW_ => ?_)
                generalize w22.drew = w23 at HO_4 HO_12 BK230 HB hHeld ⊢
                refine pure_ (i := 0) (N := some 22) (v := ?_) (a' := ?_) #[true, false, false, false, false, false, false, false, false, false, false, false] rfl rfl (any_of HT_.out (by kernel_rfl)) (fun _ _ _ h => h) (Or.inl ⟨by rfl, ?_⟩) ?_ ?_
                rotate_left
                · intro w'
                  go_simp
                  with_reducible rfl
                rotate_left
                · simp only [Act.put, List.setIfInBounds_toArray, List.set_cons_zero, List.set_cons_succ, i64_w, i32_w]
                  rfl
                refine pure_ (i := 1) (N := some 23) (v := ?_) (a' := ?_) #[true, true, false, false, false, false, false, false, false, false, false, false] rfl rfl (any_of HT_.out (by kernel_rfl)) (fun _ _ _ h => h) (Or.inl ⟨by rfl, ?_⟩) ?_ ?_
                rotate_left
                · intro w'
                  go_simp
                  with_reducible rfl
                rotate_left
                · simp only [Act.put, List.setIfInBounds_toArray, List.set_cons_zero, List.set_cons_succ, i64_w, i32_w]
                  rfl
                refine pure_ (i := 2) (N := some 24) (v := ?_) (a' := ?_) #[true, true, true, false, false, false, false, false, false, false, false, false] rfl rfl (any_of HT_.out (by kernel_rfl)) (fun _ _ _ h => h) (Or.inl ⟨by rfl, ?_⟩) ?_ ?_
                rotate_left
                · intro w'
                  go_simp
                  with_reducible rfl
                rotate_left
                · simp only [Act.put, List.setIfInBounds_toArray, List.set_cons_zero, List.set_cons_succ, i64_w, i32_w]
                  rfl
                refine pure_ (i := 3) (N := some 25) (v := undef) (a' := ?_) #[true, true, true, true, false, false, false, false, false, false, false, false] rfl rfl (any_of HT_.out (by kernel_rfl)) (fun _ _ _ h => h) (Or.inr ⟨by rfl, rfl⟩) ?_ ?_
                rotate_left
                · simp only [Act.put, List.setIfInBounds_toArray, List.set_cons_zero, List.set_cons_succ, i64_w, i32_w]
                  rfl
                refine pure_ (i := 4) (N := some 26) (v := undef) (a' := ?_) #[true, true, true, true, true, false, false, false, false, false, false, false] rfl rfl (any_of HT_.out (by kernel_rfl)) (fun _ _ _ h => h) (Or.inr ⟨by rfl, rfl⟩) ?_ ?_
                rotate_left
                · simp only [Act.put, List.setIfInBounds_toArray, List.set_cons_zero, List.set_cons_succ, i64_w, i32_w]
                  rfl
                refine pure_ (i := 5) (N := some 27) (v := undef) (a' := ?_) #[true, true, true, true, true, true, false, false, false, false, false, false] rfl rfl (any_of HT_.out (by kernel_rfl)) (fun _ _ _ h => h) (Or.inr ⟨by rfl, rfl⟩) ?_ ?_
                rotate_left
                · simp only [Act.put, List.setIfInBounds_toArray, List.set_cons_zero, List.set_cons_succ, i64_w, i32_w]
                  rfl
                refine pure_ (i := 6) (N := some 28) (v := undef) (a' := ?_) #[true, true, true, true, true, true, true, false, false, false, false, false] rfl rfl (any_of HT_.out (by kernel_rfl)) (fun _ _ _ h => h) (Or.inr ⟨by rfl, rfl⟩) ?_ ?_
                rotate_left
                · simp only [Act.put, List.setIfInBounds_toArray, List.set_cons_zero, List.set_cons_succ, i64_w, i32_w]
                  rfl
                refine pure_ (i := 7) (N := some 29) (v := undef) (a' := ?_) #[true, true, true, true, true, true, true, true, false, false, false, false] rfl rfl (any_of HT_.out (by kernel_rfl)) (fun _ _ _ h => h) (Or.inr ⟨by rfl, rfl⟩) ?_ ?_
                rotate_left
                · simp only [Act.put, List.setIfInBounds_toArray, List.set_cons_zero, List.set_cons_succ, i64_w, i32_w]
                  rfl
                refine pure_ (i := 8) (N := some 30) (v := undef) (a' := ?_) #[true, true, true, true, true, true, true, true, true, false, false, false] rfl rfl (any_of HT_.out (by kernel_rfl)) (fun _ _ _ h => h) (Or.inr ⟨by rfl, rfl⟩) ?_ ?_
                rotate_left
                · simp only [Act.put, List.setIfInBounds_toArray, List.set_cons_zero, List.set_cons_succ, i64_w, i32_w]
                  rfl
                refine pure_ (i := 9) (N := some 31) (v := undef) (a' := ?_) #[true, true, true, true, true, true, true, true, true, true, false, false] rfl rfl (any_of HT_.out (by kernel_rfl)) (fun _ _ _ h => h) (Or.inr ⟨by rfl, rfl⟩) ?_ ?_
                rotate_left
                · simp only [Act.put, List.setIfInBounds_toArray, List.set_cons_zero, List.set_cons_succ, i64_w, i32_w]
                  rfl
                refine pure_ (i := 10) (N := some 32) (v := ?_) (a' := ?_) #[true, true, true, true, true, true, true, true, true, true, true, false] rfl rfl (any_of HT_.out (by kernel_rfl)) (fun _ _ _ h => h) (Or.inl ⟨by rfl, ?_⟩) ?_ ?_
                rotate_left
                · intro w'
                  go_simp
                  with_reducible rfl
                rotate_left
                · simp only [Act.put, List.setIfInBounds_toArray, List.set_cons_zero, List.set_cons_succ, i64_w, i32_w]
                  rfl
                refine pure_ (i := 11) (N := some 21) (v := ?_) (a' := ?_) #[true, true, true, true, true, true, true, true, true, true, true, true] rfl rfl (any_of HT_.out (by kernel_rfl)) (fun _ _ _ h => h) (Or.inl ⟨by rfl, ?_⟩) ?_ ?_
                rotate_left
                · intro w'
                  go_simp
                  with_reducible rfl
                rotate_left
                · simp only [Act.put, List.setIfInBounds_toArray, List.set_cons_zero, List.set_cons_succ, i64_w, i32_w]
                  rfl
                refine done_ (done_of HT_.out (by kernel_rfl)) ?_
                try go_wp2
                go_meet
                case rel => exact ⟨_, (false), (by first | rfl | (simp; done) | (simp [*]; done)), H', ⟨by have := HK1.out; first | omega | exact Nat.le_refl _⟩, ⟨by (try simp only [hl12_1]); (with_reducible repeat (first | apply Kd.R_alloc | apply Kd.R_drewN | apply Kd.R_drew)); exact HO_4.out⟩, ⟨by (try simp only [hl12_1]); (with_reducible repeat (first | apply Kd.R_alloc | apply Kd.R_drewN | apply Kd.R_drew)); exact HO_12.out⟩, ⟨by (try simp only [hl12_1]); (with_reducible repeat (first | refine blk_drewN ?_ _ | refine blk_drew ?_ | refine blk_alloc ?_ _)); exact BK230.out⟩, ⟨by repeat (first | (with_reducible first | exact HB.out | apply below_alloc | apply pw_below_drewN | apply below_drew1 | refine below_set ?_ GE230.out) | exact HB.out)⟩⟩
            case rest =>
              clear HC10
              try clear c1
              try clear p2
              try clear q2
              try clear hx2
              try clear c4
              try clear c5
              try clear p6
              try clear c7
              try clear c7b0
              try clear c8
              try clear c8b0
              try clear c9
              try clear c9b0
              try clear c14
              try clear c14b0
              try clear c16
              try clear c16b0
              try clear c17
              try clear c17b0
              try clear p22
              try clear q22
              try clear hx22
              try clear p23
              try clear q23
              try clear hx23
              try clear hcz12_0
              try clear hcz12_1
              try clear hcz12_2
              try clear hfz12_0
              try clear hfz12_1
              try clear hfz12_2
              try clear hx229_0
              try clear hx229_1
              try clear hx229_2
              try clear hx231_0
              try clear hx231_1
              try clear hx231_2
              try clear p2
              try clear p229
              try clear p231
              try clear q229
              try clear q231
              obtain ⟨kq, x21_9, rfl, HA, HJ9, HO_4, HO_12, BK230, HB⟩ := hcut
              cases kq with
              | zero => exact absurd HA.out (by simp [know_merged.j1])
              | succ kj9 =>
                have H := HA.out
                clear HA
                simp only [know_merged.j1] at H
                by_cases c24 : x21_9 = true
                · subst c24
                  have H1 : (if 0 ≤ (wrap64 ((x4_1.length : Int) - 1)) then (if (wrap64 ((x4_1.length : Int) - 1)) < (x4_1.length : Int) then (if ((rd_T65 t228 x14_1).f2) ≤ ((rd_T65 x4_1 (wrap64 ((x4_1.length : Int) - 1))).f2) then (know_merged.l0 kj9 x4_1 t228 (t225.length : Int) (wrap64 (x14_1 + 1))) else (if (wrap64 ((x4_1.length : Int) - 1)) ≤ (x4_1.length : Int) then ((some (x4_1.take ((wrap64 ((x4_1.length : Int) - 1)) : Int).toNat : List (S65))).bind fun y235 => (if y235.length < 11728124029610 then (know_merged.l0 kj9 (y235 ++ [(⟨((rd_T65 t228 x14_1).f0), (rd_T65 x4_1 (wrap64 ((x4_1.length : Int) - 1))).f1, ((rd_T65 t228 x14_1).f2)⟩ : S65)]) t228 (t225.length : Int) (wrap64 (x14_1 + 1))) else (none))) else (none))) else (none)) else (none)) = some (r1, r2) := by rw [if_pos rfl] at H; exact H
                  clear H
                  have H := H1
                  clear H1
                  obtain ⟨ji25, hji25⟩ : ∃ j_ : Int, (wrap64 ((x4_1.length : Int) - 1)) = j_ := ⟨_, rfl⟩
                  replace H : (if 0 ≤ (ji25) then (if (ji25) < (x4_1.length : Int) then (if ((rd_T65 t228 x14_1).f2) ≤ ((rd_T65 x4_1 (ji25)).f2) then (know_merged.l0 kj9 x4_1 t228 (t225.length : Int) (wrap64 (x14_1 + 1))) else (if (ji25) ≤ (x4_1.length : Int) then ((some (x4_1.take ((ji25) : Int).toNat : List (S65))).bind fun y235 => (if y235.length < 11728124029610 then (know_merged.l0 kj9 (y235 ++ [(⟨((rd_T65 t228 x14_1).f0), (rd_T65 x4_1 (ji25)).f1, ((rd_T65 t228 x14_1).f2)⟩ : S65)]) t228 (t225.length : Int) (wrap64 (x14_1 + 1))) else (none))) else (none))) else (none)) else (none)) = some (r1, r2) := by first | (rw [hji25] at H; exact H) | (simp only [hji25] at H ⊢; exact H)
                  have hji25w : (IntKind.i64.wrap ((x4_1.length : Int) - 1)) = ji25 := (i64_w _).trans hji25
                  by_cases c26 : 0 ≤ (ji25)
                  · rw [if_pos c26] at H
                    have c26b0 : decide (0 ≤ (ji25)) = true := decide_eq_true c26
                    clear c26
                    by_cases c27 : (ji25) < (x4_1.length : Int)
                    · rw [if_pos c27] at H
                      have c27b0 : decide ((ji25) < (x4_1.length : Int)) = true := decide_eq_true c27
                      clear c27
                      by_cases c28 : ((rd_T65 t228 x14_1).f2) ≤ ((rd_T65 x4_1 (ji25)).f2)
                      · rw [if_pos c28] at H
                        have c28b0 : decide (((rd_T65 t228 x14_1).f2) ≤ ((rd_T65 x4_1 (ji25)).f2)) = true := decide_eq_true c28
                        clear c28
                        have H' := Aside0.mk H
                        clear H
                        try go_wp2
                        have n0_ := Aside0.mk (Kd.R_drew HO_4.out)
                        have n1_ := Aside0.mk (Kd.R_drew HO_12.out)
                        have n2_ := Aside0.mk (blk_drew BK230.out)
                        have n3_ := Aside0.mk (below_drew1 HB.out)
                        clear HO_4
                        clear HO_12
                        clear BK230
                        clear HB
                        have HO_4 := n0_
                        have HO_12 := n1_
                        have BK230 := n2_
                        have HB := n3_
                        clear n0_ n1_ n2_ n3_
                        have p233 : 0 ≤ ((ji25) : Int) := of_decide_eq_true (by first | (with_reducible assumption) | assumption)
                        have q233 : (ji25) < (x4_1.length : Int) := of_decide_eq_true (by first | (with_reducible assumption) | assumption)
                        obtain ⟨ad233, e233, hx233_0, hx233_1, hx233_2⟩ := at_T65 (Kd.R_reads' HO_4.out).2.2 (ji25) p233 q233
                        cases e233
                        replace p233 := eq_true p233
                        replace q233 := eq_true q233
                        refine start_ (n := 8) (S := fun w' => w'.cell? ⟨gb230, 0, none⟩ = some (.int .u8 ((rd_T65 t228 x14_1).f0)) ∧ w'.cell? ⟨gb230, 1, none⟩ = some (.int .u32 ((rd_T65 t228 x14_1).f1)) ∧ w'.cell? ⟨gb230, 2, none⟩ = some (.int .u32 ((rd_T65 t228 x14_1).f2)) ∧ w'.cell? (ad233.add (((ji25)).toNat * 3)) = some (.int .u8 ((rd_T65 x4_1 (ji25)).f0)) ∧ w'.cell? ⟨(ad233.add (((ji25)).toNat * 3)).block, (ad233.add (((ji25)).toNat * 3)).off + 1, none⟩ = some (.int .u32 ((rd_T65 x4_1 (ji25)).f1)) ∧ w'.cell? ⟨(ad233.add (((ji25)).toNat * 3)).block, (ad233.add (((ji25)).toNat * 3)).off + 2, none⟩ = some (.int .u32 ((rd_T65 x4_1 (ji25)).f2))) (ds := []) #[false, false, false, false, false, false, false, false] (by kernel_rfl) rfl rfl ⟨(blk_cell BK230.out 0).trans rfl, (blk_cell BK230.out 1).trans rfl, (blk_cell BK230.out 2).trans rfl, hx233_0, hx233_1, hx233_2⟩ (fun hHeld => ?_); refine with_tabW know_merged.tab9 know_merged.bits9 (fun HT_ HW_ => ?_)
                        generalize wc.drew = w29 at HO_4 HO_12 BK230 HB hx233_0 hx233_1 hx233_2 hHeld ⊢
                        refine pure_ (i := 0) (N := some 33) (v := ?_) (a' := ?_) #[true, false, false, false, false, false, false, false] rfl rfl (any_of HT_.out (by kernel_rfl)) (fun _ _ _ h => h) (Or.inl ⟨by rfl, ?_⟩) ?_ ?_
                        rotate_left
                        · intro w'
                          go_simp
                          with_reducible rfl
                        rotate_left
                        · simp only [Act.put, List.setIfInBounds_toArray, List.set_cons_zero, List.set_cons_succ, i64_w, i32_w]
                          rfl
                        refine pure_ (i := 2) (N := some 35) (v := ?_) (a' := ?_) #[true, false, true, false, false, false, false, false] rfl rfl (any_of HT_.out (by kernel_rfl)) (fun _ _ _ h => h) (Or.inl ⟨by rfl, ?_⟩) ?_ ?_
                        rotate_left
                        · intro w'
                          go_simp
                          with_reducible rfl
                        rotate_left
                        · simp only [Act.put, List.setIfInBounds_toArray, List.set_cons_zero, List.set_cons_succ, i64_w, i32_w]
                          rfl
                        refine pure_ (i := 3) (N := some 36) (v := ?_) (a' := ?_) #[true, false, true, true, false, false, false, false] rfl rfl (any_of HT_.out (by kernel_rfl)) (fun _ _ _ h => h) (Or.inl ⟨by rfl, ?_⟩) ?_ ?_
                        rotate_left
                        · intro w'
                          go_simp
                          with_reducible rfl
                        rotate_left
                        · simp only [Act.put, List.setIfInBounds_toArray, List.set_cons_zero, List.set_cons_succ, i64_w, i32_w]
                          rfl
                        refine pure_ (i := 4) (N := some 37) (v := ?_) (a' := ?_) #[true, false, true, true, true, false, false, false] rfl rfl (any_of HT_.out (by kernel_rfl)) (fun _ _ _ h => h) (Or.inl ⟨by rfl, ?_⟩) ?_ ?_
                        rotate_left
                        · intro w'
                          go_simp
                          with_reducible rfl
                        rotate_left
                        · simp only [Act.put, List.setIfInBounds_toArray, List.set_cons_zero, List.set_cons_succ, i64_w, i32_w]
                          rfl
                        refine pure_ (i := 5) (N := some 38) (v := ?_) (a' := ?_) #[true, false, true, true, true, true, false, false] rfl rfl (any_of HT_.out (by kernel_rfl)) (fun _ _ _ h => h) (Or.inl ⟨by rfl, ?_⟩) ?_ ?_
                        rotate_left
                        · intro w'
                          go_simp
                          with_reducible rfl
                        rotate_left
                        · simp only [Act.put, List.setIfInBounds_toArray, List.set_cons_zero, List.set_cons_succ, i64_w, i32_w]
                          rfl
                        refine take_ (i := 1) (N := some 34) (v := ?_) (a' := ?_) #[true, true, true, true, true, true, false, false] rfl rfl (take_ofW HT_.out HW_.out (by kernel_rfl)) (fun _ _ _ h => h) (Or.inl ⟨by rfl, ?_⟩) hHeld ?_ ?_
                        rotate_left
                        · rintro w' ⟨s0, s1, s2, s3, s4, s5⟩
                          go_simp
                          with_reducible rfl
                        rotate_left
                        · simp only [Act.put, List.setIfInBounds_toArray, List.set_cons_zero, List.set_cons_succ, i64_w, i32_w]
                          rfl
                        refine take_ (i := 6) (N := some 39) (v := ?_) (a' := ?_) #[true, true, true, true, true, true, true, false] rfl rfl (take_ofW HT_.out HW_.out (by kernel_rfl)) (fun _ _ _ h => h) (Or.inl ⟨by rfl, ?_⟩) hHeld ?_ ?_
                        rotate_left
                        · rintro w' ⟨s0, s1, s2, s3, s4, s5⟩
                          go_simp
                          with_reducible rfl
                        rotate_left
                        · simp only [Act.put, List.setIfInBounds_toArray, List.set_cons_zero, List.set_cons_succ, i64_w, i32_w]
                          rfl
                        refine pure_ (i := 7) (N := some 40) (v := ?_) (a' := ?_) #[true, true, true, true, true, true, true, true] rfl rfl (any_of HT_.out (by kernel_rfl)) (fun _ _ _ h => h) (Or.inl ⟨by rfl, ?_⟩) ?_ ?_
                        rotate_left
                        · intro w'
                          go_simp
                          with_reducible rfl
                        rotate_left
                        · simp only [Act.put, List.setIfInBounds_toArray, List.set_cons_zero, List.set_cons_succ, i64_w, i32_w]
                          rfl
                        refine done_ (done_of HT_.out (by kernel_rfl)) ?_
                        try go_wp2
                        (try simp only [← hl12_1])
                        go_roundg kj9
                        case measure => have := HK1.out; have := HJ9.out; omega
                        case rel => exact ⟨(x4_1), (wrap64 (x14_1 + 1)), (by first | rfl | (simp; done) | (simp [*]; done)), H', ⟨by have := HK1.out; have := HJ9.out; omega⟩, ⟨by (try simp only [hl12_1]); (with_reducible repeat (first | apply Kd.R_alloc | apply Kd.R_drewN | apply Kd.R_drew)); exact Kd.R_mono HO_4.out (fun _ hk => hk.1)⟩, ⟨by (try simp only [hl12_1]); (with_reducible repeat (first | apply Kd.R_alloc | apply Kd.R_drewN | apply Kd.R_drew)); exact Kd.R_mono HO_12.out (fun _ hk => hk.1)⟩, ⟨by repeat (first | (with_reducible first | exact HB.out | apply below_alloc | apply pw_below_drewN | apply below_drew1 | refine below_set ?_ GE230.out) | exact HB.out)⟩⟩
                      · rw [if_neg c28] at H
                        have c28b0 : decide (((rd_T65 t228 x14_1).f2) ≤ ((rd_T65 x4_1 (ji25)).f2)) = false := decide_eq_false c28
                        clear c28
                        by_cases c30 : (ji25) ≤ (x4_1.length : Int)
                        · rw [if_pos c30] at H
                          have c30b0 := eq_true c30
                          have c30b1 : decide ((ji25) ≤ (x4_1.length : Int)) = true := decide_eq_true c30
                          clear c30
                          obtain ⟨y235, hy235⟩ : ∃ y_ : List (S65), y_ = (x4_1.take ((ji25) : Int).toNat) := ⟨_, rfl⟩
                          replace H : (if y235.length < 11728124029610 then (know_merged.l0 kj9 (y235 ++ [(⟨((rd_T65 t228 x14_1).f0), (rd_T65 x4_1 (ji25)).f1, ((rd_T65 t228 x14_1).f2)⟩ : S65)]) t228 (t225.length : Int) (wrap64 (x14_1 + 1))) else (none)) = some (r1, r2) := by first | (rw [hy235]; with_reducible exact H) | (have H2_ := (Option.bind_some _ _).symm.trans H; rw [hy235]; with_reducible exact H2_) | (have H2_ := (Option.bind_some _ _).symm.trans H; with_reducible exact H2_) | with_reducible exact H | (rw [hy235]; exact H) | exact H
                          have Ny235 := Aside0.mk hy235
                          clear hy235
                          by_cases c31 : y235.length < 11728124029610
                          · rw [if_pos c31] at H
                            have LMc31 := Aside0.mk c31
                            clear c31
                            obtain ⟨y238, hy238⟩ : ∃ y_ : List (S65), y_ = (y235 ++ [(⟨((rd_T65 t228 x14_1).f0), (rd_T65 x4_1 (ji25)).f1, ((rd_T65 t228 x14_1).f2)⟩ : S65)]) := ⟨_, rfl⟩
                            replace H : (know_merged.l0 kj9 y238 t228 (t225.length : Int) (wrap64 (x14_1 + 1))) = some (r1, r2) := by first | (rw [hy238]; with_reducible exact H) | (have H2_ := (Option.bind_some _ _).symm.trans H; rw [hy238]; with_reducible exact H2_) | (have H2_ := (Option.bind_some _ _).symm.trans H; with_reducible exact H2_) | with_reducible exact H | (rw [hy238]; exact H) | exact H
                            have Ny238 := Aside0.mk hy238
                            clear hy238
                            have H' := Aside0.mk H
                            clear H
                            try go_wp2
                            have n0_ := Aside0.mk (Kd.R_drew HO_4.out)
                            have n1_ := Aside0.mk (Kd.R_drew HO_12.out)
                            have n2_ := Aside0.mk (blk_drew BK230.out)
                            have n3_ := Aside0.mk (below_drew1 HB.out)
                            clear HO_4
                            clear HO_12
                            clear BK230
                            clear HB
                            have HO_4 := n0_
                            have HO_12 := n1_
                            have BK230 := n2_
                            have HB := n3_
                            clear n0_ n1_ n2_ n3_
                            have p233 : 0 ≤ ((ji25) : Int) := of_decide_eq_true (by first | (with_reducible assumption) | assumption)
                            have q233 : (ji25) < (x4_1.length : Int) := of_decide_eq_true (by first | (with_reducible assumption) | assumption)
                            obtain ⟨ad233, e233, hx233_0, hx233_1, hx233_2⟩ := at_T65 (Kd.R_reads' HO_4.out).2.2 (ji25) p233 q233
                            cases e233
                            replace p233 := eq_true p233
                            replace q233 := eq_true q233
                            refine start_ (n := 8) (S := fun w' => w'.cell? ⟨gb230, 0, none⟩ = some (.int .u8 ((rd_T65 t228 x14_1).f0)) ∧ w'.cell? ⟨gb230, 1, none⟩ = some (.int .u32 ((rd_T65 t228 x14_1).f1)) ∧ w'.cell? ⟨gb230, 2, none⟩ = some (.int .u32 ((rd_T65 t228 x14_1).f2)) ∧ w'.cell? (ad233.add (((ji25)).toNat * 3)) = some (.int .u8 ((rd_T65 x4_1 (ji25)).f0)) ∧ w'.cell? ⟨(ad233.add (((ji25)).toNat * 3)).block, (ad233.add (((ji25)).toNat * 3)).off + 1, none⟩ = some (.int .u32 ((rd_T65 x4_1 (ji25)).f1)) ∧ w'.cell? ⟨(ad233.add (((ji25)).toNat * 3)).block, (ad233.add (((ji25)).toNat * 3)).off + 2, none⟩ = some (.int .u32 ((rd_T65 x4_1 (ji25)).f2))) (ds := []) #[false, false, false, false, false, false, false, false] (by kernel_rfl) rfl rfl ⟨(blk_cell BK230.out 0).trans rfl, (blk_cell BK230.out 1).trans rfl, (blk_cell BK230.out 2).trans rfl, hx233_0, hx233_1, hx233_2⟩ (fun hHeld => ?_); refine with_tabW know_merged.tab9 know_merged.bits9 (fun HT_ HW_ => ?_)
                            generalize wc.drew = w32 at HO_4 HO_12 BK230 HB hx233_0 hx233_1 hx233_2 hHeld ⊢
                            refine pure_ (i := 0) (N := some 33) (v := ?_) (a' := ?_) #[true, false, false, false, false, false, false, false] rfl rfl (any_of HT_.out (by kernel_rfl)) (fun _ _ _ h => h) (Or.inl ⟨by rfl, ?_⟩) ?_ ?_
                            rotate_left
                            · intro w'
                              go_simp
                              with_reducible rfl
                            rotate_left
                            · simp only [Act.put, List.setIfInBounds_toArray, List.set_cons_zero, List.set_cons_succ, i64_w, i32_w]
                              rfl
                            refine pure_ (i := 2) (N := some 35) (v := ?_) (a' := ?_) #[true, false, true, false, false, false, false, false] rfl rfl (any_of HT_.out (by kernel_rfl)) (fun _ _ _ h => h) (Or.inl ⟨by rfl, ?_⟩) ?_ ?_
                            rotate_left
                            · intro w'
                              go_simp
                              with_reducible rfl
                            rotate_left
                            · simp only [Act.put, List.setIfInBounds_toArray, List.set_cons_zero, List.set_cons_succ, i64_w, i32_w]
                              rfl
                            refine pure_ (i := 3) (N := some 36) (v := ?_) (a' := ?_) #[true, false, true, true, false, false, false, false] rfl rfl (any_of HT_.out (by kernel_rfl)) (fun _ _ _ h => h) (Or.inl ⟨by rfl, ?_⟩) ?_ ?_
                            rotate_left
                            · intro w'
                              go_simp
                              with_reducible rfl
                            rotate_left
                            · simp only [Act.put, List.setIfInBounds_toArray, List.set_cons_zero, List.set_cons_succ, i64_w, i32_w]
                              rfl
                            refine pure_ (i := 4) (N := some 37) (v := ?_) (a' := ?_) #[true, false, true, true, true, false, false, false] rfl rfl (any_of HT_.out (by kernel_rfl)) (fun _ _ _ h => h) (Or.inl ⟨by rfl, ?_⟩) ?_ ?_
                            rotate_left
                            · intro w'
                              go_simp
                              with_reducible rfl
                            rotate_left
                            · simp only [Act.put, List.setIfInBounds_toArray, List.set_cons_zero, List.set_cons_succ, i64_w, i32_w]
                              rfl
                            refine pure_ (i := 5) (N := some 38) (v := ?_) (a' := ?_) #[true, false, true, true, true, true, false, false] rfl rfl (any_of HT_.out (by kernel_rfl)) (fun _ _ _ h => h) (Or.inl ⟨by rfl, ?_⟩) ?_ ?_
                            rotate_left
                            · intro w'
                              go_simp
                              with_reducible rfl
                            rotate_left
                            · simp only [Act.put, List.setIfInBounds_toArray, List.set_cons_zero, List.set_cons_succ, i64_w, i32_w]
                              rfl
                            refine take_ (i := 1) (N := some 34) (v := ?_) (a' := ?_) #[true, true, true, true, true, true, false, false] rfl rfl (take_ofW HT_.out HW_.out (by kernel_rfl)) (fun _ _ _ h => h) (Or.inl ⟨by rfl, ?_⟩) hHeld ?_ ?_
                            rotate_left
                            · rintro w' ⟨s0, s1, s2, s3, s4, s5⟩
                              go_simp
                              with_reducible rfl
                            rotate_left
                            · simp only [Act.put, List.setIfInBounds_toArray, List.set_cons_zero, List.set_cons_succ, i64_w, i32_w]
                              rfl
                            refine take_ (i := 6) (N := some 39) (v := ?_) (a' := ?_) #[true, true, true, true, true, true, true, false] rfl rfl (take_ofW HT_.out HW_.out (by kernel_rfl)) (fun _ _ _ h => h) (Or.inl ⟨by rfl, ?_⟩) hHeld ?_ ?_
                            rotate_left
                            · rintro w' ⟨s0, s1, s2, s3, s4, s5⟩
                              go_simp
                              with_reducible rfl
                            rotate_left
                            · simp only [Act.put, List.setIfInBounds_toArray, List.set_cons_zero, List.set_cons_succ, i64_w, i32_w]
                              rfl
                            refine pure_ (i := 7) (N := some 40) (v := ?_) (a' := ?_) #[true, true, true, true, true, true, true, true] rfl rfl (any_of HT_.out (by kernel_rfl)) (fun _ _ _ h => h) (Or.inl ⟨by rfl, ?_⟩) ?_ ?_
                            rotate_left
                            · intro w'
                              go_simp
                              with_reducible rfl
                            rotate_left
                            · simp only [Act.put, List.setIfInBounds_toArray, List.set_cons_zero, List.set_cons_succ, i64_w, i32_w]
                              rfl
                            refine done_ (done_of HT_.out (by kernel_rfl)) ?_
                            have p234 : 0 ≤ ((ji25) : Int) := of_decide_eq_true (by first | (with_reducible assumption) | assumption)
                            have q234 : (ji25) < (x4_1.length : Int) := of_decide_eq_true (by first | (with_reducible assumption) | assumption)
                            obtain ⟨ad234, e234, hx234_0, hx234_1, hx234_2⟩ := at_T65 (Kd.R_reads' HO_4.out).2.2 (ji25) p234 q234
                            obtain rfl : ad233 = ad234 := (by injection e234)
                            replace p234 := eq_true p234
                            replace q234 := eq_true q234
                            have hcz33_0 : w32.cell? ⟨gb230, 0, none⟩ = some (.int .u8 ((rd_T65 t228 x14_1).f0)) := (blk_cell BK230.out 0).trans rfl
                            have hcz33_1 : w32.cell? ⟨gb230, 1, none⟩ = some (.int .u32 ((rd_T65 t228 x14_1).f1)) := (blk_cell BK230.out 1).trans rfl
                            have hcz33_2 : w32.cell? ⟨gb230, 2, none⟩ = some (.int .u32 ((rd_T65 t228 x14_1).f2)) := (blk_cell BK230.out 2).trans rfl
                            have hfz33_0 := blk_frozen BK230.out 0
                            have hfz33_1 := blk_frozen BK230.out 1
                            have hfz33_2 := blk_frozen BK230.out 2
                            try go_wp2_with (first | ((with_reducible refine gate_store (t := 23) (p := 46) rfl ?_); refine store_event (t := 23) (p := 46) (v := ?vo_w34) (w1 := (w32.setCell ⟨gb230, 1, none⟩ (.int .u32 ((rd_T65 x4_1 (ji25)).f1)))) ?hg ?ho ?hn ?hr ?_; (case ho => rfl); (case hg => rfl); (case hn => rfl); (case hr => first | (go_simp; done) | (go_simp; rfl)); intro w34 hw; have n0_ : Aside0 (Kd.R k65 65 w34 w.heap.size (fun k_ => some k_ ≠ (.slice (some ad229) t228.length co5 : Value).ownBlock ∧ k_ ≠ gb230) (.slice (some ad233) x4_1.length co13) x4_1) := ⟨(by rw [hw]; exact (by (with_reducible repeat (first | apply Kd.R_alloc | apply Kd.R_drewN | apply Kd.R_drew)); exact Kd.R_mono (Kd.R_far (p := ⟨gb230, 1, none⟩) (Kd.R_mono HO_4.out (fun k_ hk => (⟨hk, hk.2⟩ : _ ∧ k_ ≠ gb230))) (fun _ hk => hk.2) (.int .u32 ((rd_T65 x4_1 (ji25)).f1))) (fun _ hk => ⟨hk.1.1, hk.1.2⟩)))⟩; have n1_ : Aside0 (Kd.R k65 65 w34 w.heap.size (fun k_ => some k_ ≠ (.slice (some ad233) x4_1.length co13 : Value).ownBlock ∧ k_ ≠ gb230) (.slice (some ad229) t228.length co5) t228) := ⟨(by rw [hw]; exact (by (with_reducible repeat (first | apply Kd.R_alloc | apply Kd.R_drewN | apply Kd.R_drew)); exact Kd.R_mono (Kd.R_far (p := ⟨gb230, 1, none⟩) (Kd.R_mono HO_12.out (fun k_ hk => (⟨hk, hk.2⟩ : _ ∧ k_ ≠ gb230))) (fun _ hk => hk.2) (.int .u32 ((rd_T65 x4_1 (ji25)).f1))) (fun _ hk => ⟨hk.1.1, hk.1.2⟩)))⟩; have n2_ : Aside0 (w34.heap[gb230]? = some (.cells #[.int .u8 ((rd_T65 t228 x14_1).f0), .int .u32 ((rd_T65 x4_1 (ji25)).f1), .int .u32 ((rd_T65 t228 x14_1).f2)] 65 (0, 0))) := ⟨(by rw [hw]; exact (by (with_reducible repeat (first | refine blk_drewN ?_ _ | refine blk_drew ?_ | refine blk_alloc ?_ _)); refine blk_put (cs := #[.int .u8 ((rd_T65 t228 x14_1).f0), .int .u32 ((rd_T65 t228 x14_1).f1), .int .u32 ((rd_T65 t228 x14_1).f2)]) ?_ 1 _ rfl; (with_reducible repeat (first | refine blk_drewN ?_ _ | refine blk_drew ?_ | refine blk_alloc ?_ _)); exact BK230.out))⟩; have n3_ : Aside0 (Below w.heap.size w w34) := ⟨(by rw [hw]; exact (by repeat (first | (with_reducible first | exact HB.out | apply below_alloc | apply pw_below_drewN | apply below_drew1 | refine below_set ?_ GE230.out) | exact HB.out)))⟩; clear hw; clear HO_4; clear HO_12; clear BK230; clear HB; have HO_4 := n0_; have HO_12 := n1_; have BK230 := n2_; have HB := n3_; clear n0_ n1_ n2_ n3_; have q35 : ((ji25) : Int) ≤ ((x4_1.length : Int) : Int) := of_decide_eq_true (by first | (with_reducible assumption) | assumption); obtain ⟨i035, hi035, _, hsz35, _⟩ := info_parts info65; have hcut35 := cut_to (P := Tryd.prog) 39 65 .i64 Tryd.underlying39 hi035 (some ad233) x4_1.length co13 (ji25) (of_decide_eq_true (by first | (with_reducible assumption) | assumption)) q35 (Kd.R_reads' HO_4.out).2.1; have hr35 := Kd.R_take (m := ((ji25) : Int).toNat) HO_4.out (by omega); have hy35 : y235.length = ((ji25) : Int).toNat := (by rw [Ny235.out, List.length_take]; omega); rw [← Ny235.out] at hr35; rw [← hy35] at hr35 hcut35; clear hy35 hi035 hsz35 HO_4; have HO237 := Aside0.mk hr35; clear hr35; replace q35 := eq_true q35; have hcz36_0 : w34.cell? ⟨gb230, 0, none⟩ = some (.int .u8 ((rd_T65 t228 x14_1).f0)) := (blk_cell BK230.out 0).trans rfl; have hcz36_1 : w34.cell? ⟨gb230, 1, none⟩ = some (.int .u32 ((rd_T65 x4_1 (ji25)).f1)) := (blk_cell BK230.out 1).trans rfl; have hcz36_2 : w34.cell? ⟨gb230, 2, none⟩ = some (.int .u32 ((rd_T65 t228 x14_1).f2)) := (blk_cell BK230.out 2).trans rfl; have hfz36_0 := blk_frozen BK230.out 0; have hfz36_1 := blk_frozen BK230.out 1; have hfz36_2 := blk_frozen BK230.out 2) | ((with_reducible refine gate_builtin (b := .append) (xs := #[.tmp 50, .tmp 52]) rfl ?_); at_builtin; refine Kd.R_append k65 (w0 := w) w.heap.size rfl (.tmp 50) (.tmp 52) 39 65 (.agg #[(.int .u8 0), (.int .u32 0), (.int .u32 0)]) 12 rfl Tryd.underlying39 info65 rfl (by decide) (by omega) (.slice (some ad233) y235.length co13) y235 (⟨((rd_T65 t228 x14_1).f0), (rd_T65 x4_1 (ji25)).f1, ((rd_T65 t228 x14_1).f2)⟩ : S65) [.int .u8 ((rd_T65 t228 x14_1).f0), .int .u32 ((rd_T65 x4_1 (ji25)).f1), .int .u32 ((rd_T65 t228 x14_1).f2)] (fun k_ => some k_ ≠ (.slice (some ad229) t228.length co5 : Value).ownBlock ∧ k_ ≠ gb230) (fun _ => False) rfl rfl ?aP (fun _ hk => hk.elim) ?aF ?aO ?aB ?aS ?aL ?_; (case aP => exact k65_mkM _ _ _ (⟨((rd_T65 t228 x14_1).f0), (rd_T65 x4_1 (ji25)).f1, ((rd_T65 t228 x14_1).f2)⟩ : S65)); (case aB => exact (by repeat (first | (with_reducible first | exact HB.out | apply below_alloc | apply pw_below_drewN | apply below_drew1 | refine below_set ?_ GE230.out) | exact HB.out))); (case aF => exact (fun k_ hk => ⟨Kd.fresh' (Kd.R_lt (by (with_reducible repeat (first | apply Kd.R_alloc | apply Kd.R_drewN | apply Kd.R_drew)); exact HO_12.out)) k_ hk, Kd.freshB (g := gb230) (o := .cells #[.int .u8 ((rd_T65 t228 x14_1).f0), .int .u32 ((rd_T65 x4_1 (ji25)).f1), .int .u32 ((rd_T65 t228 x14_1).f2)] 65 (0, 0)) (by (with_reducible repeat (first | refine blk_drewN ?_ _ | refine blk_drew ?_ | refine blk_alloc ?_ _)); exact BK230.out) k_ hk⟩)); (case aO => exact (by (with_reducible repeat (first | apply Kd.R_alloc | apply Kd.R_drewN | apply Kd.R_drew)); exact HO237.out)); (case aS => exact (below_size (by repeat (first | (with_reducible first | exact HB.out | apply below_alloc | apply pw_below_drewN | apply below_drew1 | refine below_set ?_ GE230.out) | exact HB.out)))); (case aL => have := LMc31.out; omega); intro v239 w37 ho hb hg hat; rw [← Ny238.out] at ho; have n0_ := Aside0.mk (Kd.R_after (ok := (fun k_ => k_ ≠ gb230)) (by (with_reducible repeat (first | apply Kd.R_alloc | apply Kd.R_drewN | apply Kd.R_drew)); exact Kd.R_mono HO_12.out (fun _ hk => ⟨hk.2, hk.1⟩)) hg hat); have n1_ := Aside0.mk (blk_grown (g := gb230) (o := .cells #[.int .u8 ((rd_T65 t228 x14_1).f0), .int .u32 ((rd_T65 x4_1 (ji25)).f1), .int .u32 ((rd_T65 t228 x14_1).f2)] 65 (0, 0)) (by (with_reducible repeat (first | refine blk_drewN ?_ _ | refine blk_drew ?_ | refine blk_alloc ?_ _)); exact BK230.out) hg (Kd.R_away HO237.out (fun _ hk => hk.2))); have n2_ := Aside0.mk (hb); have n3_ := Aside0.mk (ho); clear HO_12; clear BK230; clear HB; clear HO237; have HO_12 := n0_; have BK230 := n1_; have HB := n2_; have HO240 := n3_; clear n0_ n1_ n2_ n3_; clear ho hb hg hat))
                            (try simp only [← hl12_1])
                            go_roundg kj9
                            case measure => have := HK1.out; have := HJ9.out; omega
                            case rel => exact ⟨(y238), (wrap64 (x14_1 + 1)), (by first | rfl | (simp; done) | (simp [*]; done)), H', ⟨by have := HK1.out; have := HJ9.out; omega⟩, ⟨by (try simp only [hl12_1]); (with_reducible repeat (first | apply Kd.R_alloc | apply Kd.R_drewN | apply Kd.R_drew)); exact Kd.R_mono HO240.out (fun _ hk => hk.1)⟩, ⟨by (try simp only [hl12_1]); (with_reducible repeat (first | apply Kd.R_alloc | apply Kd.R_drewN | apply Kd.R_drew)); exact Kd.R_mono HO_12.out (fun _ hk => hk.2)⟩, ⟨by repeat (first | (with_reducible first | exact HB.out | apply below_alloc | apply pw_below_drewN | apply below_drew1 | refine below_set ?_ GE230.out) | exact HB.out)⟩⟩
                          · rw [if_neg c31] at H
                            exact absurd H (by simp)
                        · rw [if_neg c30] at H
                          exact absurd H (by simp)
                    · rw [if_neg c27] at H
                      exact absurd H (by simp)
                  · rw [if_neg c26] at H
                    exact absurd H (by simp)
                · replace c24 := Bool.eq_false_iff.mpr c24
                  subst c24
                  have H1 : (if x4_1.length < 11728124029610 then (know_merged.l0 kj9 (x4_1 ++ [(⟨((rd_T65 t228 x14_1).f0), ((rd_T65 t228 x14_1).f1), ((rd_T65 t228 x14_1).f2)⟩ : S65)]) t228 (t225.length : Int) (wrap64 (x14_1 + 1))) else (none)) = some (r1, r2) := by rw [if_neg (show ¬ (false = true) by decide)] at H; exact H
                  clear H
                  have H := H1
                  clear H1
                  by_cases c38 : x4_1.length < 11728124029610
                  · rw [if_pos c38] at H
                    have LMc38 := Aside0.mk c38
                    clear c38
                    obtain ⟨y241, hy241⟩ : ∃ y_ : List (S65), y_ = (x4_1 ++ [(⟨((rd_T65 t228 x14_1).f0), ((rd_T65 t228 x14_1).f1), ((rd_T65 t228 x14_1).f2)⟩ : S65)]) := ⟨_, rfl⟩
                    replace H : (know_merged.l0 kj9 y241 t228 (t225.length : Int) (wrap64 (x14_1 + 1))) = some (r1, r2) := by first | (rw [hy241]; with_reducible exact H) | (have H2_ := (Option.bind_some _ _).symm.trans H; rw [hy241]; with_reducible exact H2_) | (have H2_ := (Option.bind_some _ _).symm.trans H; with_reducible exact H2_) | with_reducible exact H | (rw [hy241]; exact H) | exact H
                    have Ny241 := Aside0.mk hy241
                    clear hy241
                    have H' := Aside0.mk H
                    clear H
                    have hcz39_0 : wc.cell? ⟨gb230, 0, none⟩ = some (.int .u8 ((rd_T65 t228 x14_1).f0)) := (blk_cell BK230.out 0).trans rfl
                    have hcz39_1 : wc.cell? ⟨gb230, 1, none⟩ = some (.int .u32 ((rd_T65 t228 x14_1).f1)) := (blk_cell BK230.out 1).trans rfl
                    have hcz39_2 : wc.cell? ⟨gb230, 2, none⟩ = some (.int .u32 ((rd_T65 t228 x14_1).f2)) := (blk_cell BK230.out 2).trans rfl
                    have hfz39_0 := blk_frozen BK230.out 0
                    have hfz39_1 := blk_frozen BK230.out 1
                    have hfz39_2 := blk_frozen BK230.out 2
                    go_wp2_with (first | ((with_reducible refine gate_builtin (b := .append) (xs := #[.tmp 50, .tmp 52]) rfl ?_); at_builtin; refine Kd.R_append k65 (w0 := w) w.heap.size rfl (.tmp 50) (.tmp 52) 39 65 (.agg #[(.int .u8 0), (.int .u32 0), (.int .u32 0)]) 12 rfl Tryd.underlying39 info65 rfl (by decide) (by omega) (.slice Ao13 x4_1.length co13) x4_1 (⟨((rd_T65 t228 x14_1).f0), ((rd_T65 t228 x14_1).f1), ((rd_T65 t228 x14_1).f2)⟩ : S65) [.int .u8 ((rd_T65 t228 x14_1).f0), .int .u32 ((rd_T65 t228 x14_1).f1), .int .u32 ((rd_T65 t228 x14_1).f2)] (fun k_ => some k_ ≠ (.slice (some ad229) t228.length co5 : Value).ownBlock ∧ k_ ≠ gb230) (fun _ => False) rfl rfl ?aP (fun _ hk => hk.elim) ?aF ?aO ?aB ?aS ?aL ?_; (case aP => exact k65_mkM _ _ _ (⟨((rd_T65 t228 x14_1).f0), ((rd_T65 t228 x14_1).f1), ((rd_T65 t228 x14_1).f2)⟩ : S65)); (case aB => exact (by repeat (first | (with_reducible first | exact HB.out | apply below_alloc | apply pw_below_drewN | apply below_drew1 | refine below_set ?_ GE230.out) | exact HB.out))); (case aF => exact (fun k_ hk => ⟨Kd.fresh' (Kd.R_lt (by (with_reducible repeat (first | apply Kd.R_alloc | apply Kd.R_drewN | apply Kd.R_drew)); exact HO_12.out)) k_ hk, Kd.freshB (g := gb230) (o := .cells #[.int .u8 ((rd_T65 t228 x14_1).f0), .int .u32 ((rd_T65 t228 x14_1).f1), .int .u32 ((rd_T65 t228 x14_1).f2)] 65 (0, 0)) (by (with_reducible repeat (first | refine blk_drewN ?_ _ | refine blk_drew ?_ | refine blk_alloc ?_ _)); exact BK230.out) k_ hk⟩)); (case aO => exact (by (with_reducible repeat (first | apply Kd.R_alloc | apply Kd.R_drewN | apply Kd.R_drew)); exact HO_4.out)); (case aS => exact (below_size (by repeat (first | (with_reducible first | exact HB.out | apply below_alloc | apply pw_below_drewN | apply below_drew1 | refine below_set ?_ GE230.out) | exact HB.out)))); (case aL => have := LMc38.out; omega); intro v242 w40 ho hb hg hat; rw [← Ny241.out] at ho; have n0_ := Aside0.mk (Kd.R_after (ok := (fun k_ => k_ ≠ gb230)) (by (with_reducible repeat (first | apply Kd.R_alloc | apply Kd.R_drewN | apply Kd.R_drew)); exact Kd.R_mono HO_12.out (fun _ hk => ⟨hk.2, hk.1⟩)) hg hat); have n1_ := Aside0.mk (blk_grown (g := gb230) (o := .cells #[.int .u8 ((rd_T65 t228 x14_1).f0), .int .u32 ((rd_T65 t228 x14_1).f1), .int .u32 ((rd_T65 t228 x14_1).f2)] 65 (0, 0)) (by (with_reducible repeat (first | refine blk_drewN ?_ _ | refine blk_drew ?_ | refine blk_alloc ?_ _)); exact BK230.out) hg (Kd.R_away HO_4.out (fun _ hk => hk.2))); have n2_ := Aside0.mk (hb); have n3_ := Aside0.mk (ho); clear HO_12; clear BK230; clear HB; clear HO_4; have HO_12 := n0_; have BK230 := n1_; have HB := n2_; have HO243 := n3_; clear n0_ n1_ n2_ n3_; clear ho hb hg hat))
                    (try simp only [← hl12_1])
                    go_roundg kj9
                    case measure => have := HK1.out; have := HJ9.out; omega
                    case rel => exact ⟨(y241), (wrap64 (x14_1 + 1)), (by first | rfl | (simp; done) | (simp [*]; done)), H', ⟨by have := HK1.out; have := HJ9.out; omega⟩, ⟨by (try simp only [hl12_1]); (with_reducible repeat (first | apply Kd.R_alloc | apply Kd.R_drewN | apply Kd.R_drew)); exact Kd.R_mono HO243.out (fun _ hk => hk.1)⟩, ⟨by (try simp only [hl12_1]); (with_reducible repeat (first | apply Kd.R_alloc | apply Kd.R_drewN | apply Kd.R_drew)); exact Kd.R_mono HO_12.out (fun _ hk => hk.2)⟩, ⟨by repeat (first | (with_reducible first | exact HB.out | apply below_alloc | apply pw_below_drewN | apply below_drew1 | refine below_set ?_ GE230.out) | exact HB.out)⟩⟩
                  · rw [if_neg c38] at H
                    exact absurd H (by simp)
          · rw [if_neg c9] at H
            exact absurd H (by simp)
        · rw [if_neg c8] at H
          exact absurd H (by simp)
      · rw [if_neg c7] at H
        have c7b0 : decide (x14_1 < (t225.length : Int)) = false := decide_eq_false c7
        (try rw [hl12_1] at c7b0)
        clear c7
        by_cases c41 : (x4_1.length : Int) > 64
        · rw [if_pos c41] at H
          have c41b0 : decide (64 < (x4_1.length : Int)) = true := decide_eq_true c41
          have c41b1 : decide (64 < x4_1.length) = true := decide_eq_true (by omega)
          clear c41
          simp only [Option.some.injEq, Prod.mk.injEq] at H
          obtain ⟨rfl, rfl⟩ := H
          obtain ⟨Ao42, co42, eo42⟩ := Kd.R_slice HO_4.out
          subst eo42
          go_wp2
          go_ret2
          exact ⟨_, by first | rfl | (simp [errW_none, errW_some] <;> rfl) | (simp [*, errW_none, errW_some] <;> rfl), by first | exact Kd.R_nil _ _ _ _ _ | exact Kd.N_nil _ _ _ _ _ | exact Kd.V_nil _ _ _ _ _ | exact Kd.Q_nil _ _ _ _ _ | exact Kd.S_nil _ _ _ _ _, by repeat (first | (with_reducible first | exact HB.out | apply below_alloc | apply pw_below_drewN | apply below_drew1) | exact HB.out)⟩
        · rw [if_neg c41] at H
          have c41b0 : decide (64 < (x4_1.length : Int)) = false := decide_eq_false c41
          have c41b1 : decide (64 < x4_1.length) = false := decide_eq_false (by omega)
          clear c41
          simp only [Option.some.injEq, Prod.mk.injEq] at H
          obtain ⟨rfl, rfl⟩ := H
          obtain ⟨Ao43, co43, eo43⟩ := Kd.R_slice HO_4.out
          subst eo43
          go_wp2
          go_ret2
          exact ⟨_, by first | rfl | (simp [errW_none, errW_some] <;> rfl) | (simp [*, errW_none, errW_some] <;> rfl), by (with_reducible repeat (first | apply Kd.R_alloc | apply Kd.R_drewN | apply Kd.R_drew)); exact Kd.R_mono HO_4.out (fun _ hk => trivial), by repeat (first | (with_reducible first | exact HB.out | apply below_alloc | apply pw_below_drewN | apply below_drew1) | exact HB.out)⟩
end Go.Proofs.YtiminjibcafkaaaDoor.X
