-- MADE BY wip/prx.py (the kit's printer, with contracts proved by hand). Not trusted: Lean checks it.
import Derived.Test.YtiminjibcafkaaaSFX0
import Derived.Test.YtiminjibcafkaaaSFJ18
import Derived.Test.YtiminjibcafkaaaSFJ14
import Derived.Test.YtiminjibcafkaaaSFX13
namespace Go.Proofs.Ytiminjibcafkaaa.X
open Go.RowKit Go.Proofs.YtiminjibcafkaaaW.PrintWords Go.Proofs.YtiminjibcafkaaaW.PrintLast Go.Proofs.YtiminjibcafkaaaW.PrintMore
attribute [local go_sem] max2_int min2_int max_two min_two max_three min_three max_four min_four   -- for this text's walks alone
set_option linter.unusedVariables false
set_option linter.unusedSimpArgs false
attribute [local go_sem high] eqA78
/-! ### tidingslaw01_awake: function 32 -/
def tidingslaw01_awake.f (k : Nat)  : Option (Bool) := (know_Add.f k (([(⟨0, 1, 1⟩ : S78), (⟨0, 3, 5⟩ : S78)] : List (S78))) 0 2).bind fun bt303 => (if bt303.2.isNone = true then (if (bt303.1.length : Int) = 1 then (if 0 < (bt303.1.length : Int) then (if (((rd_T78 bt303.1 0).f0) == 0 && (((rd_T78 bt303.1 0).f1) == 1 && (((rd_T78 bt303.1 0).f2) == 5))) = true then ((know_Has.f k bt303.1 0 4).bind fun t309 => (if t309 = true then ((know_Has.f k bt303.1 1 4).bind fun t310 => (some (!t310))) else (some false))) else (some false)) else (none)) else (some false)) else (some false))
/-! ### know_Drop: function 34 -/
mutual
def know_Drop.j0 : Nat → List (S78) → Int → Int → Bool → Option ((List (S78)) × Option Int)
  | 0, _, _, _, _ => none
  | k + 1, x0, x1, x2, x21 => if x21 = true then (some (([] : List (S78)), some 9)) else (know_Drop.l0 k x1 x2 ([] : List (S78)) x0 (x0.length : Int) 0)
def know_Drop.l0 : Nat → Int → Int → List (S78) → List (S78) → Int → Int → Option ((List (S78)) × Option Int)
  | 0, _, _, _, _, _, _ => none
  | k + 1, x1, x2, x8, x23, x24, x25 => if x25 < x24 then (if 0 ≤ x25 then (if x25 < (x23.length : Int) then (if ((rd_T78 x23 x25).f0) = x1 then (if x2 < ((rd_T78 x23 x25).f1) then (know_Drop.j2 k x1 x2 x8 x23 x24 x25 true ((rd_T78 x23 x25).f0) ((rd_T78 x23 x25).f1) ((rd_T78 x23 x25).f2)) else (know_Drop.j2 k x1 x2 x8 x23 x24 x25 (decide (x2 > ((rd_T78 x23 x25).f2))) ((rd_T78 x23 x25).f0) ((rd_T78 x23 x25).f1) ((rd_T78 x23 x25).f2))) else (know_Drop.j2 k x1 x2 x8 x23 x24 x25 true ((rd_T78 x23 x25).f0) ((rd_T78 x23 x25).f1) ((rd_T78 x23 x25).f2))) else (none)) else (none)) else (if (x8.length : Int) > 64 then (some (([] : List (S78)), some 5)) else (some (x8, none)))
def know_Drop.j2 : Nat → Int → Int → List (S78) → List (S78) → Int → Int → Bool → Int → Int → Int → Option ((List (S78)) × Option Int)
  | 0, _, _, _, _, _, _, _, _, _, _ => none
  | k + 1, x1, x2, x8, x23, x24, x25, x44, x315000, x315001, x315002 => if x44 = true then (if x8.length < 11728124029610 then (know_Drop.l0 k x1 x2 (x8 ++ [(⟨x315000, x315001, x315002⟩ : S78)]) x23 x24 (wrap64 (x25 + 1))) else (none)) else (if x315001 < x2 then (if x8.length < 11728124029610 then ((some (x8 ++ [(⟨x1, x315001, (x2 - 1) % 4294967296⟩ : S78)] : List (S78))).bind fun y318 => (if x2 < x315002 then (if y318.length < 11728124029610 then (know_Drop.l0 k x1 x2 (y318 ++ [(⟨x1, (x2 + 1) % 4294967296, x315002⟩ : S78)]) x23 x24 (wrap64 (x25 + 1))) else (none)) else (know_Drop.l0 k x1 x2 y318 x23 x24 (wrap64 (x25 + 1))))) else (none)) else (if x2 < x315002 then (if x8.length < 11728124029610 then (know_Drop.l0 k x1 x2 (x8 ++ [(⟨x1, (x2 + 1) % 4294967296, x315002⟩ : S78)]) x23 x24 (wrap64 (x25 + 1))) else (none)) else (know_Drop.l0 k x1 x2 x8 x23 x24 (wrap64 (x25 + 1)))))
end
def know_Drop.f (k : Nat) (l0 : List (S78)) (a1 : Int) (a2 : Int) : Option ((List (S78)) × Option Int) := (know_Right.f k l0).bind fun t311 => (if t311 = true then ((know_run.f a1 a2 a2).bind fun t312 => (know_Drop.j0 k l0 a1 a2 (!t312))) else (know_Drop.j0 k l0 a1 a2 true))
set_option maxHeartbeats 8000000 in
set_option maxRecDepth 100000 in
theorem know_Drop.calls (k : Nat) (A0 : Option Addr) (c0 : Nat) (l0 : List (S78)) (a1 : Int) (a2 : Int) (r1 : List (S78)) (r2 : Option Int) (w : World) (hr0 : Kd.C k78 w A0 l0.length l0) (hc0 : l0.length ≤ c0) (h : know_Drop.f k l0 a1 a2 = some (r1, r2)) :
    Calls Try.prog 34 #[.slice A0 l0.length c0, .int .u8 a1, .int .u32 a2] w fun e w' => ∃ v0_ : Value, e = .returned (.tuple #[v0_, errW r2]) ∧ Kd.R k78 78 w' w.heap.size (fun _ => True) v0_ r1 ∧ Below w.heap.size w w' := by
  have hu78 := Try.underlying78
  have hu34 := Try.underlying34
  have hu67 := Try.underlying67
  have HR0 := Aside0.mk hr0
  have HC0 := Aside0.mk hc0
  clear hr0 hc0
  have HB := Aside0.mk (Below.refl w.heap.size w)
  have H : ((know_Right.f k l0).bind fun t311 => (if t311 = true then ((know_run.f a1 a2 a2).bind fun t312 => (know_Drop.j0 k l0 a1 a2 (!t312))) else (know_Drop.j0 k l0 a1 a2 true))) = some (r1, r2) := h
  clear h
  have HC4 := Aside0.mk H
  clear H
  go_enter Try.func34, Try.ntmps34
  go_upto_region 1 with (fail)
  go_cut [21] (fun v21 wc => ∃ (kq : Nat) (x21_3 : Bool), v21 = .bool x21_3 ∧ Aside0 (know_Drop.j0 kq l0 a1 a2 x21_3 = some (r1, r2)) ∧ Aside0 (kq ≤ k) ∧ Aside0 (Below w.heap.size w wc))
  case first =>
    have H := HC4.out
    clear HC4
    replace H := Option.bind_eq_some_iff.mp H
    obtain ⟨t311, A50, H⟩ := H
    replace H : (if t311 = true then ((know_run.f a1 a2 a2).bind fun t312 => (know_Drop.j0 k l0 a1 a2 (!t312))) else (know_Drop.j0 k l0 a1 a2 true)) = some (r1, r2) := H
    have A5 := Aside0.mk A50
    clear A50
    by_cases c6 : t311 = true
    · subst c6
      have H1 : ((know_run.f a1 a2 a2).bind fun t312 => (know_Drop.j0 k l0 a1 a2 (!t312))) = some (r1, r2) := by rw [if_pos rfl] at H; exact H
      clear H
      have H := H1
      clear H1
      replace H := Option.bind_eq_some_iff.mp H
      obtain ⟨t312, A70, H⟩ := H
      replace H : (know_Drop.j0 k l0 a1 a2 (!t312)) = some (r1, r2) := H
      have A7 := Aside0.mk A70
      clear A70
      have H' := Aside0.mk H
      clear H
      go_wp2_with (first | ((with_reducible refine gate_callee (f := 36) rfl ?_); refine goesL_ (some 12) rfl rfl Try.func36 (by kernel_rfl) rfl #[.slice A0 l0.length c0] rfl (by (try simp only [List.map_toArray, List.map_cons, List.map_nil]); first | done | rfl | (simp only [List.length_drop, List.length_take]; rfl)) ?_; (with_reducible refine (know_Right.calls k _ _ l0 true _ ?side1 ?side2 A5.out).mono ?_); (case side1 => repeat (first | exact (Kd.C_below HR0.out HB.out) | (with_reducible refine Kd.C_alloc ?_ _) | (with_reducible refine Kd.C_drewN ?_ _) | (with_reducible refine Kd.C_drew ?_))); (case side2 => exact HC0.out); rintro e w8 ⟨rfl, hb⟩; refine ⟨_, rfl, ?_⟩; have n0_ := Aside0.mk (below_step (by repeat (first | (with_reducible first | exact HB.out | apply below_alloc | apply pw_below_drewN | apply below_drew1) | exact HB.out)) hb); clear HB; have HB := n0_; clear n0_; (try clear hb); (try clear hb2); (try clear hk); (try clear hi)) | (go_at_call 55; (with_reducible refine (know_run.calls a1 a2 a2 t312 _ A7.out).mono ?_); rintro e w9 ⟨rfl, hb⟩; have n0_ := Aside0.mk (below_step (by repeat (first | (with_reducible first | exact HB.out | apply below_alloc | apply pw_below_drewN | apply below_drew1) | exact HB.out)) hb); clear HB; have HB := n0_; clear n0_; (try clear hb); (try clear hb2); (try clear hk); (try clear hi)))
      go_meet
      case rel => exact ⟨_, (!t312), (by first | rfl | (simp; done) | (simp [*]; done)), H', ⟨by first | omega | exact Nat.le_refl _⟩, ⟨by repeat (first | (with_reducible first | exact HB.out | apply below_alloc | apply pw_below_drewN | apply below_drew1) | exact HB.out)⟩⟩
    · replace c6 := Bool.eq_false_iff.mpr c6
      subst c6
      have H1 : (know_Drop.j0 k l0 a1 a2 true) = some (r1, r2) := by rw [if_neg (show ¬ (false = true) by decide)] at H; exact H
      clear H
      have H := H1
      clear H1
      have H' := Aside0.mk H
      clear H
      go_wp2_with (first | ((with_reducible refine gate_callee (f := 36) rfl ?_); refine goesL_ (some 12) rfl rfl Try.func36 (by kernel_rfl) rfl #[.slice A0 l0.length c0] rfl (by (try simp only [List.map_toArray, List.map_cons, List.map_nil]); first | done | rfl | (simp only [List.length_drop, List.length_take]; rfl)) ?_; (with_reducible refine (know_Right.calls k _ _ l0 false _ ?side1 ?side2 A5.out).mono ?_); (case side1 => repeat (first | exact (Kd.C_below HR0.out HB.out) | (with_reducible refine Kd.C_alloc ?_ _) | (with_reducible refine Kd.C_drewN ?_ _) | (with_reducible refine Kd.C_drew ?_))); (case side2 => exact HC0.out); rintro e w10 ⟨rfl, hb⟩; refine ⟨_, rfl, ?_⟩; have n0_ := Aside0.mk (below_step (by repeat (first | (with_reducible first | exact HB.out | apply below_alloc | apply pw_below_drewN | apply below_drew1) | exact HB.out)) hb); clear HB; have HB := n0_; clear n0_; (try clear hb); (try clear hb2); (try clear hk); (try clear hi)))
      go_meet
      case rel => exact ⟨_, (true), (by first | rfl | (simp; done) | (simp [*]; done)), H', ⟨by first | omega | exact Nat.le_refl _⟩, ⟨by repeat (first | (with_reducible first | exact HB.out | apply below_alloc | apply pw_below_drewN | apply below_drew1) | exact HB.out)⟩⟩
  case rest =>
    clear HC4
    try clear p2
    try clear c3
    try clear c6
    obtain ⟨kq, x21_3, rfl, HA, HJ3, HB⟩ := hcut
    cases kq with
    | zero => exact absurd HA.out (by simp [know_Drop.j0])
    | succ kj3 =>
      have H := HA.out
      clear HA
      simp only [know_Drop.j0] at H
      by_cases c11 : x21_3 = true
      · subst c11
        have H1 : (some (([] : List (S78)), some 9)) = some (r1, r2) := by rw [if_pos rfl] at H; exact H
        clear H
        have H := H1
        clear H1
        simp only [Option.some.injEq, Prod.mk.injEq] at H
        obtain ⟨rfl, rfl⟩ := H
        go_wp2
        go_ret2
        exact ⟨_, by first | rfl | (simp [errW_none, errW_some] <;> rfl) | (simp [*, errW_none, errW_some] <;> rfl), by first | exact Kd.R_nil _ _ _ _ _ | exact Kd.N_nil _ _ _ _ _ | exact Kd.V_nil _ _ _ _ _ | exact Kd.Q_nil _ _ _ _ _ | exact Kd.S_nil _ _ _ _ _, by repeat (first | (with_reducible first | exact HB.out | apply below_alloc | apply pw_below_drewN | apply below_drew1) | exact HB.out)⟩
      · replace c11 := Bool.eq_false_iff.mpr c11
        subst c11
        have H1 : (know_Drop.l0 kj3 a1 a2 ([] : List (S78)) l0 (l0.length : Int) 0) = some (r1, r2) := by rw [if_neg (show ¬ (false = true) by decide)] at H; exact H
        clear H
        have H := H1
        clear H1
        have H' := Aside0.mk H
        clear H
        go_wp2
        go_loopg [8, 25] kj3 (fun kq v8 v25 w' => ∃ (x8_2 : List (S78)) (x25_2 : Int), v25 = .int .i64 x25_2 ∧ Aside0 (know_Drop.l0 kq a1 a2 x8_2 l0 (l0.length : Int) x25_2 = some (r1, r2)) ∧ Aside0 (kq ≤ kj3) ∧ Aside0 (Kd.R k78 78 w' w.heap.size (fun _ => True) v8 x8_2) ∧ Aside0 (Below w.heap.size w w'))
        case atStart => exact ⟨(([] : List (S78))), (0), (by first | rfl | (simp; done) | (simp [*]; done)), H', ⟨Nat.le_refl _⟩, ⟨by first | exact Kd.R_nil _ _ _ _ _ | exact Kd.N_nil _ _ _ _ _ | exact Kd.V_nil _ _ _ _ _ | exact Kd.Q_nil _ _ _ _ _ | exact Kd.S_nil _ _ _ _ _⟩, ⟨by repeat (first | (with_reducible first | exact HB.out | apply below_alloc | apply pw_below_drewN | apply below_drew1) | exact HB.out)⟩⟩
        case round =>
          clear H'
          try clear c1
          try clear p2
          try clear c3
          try clear c6
          try clear c11
          try clear p2
          obtain ⟨x8_2, x25_2, rfl, HA, HK2, HO_8, HB⟩ := hrel
          cases gk with
          | zero => exact absurd HA.out (by simp [know_Drop.l0])
          | succ k2 =>
            have H := HA.out
            clear HA
            simp only [know_Drop.l0] at H
            by_cases c12 : x25_2 < (l0.length : Int)
            · rw [if_pos c12] at H
              have c12b0 : decide (x25_2 < (l0.length : Int)) = true := decide_eq_true c12
              clear c12
              by_cases c13 : 0 ≤ x25_2
              · rw [if_pos c13] at H
                have c13b0 : decide (0 ≤ x25_2) = true := decide_eq_true c13
                clear c13
                by_cases c14 : x25_2 < (l0.length : Int)
                · rw [if_pos c14] at H
                  have c14b0 : decide (x25_2 < (l0.length : Int)) = true := decide_eq_true c14
                  clear c14
                  have HC15 := Aside0.mk H
                  clear H
                  have p313 : 0 ≤ (x25_2 : Int) := of_decide_eq_true (by first | (with_reducible assumption) | assumption)
                  have q313 : x25_2 < (l0.length : Int) := of_decide_eq_true (by first | (with_reducible assumption) | assumption)
                  obtain ⟨ad313, e313, hx313_0, hx313_1, hx313_2⟩ := at_T78 HR0.out x25_2 p313 q313
                  cases e313
                  replace hx313_0 := (HB.out.cell (World.block_lt_of_cell? w _ hx313_0)).trans hx313_0
                  replace hx313_1 := (HB.out.cell (World.block_lt_of_cell? w _ hx313_1)).trans hx313_1
                  replace hx313_2 := (HB.out.cell (World.block_lt_of_cell? w _ hx313_2)).trans hx313_2
                  replace p313 := eq_true p313
                  replace q313 := eq_true q313
                  go_upto_region 7 with (first | ((with_reducible refine gate_dst (N := 10) rfl ?_); refine box_event ?hg (N := 10) ?hd (cs := #[.int .u8 0, .int .u32 0, .int .u32 0]) (t := 78) ?hr ?_; (case hd => rfl); (case hg => rfl); (case hr => first | (go_simp; done) | (go_simp; rfl)); intro gb314 hg w16 hbox hb; have n0_ := Aside0.mk (Kd.R_below (Kd.R_elderB (by (with_reducible repeat (first | apply Kd.R_alloc | apply Kd.R_drewN | apply Kd.R_drew)); exact HO_8.out) gb314 (Nat.le_of_eq hg.symm)) hb); have n1_ := Aside0.mk (below_step (by repeat (first | (with_reducible first | exact HB.out | apply below_alloc | apply pw_below_drewN | apply below_drew1) | exact HB.out)) hb); have n2_ := Aside0.mk (hbox); have n3_ := Aside0.mk ((by rw [hg]; exact (below_size (by repeat (first | (with_reducible first | exact HB.out | apply below_alloc | apply pw_below_drewN | apply below_drew1) | exact HB.out))) : w.heap.size ≤ gb314)); have n4_ := Aside0.mk ((by rw [hg]; exact (below_size (by repeat (first | (with_reducible first | exact HB.out | apply below_alloc | apply pw_below_drewN | apply below_drew1) | exact HB.out))) : w.heap.size ≤ gb314)); clear HO_8; clear HB; have HO_8 := n0_; have HB := n1_; have BK314 := n2_; have GW314 := n3_; have GE314 := n4_; clear n0_ n1_ n2_ n3_ n4_; clear hb hbox hg; have hcz17_0 : w16.cell? ⟨gb314, 0, none⟩ = some (.int .u8 0) := (blk_cell BK314.out 0).trans rfl; have hcz17_1 : w16.cell? ⟨gb314, 1, none⟩ = some (.int .u32 0) := (blk_cell BK314.out 1).trans rfl; have hcz17_2 : w16.cell? ⟨gb314, 2, none⟩ = some (.int .u32 0) := (blk_cell BK314.out 2).trans rfl; have hfz17_0 := blk_frozen BK314.out 0; have hfz17_1 := blk_frozen BK314.out 1; have hfz17_2 := blk_frozen BK314.out 2))
                  (try simp only [Act.put, List.setIfInBounds_toArray, List.set_cons_zero, List.set_cons_succ])
                  go_cut [44] (fun v44 wc => ∃ (kq : Nat) (x44_14 : Bool), v44 = .bool x44_14 ∧ Aside0 (know_Drop.j2 kq a1 a2 x8_2 l0 (l0.length : Int) x25_2 x44_14 ((rd_T78 l0 x25_2).f0) ((rd_T78 l0 x25_2).f1) ((rd_T78 l0 x25_2).f2) = some (r1, r2)) ∧ Aside0 (kq ≤ k2) ∧ Aside0 (Kd.R k78 78 wc w.heap.size (fun k_ => k_ ≠ gb314) u8 x8_2) ∧ Aside0 (wc.heap[gb314]? = some (.cells #[.int .u8 ((rd_T78 l0 x25_2).f0), .int .u32 ((rd_T78 l0 x25_2).f1), .int .u32 ((rd_T78 l0 x25_2).f2)] 78 (0, 0))) ∧ Aside0 (Below w.heap.size w wc))
                  case first =>
                    have H := HC15.out
                    clear HC15
                    by_cases c18 : ((rd_T78 l0 x25_2).f0) = a1
                    · rw [if_pos c18] at H
                      have c18b0 : (((rd_T78 l0 x25_2).f0) == a1) = true := beq_iff_eq.mpr c18
                      have c18b1 : (((rd_T78 l0 x25_2).f0) != a1) = false := bne_eq_false_iff_eq.mpr c18
                      clear c18
                      (first | rw [c18b0] | (simp only [i64_w, i32_w]; rw [c18b0]) | skip)
                      by_cases c19 : a2 < ((rd_T78 l0 x25_2).f1)
                      · rw [if_pos c19] at H
                        have c19b0 : decide (a2 < ((rd_T78 l0 x25_2).f1)) = true := decide_eq_true c19
                        clear c19
                        have H' := Aside0.mk H
                        clear H
                        have hcz20_0 : w16.cell? ⟨gb314, 0, none⟩ = some (.int .u8 0) := (blk_cell BK314.out 0).trans rfl
                        have hcz20_1 : w16.cell? ⟨gb314, 1, none⟩ = some (.int .u32 0) := (blk_cell BK314.out 1).trans rfl
                        have hcz20_2 : w16.cell? ⟨gb314, 2, none⟩ = some (.int .u32 0) := (blk_cell BK314.out 2).trans rfl
                        have hfz20_0 := blk_frozen BK314.out 0
                        have hfz20_1 := blk_frozen BK314.out 1
                        have hfz20_2 := blk_frozen BK314.out 2
                        go_wp2
                        go_meet
                        case rel => exact ⟨_, (true), (by first | rfl | (simp; done) | (simp [*]; done)), H', ⟨by have := HJ3.out; have := HK2.out; first | omega | exact Nat.le_refl _⟩, ⟨by (with_reducible repeat (first | apply Kd.R_alloc | apply Kd.R_drewN | apply Kd.R_drew)); exact Kd.R_mono (Kd.R_far (p := ⟨gb314, 2, none⟩) (Kd.R_far (p := ⟨gb314, 1, none⟩) (Kd.R_far (p := ⟨gb314, 0, none⟩) (Kd.R_mono HO_8.out (fun k_ hk => (⟨hk, hk.2⟩ : _ ∧ k_ ≠ gb314))) (fun _ hk => hk.2) (.int .u8 ((rd_T78 l0 x25_2).f0))) (fun _ hk => hk.2) (.int .u32 ((rd_T78 l0 x25_2).f1))) (fun _ hk => hk.2) (.int .u32 ((rd_T78 l0 x25_2).f2))) (fun _ hk => hk.1.2)⟩, ⟨by (with_reducible repeat (first | refine blk_drewN ?_ _ | refine blk_drew ?_ | refine blk_alloc ?_ _)); refine blk_put (cs := #[.int .u8 ((rd_T78 l0 x25_2).f0), .int .u32 ((rd_T78 l0 x25_2).f1), .int .u32 0]) ?_ 2 _ rfl; (with_reducible repeat (first | refine blk_drewN ?_ _ | refine blk_drew ?_ | refine blk_alloc ?_ _)); refine blk_put (cs := #[.int .u8 ((rd_T78 l0 x25_2).f0), .int .u32 0, .int .u32 0]) ?_ 1 _ rfl; (with_reducible repeat (first | refine blk_drewN ?_ _ | refine blk_drew ?_ | refine blk_alloc ?_ _)); refine blk_put (cs := #[.int .u8 0, .int .u32 0, .int .u32 0]) ?_ 0 _ rfl; (with_reducible repeat (first | refine blk_drewN ?_ _ | refine blk_drew ?_ | refine blk_alloc ?_ _)); exact BK314.out⟩, ⟨by repeat (first | (with_reducible first | exact HB.out | apply below_alloc | apply pw_below_drewN | apply below_drew1 | refine below_set ?_ GE314.out) | exact HB.out)⟩⟩
                      · rw [if_neg c19] at H
                        have c19b0 : decide (a2 < ((rd_T78 l0 x25_2).f1)) = false := decide_eq_false c19
                        clear c19
                        have H' := Aside0.mk H
                        clear H
                        have hcz21_0 : w16.cell? ⟨gb314, 0, none⟩ = some (.int .u8 0) := (blk_cell BK314.out 0).trans rfl
                        have hcz21_1 : w16.cell? ⟨gb314, 1, none⟩ = some (.int .u32 0) := (blk_cell BK314.out 1).trans rfl
                        have hcz21_2 : w16.cell? ⟨gb314, 2, none⟩ = some (.int .u32 0) := (blk_cell BK314.out 2).trans rfl
                        have hfz21_0 := blk_frozen BK314.out 0
                        have hfz21_1 := blk_frozen BK314.out 1
                        have hfz21_2 := blk_frozen BK314.out 2
                        go_wp2
                        go_meet
                        case rel => exact ⟨_, (decide (a2 > ((rd_T78 l0 x25_2).f2))), (by first | rfl | (simp; done) | (simp [*]; done)), H', ⟨by have := HJ3.out; have := HK2.out; first | omega | exact Nat.le_refl _⟩, ⟨by (with_reducible repeat (first | apply Kd.R_alloc | apply Kd.R_drewN | apply Kd.R_drew)); exact Kd.R_mono (Kd.R_far (p := ⟨gb314, 2, none⟩) (Kd.R_far (p := ⟨gb314, 1, none⟩) (Kd.R_far (p := ⟨gb314, 0, none⟩) (Kd.R_mono HO_8.out (fun k_ hk => (⟨hk, hk.2⟩ : _ ∧ k_ ≠ gb314))) (fun _ hk => hk.2) (.int .u8 ((rd_T78 l0 x25_2).f0))) (fun _ hk => hk.2) (.int .u32 ((rd_T78 l0 x25_2).f1))) (fun _ hk => hk.2) (.int .u32 ((rd_T78 l0 x25_2).f2))) (fun _ hk => hk.1.2)⟩, ⟨by (with_reducible repeat (first | refine blk_drewN ?_ _ | refine blk_drew ?_ | refine blk_alloc ?_ _)); refine blk_put (cs := #[.int .u8 ((rd_T78 l0 x25_2).f0), .int .u32 ((rd_T78 l0 x25_2).f1), .int .u32 0]) ?_ 2 _ rfl; (with_reducible repeat (first | refine blk_drewN ?_ _ | refine blk_drew ?_ | refine blk_alloc ?_ _)); refine blk_put (cs := #[.int .u8 ((rd_T78 l0 x25_2).f0), .int .u32 0, .int .u32 0]) ?_ 1 _ rfl; (with_reducible repeat (first | refine blk_drewN ?_ _ | refine blk_drew ?_ | refine blk_alloc ?_ _)); refine blk_put (cs := #[.int .u8 0, .int .u32 0, .int .u32 0]) ?_ 0 _ rfl; (with_reducible repeat (first | refine blk_drewN ?_ _ | refine blk_drew ?_ | refine blk_alloc ?_ _)); exact BK314.out⟩, ⟨by repeat (first | (with_reducible first | exact HB.out | apply below_alloc | apply pw_below_drewN | apply below_drew1 | refine below_set ?_ GE314.out) | exact HB.out)⟩⟩
                    · rw [if_neg c18] at H
                      have c18b0 : (((rd_T78 l0 x25_2).f0) == a1) = false := beq_eq_false_iff_ne.mpr c18
                      have c18b1 : (((rd_T78 l0 x25_2).f0) != a1) = true := bne_iff_ne.mpr c18
                      (first | rw [c18b0] | (simp only [i64_w, i32_w]; rw [c18b0]) | skip)
                      have H' := Aside0.mk H
                      clear H
                      have hcz22_0 : w16.cell? ⟨gb314, 0, none⟩ = some (.int .u8 0) := (blk_cell BK314.out 0).trans rfl
                      have hcz22_1 : w16.cell? ⟨gb314, 1, none⟩ = some (.int .u32 0) := (blk_cell BK314.out 1).trans rfl
                      have hcz22_2 : w16.cell? ⟨gb314, 2, none⟩ = some (.int .u32 0) := (blk_cell BK314.out 2).trans rfl
                      have hfz22_0 := blk_frozen BK314.out 0
                      have hfz22_1 := blk_frozen BK314.out 1
                      have hfz22_2 := blk_frozen BK314.out 2
                      go_wp2
                      go_meet
                      case rel => exact ⟨_, (true), (by first | rfl | (simp; done) | (simp [*]; done)), H', ⟨by have := HJ3.out; have := HK2.out; first | omega | exact Nat.le_refl _⟩, ⟨by (with_reducible repeat (first | apply Kd.R_alloc | apply Kd.R_drewN | apply Kd.R_drew)); exact Kd.R_mono (Kd.R_far (p := ⟨gb314, 2, none⟩) (Kd.R_far (p := ⟨gb314, 1, none⟩) (Kd.R_far (p := ⟨gb314, 0, none⟩) (Kd.R_mono HO_8.out (fun k_ hk => (⟨hk, hk.2⟩ : _ ∧ k_ ≠ gb314))) (fun _ hk => hk.2) (.int .u8 ((rd_T78 l0 x25_2).f0))) (fun _ hk => hk.2) (.int .u32 ((rd_T78 l0 x25_2).f1))) (fun _ hk => hk.2) (.int .u32 ((rd_T78 l0 x25_2).f2))) (fun _ hk => hk.1.2)⟩, ⟨by (with_reducible repeat (first | refine blk_drewN ?_ _ | refine blk_drew ?_ | refine blk_alloc ?_ _)); refine blk_put (cs := #[.int .u8 ((rd_T78 l0 x25_2).f0), .int .u32 ((rd_T78 l0 x25_2).f1), .int .u32 0]) ?_ 2 _ rfl; (with_reducible repeat (first | refine blk_drewN ?_ _ | refine blk_drew ?_ | refine blk_alloc ?_ _)); refine blk_put (cs := #[.int .u8 ((rd_T78 l0 x25_2).f0), .int .u32 0, .int .u32 0]) ?_ 1 _ rfl; (with_reducible repeat (first | refine blk_drewN ?_ _ | refine blk_drew ?_ | refine blk_alloc ?_ _)); refine blk_put (cs := #[.int .u8 0, .int .u32 0, .int .u32 0]) ?_ 0 _ rfl; (with_reducible repeat (first | refine blk_drewN ?_ _ | refine blk_drew ?_ | refine blk_alloc ?_ _)); exact BK314.out⟩, ⟨by repeat (first | (with_reducible first | exact HB.out | apply below_alloc | apply pw_below_drewN | apply below_drew1 | refine below_set ?_ GE314.out) | exact HB.out)⟩⟩
                  case rest =>
                    clear HC15
                    try clear c1
                    try clear p2
                    try clear c3
                    try clear p3
                    try clear q3
                    try clear hx3
                    try clear c6
                    try clear c11
                    try clear c12
                    try clear c12b0
                    try clear c13
                    try clear c13b0
                    try clear c14
                    try clear c14b0
                    try clear c18
                    try clear c18b0
                    try clear c18b1
                    try clear c19
                    try clear c19b0
                    try clear hcz17_0
                    try clear hcz17_1
                    try clear hcz17_2
                    try clear hcz20_0
                    try clear hcz20_1
                    try clear hcz20_2
                    try clear hcz21_0
                    try clear hcz21_1
                    try clear hcz21_2
                    try clear hcz22_0
                    try clear hcz22_1
                    try clear hcz22_2
                    try clear hfz17_0
                    try clear hfz17_1
                    try clear hfz17_2
                    try clear hfz20_0
                    try clear hfz20_1
                    try clear hfz20_2
                    try clear hfz21_0
                    try clear hfz21_1
                    try clear hfz21_2
                    try clear hfz22_0
                    try clear hfz22_1
                    try clear hfz22_2
                    try clear hx313_0
                    try clear hx313_1
                    try clear hx313_2
                    try clear p2
                    try clear p313
                    try clear q313
                    obtain ⟨kq, x44_14, rfl, HA, HJ14, HO_8, BK314, HB⟩ := hcut
                    cases kq with
                    | zero => exact absurd HA.out (by simp [know_Drop.j2])
                    | succ kj14 =>
                      have H := HA.out
                      clear HA
                      simp only [know_Drop.j2] at H
                      by_cases c23 : x44_14 = true
                      · subst c23
                        have H1 : (if x8_2.length < 11728124029610 then (know_Drop.l0 kj14 a1 a2 (x8_2 ++ [(⟨((rd_T78 l0 x25_2).f0), ((rd_T78 l0 x25_2).f1), ((rd_T78 l0 x25_2).f2)⟩ : S78)]) l0 (l0.length : Int) (wrap64 (x25_2 + 1))) else (none)) = some (r1, r2) := by rw [if_pos rfl] at H; exact H
                        clear H
                        have H := H1
                        clear H1
                        by_cases c24 : x8_2.length < 11728124029610
                        · rw [if_pos c24] at H
                          have LMc24 := Aside0.mk c24
                          clear c24
                          obtain ⟨y315, hy315⟩ : ∃ y_ : List (S78), y_ = (x8_2 ++ [(⟨((rd_T78 l0 x25_2).f0), ((rd_T78 l0 x25_2).f1), ((rd_T78 l0 x25_2).f2)⟩ : S78)]) := ⟨_, rfl⟩
                          replace H : (know_Drop.l0 kj14 a1 a2 y315 l0 (l0.length : Int) (wrap64 (x25_2 + 1))) = some (r1, r2) := by first | (rw [hy315]; with_reducible exact H) | (have H2_ := (Option.bind_some _ _).symm.trans H; rw [hy315]; with_reducible exact H2_) | (have H2_ := (Option.bind_some _ _).symm.trans H; with_reducible exact H2_) | with_reducible exact H | (rw [hy315]; exact H) | exact H
                          have Ny315 := Aside0.mk hy315
                          clear hy315
                          have H' := Aside0.mk H
                          clear H
                          have hcz25_0 : wc.cell? ⟨gb314, 0, none⟩ = some (.int .u8 ((rd_T78 l0 x25_2).f0)) := (blk_cell BK314.out 0).trans rfl
                          have hcz25_1 : wc.cell? ⟨gb314, 1, none⟩ = some (.int .u32 ((rd_T78 l0 x25_2).f1)) := (blk_cell BK314.out 1).trans rfl
                          have hcz25_2 : wc.cell? ⟨gb314, 2, none⟩ = some (.int .u32 ((rd_T78 l0 x25_2).f2)) := (blk_cell BK314.out 2).trans rfl
                          have hfz25_0 := blk_frozen BK314.out 0
                          have hfz25_1 := blk_frozen BK314.out 1
                          have hfz25_2 := blk_frozen BK314.out 2
                          go_wp2_with (first | ((with_reducible refine gate_builtin (b := .append) (xs := #[.tmp 45, .tmp 47]) rfl ?_); at_builtin; refine Kd.R_append k78 (w0 := w) w.heap.size rfl (.tmp 45) (.tmp 47) 47 78 (.agg #[(.int .u8 0), (.int .u32 0), (.int .u32 0)]) 12 rfl Try.underlying47 info78 rfl (by decide) (by omega) u8 x8_2 (⟨((rd_T78 l0 x25_2).f0), ((rd_T78 l0 x25_2).f1), ((rd_T78 l0 x25_2).f2)⟩ : S78) [.int .u8 ((rd_T78 l0 x25_2).f0), .int .u32 ((rd_T78 l0 x25_2).f1), .int .u32 ((rd_T78 l0 x25_2).f2)] (fun k_ => k_ ≠ gb314) (fun _ => False) rfl rfl ?aP (fun _ hk => hk.elim) ?aF ?aO ?aB ?aS ?aL ?_; (case aP => exact k78_mkM _ _ _ (⟨((rd_T78 l0 x25_2).f0), ((rd_T78 l0 x25_2).f1), ((rd_T78 l0 x25_2).f2)⟩ : S78)); (case aB => exact (by repeat (first | (with_reducible first | exact HB.out | apply below_alloc | apply pw_below_drewN | apply below_drew1 | refine below_set ?_ GE314.out) | exact HB.out))); (case aF => exact (fun k_ hk => Kd.freshB (g := gb314) (o := .cells #[.int .u8 ((rd_T78 l0 x25_2).f0), .int .u32 ((rd_T78 l0 x25_2).f1), .int .u32 ((rd_T78 l0 x25_2).f2)] 78 (0, 0)) (by (with_reducible repeat (first | refine blk_drewN ?_ _ | refine blk_drew ?_ | refine blk_alloc ?_ _)); exact BK314.out) k_ hk)); (case aO => exact (by (with_reducible repeat (first | apply Kd.R_alloc | apply Kd.R_drewN | apply Kd.R_drew)); exact HO_8.out)); (case aS => exact (below_size (by repeat (first | (with_reducible first | exact HB.out | apply below_alloc | apply pw_below_drewN | apply below_drew1 | refine below_set ?_ GE314.out) | exact HB.out)))); (case aL => have := LMc24.out; omega); intro v316 w26 ho hb hg hat; rw [← Ny315.out] at ho; have n0_ := Aside0.mk (blk_grown (g := gb314) (o := .cells #[.int .u8 ((rd_T78 l0 x25_2).f0), .int .u32 ((rd_T78 l0 x25_2).f1), .int .u32 ((rd_T78 l0 x25_2).f2)] 78 (0, 0)) (by (with_reducible repeat (first | refine blk_drewN ?_ _ | refine blk_drew ?_ | refine blk_alloc ?_ _)); exact BK314.out) hg (Kd.R_away HO_8.out (fun _ hk => hk))); have n1_ := Aside0.mk (hb); have n2_ := Aside0.mk (ho); clear BK314; clear HB; clear HO_8; have BK314 := n0_; have HB := n1_; have HO317 := n2_; clear n0_ n1_ n2_; clear ho hb hg hat))
                          go_roundg kj14
                          case measure => have := HJ3.out; have := HK2.out; have := HJ14.out; omega
                          case rel => exact ⟨(y315), (wrap64 (x25_2 + 1)), (by first | rfl | (simp; done) | (simp [*]; done)), H', ⟨by have := HJ3.out; have := HK2.out; have := HJ14.out; omega⟩, ⟨by (with_reducible repeat (first | apply Kd.R_alloc | apply Kd.R_drewN | apply Kd.R_drew)); exact Kd.R_mono HO317.out (fun _ hk => trivial)⟩, ⟨by repeat (first | (with_reducible first | exact HB.out | apply below_alloc | apply pw_below_drewN | apply below_drew1 | refine below_set ?_ GE314.out) | exact HB.out)⟩⟩
                        · rw [if_neg c24] at H
                          exact absurd H (by simp)
                      · replace c23 := Bool.eq_false_iff.mpr c23
                        subst c23
                        have H1 : (if ((rd_T78 l0 x25_2).f1) < a2 then (if x8_2.length < 11728124029610 then ((some (x8_2 ++ [(⟨a1, ((rd_T78 l0 x25_2).f1), (a2 - 1) % 4294967296⟩ : S78)] : List (S78))).bind fun y318 => (if a2 < ((rd_T78 l0 x25_2).f2) then (if y318.length < 11728124029610 then (know_Drop.l0 kj14 a1 a2 (y318 ++ [(⟨a1, (a2 + 1) % 4294967296, ((rd_T78 l0 x25_2).f2)⟩ : S78)]) l0 (l0.length : Int) (wrap64 (x25_2 + 1))) else (none)) else (know_Drop.l0 kj14 a1 a2 y318 l0 (l0.length : Int) (wrap64 (x25_2 + 1))))) else (none)) else (if a2 < ((rd_T78 l0 x25_2).f2) then (if x8_2.length < 11728124029610 then (know_Drop.l0 kj14 a1 a2 (x8_2 ++ [(⟨a1, (a2 + 1) % 4294967296, ((rd_T78 l0 x25_2).f2)⟩ : S78)]) l0 (l0.length : Int) (wrap64 (x25_2 + 1))) else (none)) else (know_Drop.l0 kj14 a1 a2 x8_2 l0 (l0.length : Int) (wrap64 (x25_2 + 1))))) = some (r1, r2) := by rw [if_neg (show ¬ (false = true) by decide)] at H; exact H
                        clear H
                        have H := H1
                        clear H1
                        by_cases c27 : ((rd_T78 l0 x25_2).f1) < a2
                        · rw [if_pos c27] at H
                          have c27b0 : decide (((rd_T78 l0 x25_2).f1) < a2) = true := decide_eq_true c27
                          clear c27
                          by_cases c28 : x8_2.length < 11728124029610
                          · rw [if_pos c28] at H
                            have LMc28 := Aside0.mk c28
                            clear c28
                            obtain ⟨y318, hy318⟩ : ∃ y_ : List (S78), y_ = (x8_2 ++ [(⟨a1, ((rd_T78 l0 x25_2).f1), (a2 - 1) % 4294967296⟩ : S78)]) := ⟨_, rfl⟩
                            replace H : (if a2 < ((rd_T78 l0 x25_2).f2) then (if y318.length < 11728124029610 then (know_Drop.l0 kj14 a1 a2 (y318 ++ [(⟨a1, (a2 + 1) % 4294967296, ((rd_T78 l0 x25_2).f2)⟩ : S78)]) l0 (l0.length : Int) (wrap64 (x25_2 + 1))) else (none)) else (know_Drop.l0 kj14 a1 a2 y318 l0 (l0.length : Int) (wrap64 (x25_2 + 1)))) = some (r1, r2) := by first | (rw [hy318]; with_reducible exact H) | (have H2_ := (Option.bind_some _ _).symm.trans H; rw [hy318]; with_reducible exact H2_) | (have H2_ := (Option.bind_some _ _).symm.trans H; with_reducible exact H2_) | with_reducible exact H | (rw [hy318]; exact H) | exact H
                            have Ny318 := Aside0.mk hy318
                            clear hy318
                            by_cases c29 : a2 < ((rd_T78 l0 x25_2).f2)
                            · rw [if_pos c29] at H
                              have c29b0 : decide (a2 < ((rd_T78 l0 x25_2).f2)) = true := decide_eq_true c29
                              clear c29
                              by_cases c30 : y318.length < 11728124029610
                              · rw [if_pos c30] at H
                                have LMc30 := Aside0.mk c30
                                clear c30
                                obtain ⟨y321, hy321⟩ : ∃ y_ : List (S78), y_ = (y318 ++ [(⟨a1, (a2 + 1) % 4294967296, ((rd_T78 l0 x25_2).f2)⟩ : S78)]) := ⟨_, rfl⟩
                                replace H : (know_Drop.l0 kj14 a1 a2 y321 l0 (l0.length : Int) (wrap64 (x25_2 + 1))) = some (r1, r2) := by first | (rw [hy321]; with_reducible exact H) | (have H2_ := (Option.bind_some _ _).symm.trans H; rw [hy321]; with_reducible exact H2_) | (have H2_ := (Option.bind_some _ _).symm.trans H; with_reducible exact H2_) | with_reducible exact H | (rw [hy321]; exact H) | exact H
                                have Ny321 := Aside0.mk hy321
                                clear hy321
                                have H' := Aside0.mk H
                                clear H
                                have hcz31_0 : wc.cell? ⟨gb314, 0, none⟩ = some (.int .u8 ((rd_T78 l0 x25_2).f0)) := (blk_cell BK314.out 0).trans rfl
                                have hcz31_1 : wc.cell? ⟨gb314, 1, none⟩ = some (.int .u32 ((rd_T78 l0 x25_2).f1)) := (blk_cell BK314.out 1).trans rfl
                                have hcz31_2 : wc.cell? ⟨gb314, 2, none⟩ = some (.int .u32 ((rd_T78 l0 x25_2).f2)) := (blk_cell BK314.out 2).trans rfl
                                have hfz31_0 := blk_frozen BK314.out 0
                                have hfz31_1 := blk_frozen BK314.out 1
                                have hfz31_2 := blk_frozen BK314.out 2
                                go_wp2_with (first | ((with_reducible refine gate_builtin (b := .append) (xs := #[.tmp 53, .tmp 60]) rfl ?_); at_builtin; refine Kd.R_append k78 (w0 := w) w.heap.size rfl (.tmp 53) (.tmp 60) 47 78 (.agg #[(.int .u8 0), (.int .u32 0), (.int .u32 0)]) 12 rfl Try.underlying47 info78 rfl (by decide) (by omega) u8 x8_2 (⟨a1, ((rd_T78 l0 x25_2).f1), (a2 - 1) % 4294967296⟩ : S78) [.int .u8 a1, .int .u32 ((rd_T78 l0 x25_2).f1), .int .u32 ((a2 - 1) % 4294967296)] (fun k_ => k_ ≠ gb314) (fun _ => False) rfl rfl ?aP (fun _ hk => hk.elim) ?aF ?aO ?aB ?aS ?aL ?_; (case aP => exact k78_mkM _ _ _ (⟨a1, ((rd_T78 l0 x25_2).f1), (a2 - 1) % 4294967296⟩ : S78)); (case aB => exact (by repeat (first | (with_reducible first | exact HB.out | apply below_alloc | apply pw_below_drewN | apply below_drew1 | refine below_set ?_ GE314.out) | exact HB.out))); (case aF => exact (fun k_ hk => Kd.freshB (g := gb314) (o := .cells #[.int .u8 ((rd_T78 l0 x25_2).f0), .int .u32 ((rd_T78 l0 x25_2).f1), .int .u32 ((rd_T78 l0 x25_2).f2)] 78 (0, 0)) (by (with_reducible repeat (first | refine blk_drewN ?_ _ | refine blk_drew ?_ | refine blk_alloc ?_ _)); exact BK314.out) k_ hk)); (case aO => exact (by (with_reducible repeat (first | apply Kd.R_alloc | apply Kd.R_drewN | apply Kd.R_drew)); exact HO_8.out)); (case aS => exact (below_size (by repeat (first | (with_reducible first | exact HB.out | apply below_alloc | apply pw_below_drewN | apply below_drew1 | refine below_set ?_ GE314.out) | exact HB.out)))); (case aL => have := LMc28.out; omega); intro v319 w32 ho hb hg hat; rw [← Ny318.out] at ho; have n0_ := Aside0.mk (blk_grown (g := gb314) (o := .cells #[.int .u8 ((rd_T78 l0 x25_2).f0), .int .u32 ((rd_T78 l0 x25_2).f1), .int .u32 ((rd_T78 l0 x25_2).f2)] 78 (0, 0)) (by (with_reducible repeat (first | refine blk_drewN ?_ _ | refine blk_drew ?_ | refine blk_alloc ?_ _)); exact BK314.out) hg (Kd.R_away HO_8.out (fun _ hk => hk))); have n1_ := Aside0.mk (hb); have n2_ := Aside0.mk (ho); clear BK314; clear HB; clear HO_8; have BK314 := n0_; have HB := n1_; have HO320 := n2_; clear n0_ n1_ n2_; clear ho hb hg hat; have hcz33_0 : w32.cell? ⟨gb314, 0, none⟩ = some (.int .u8 ((rd_T78 l0 x25_2).f0)) := (blk_cell BK314.out 0).trans rfl; have hcz33_1 : w32.cell? ⟨gb314, 1, none⟩ = some (.int .u32 ((rd_T78 l0 x25_2).f1)) := (blk_cell BK314.out 1).trans rfl; have hcz33_2 : w32.cell? ⟨gb314, 2, none⟩ = some (.int .u32 ((rd_T78 l0 x25_2).f2)) := (blk_cell BK314.out 2).trans rfl; have hfz33_0 := blk_frozen BK314.out 0; have hfz33_1 := blk_frozen BK314.out 1; have hfz33_2 := blk_frozen BK314.out 2) | ((with_reducible refine gate_builtin (b := .append) (xs := #[.tmp 66, .tmp 73]) rfl ?_); at_builtin; refine Kd.R_append k78 (w0 := w) w.heap.size rfl (.tmp 66) (.tmp 73) 47 78 (.agg #[(.int .u8 0), (.int .u32 0), (.int .u32 0)]) 12 rfl Try.underlying47 info78 rfl (by decide) (by omega) v319 y318 (⟨a1, (a2 + 1) % 4294967296, ((rd_T78 l0 x25_2).f2)⟩ : S78) [.int .u8 a1, .int .u32 ((a2 + 1) % 4294967296), .int .u32 ((rd_T78 l0 x25_2).f2)] (fun k_ => k_ ≠ gb314) (fun _ => False) rfl rfl ?aP (fun _ hk => hk.elim) ?aF ?aO ?aB ?aS ?aL ?_; (case aP => exact k78_mkM _ _ _ (⟨a1, (a2 + 1) % 4294967296, ((rd_T78 l0 x25_2).f2)⟩ : S78)); (case aB => exact (by repeat (first | (with_reducible first | exact HB.out | apply below_alloc | apply pw_below_drewN | apply below_drew1 | refine below_set ?_ GE314.out) | exact HB.out))); (case aF => exact (fun k_ hk => Kd.freshB (g := gb314) (o := .cells #[.int .u8 ((rd_T78 l0 x25_2).f0), .int .u32 ((rd_T78 l0 x25_2).f1), .int .u32 ((rd_T78 l0 x25_2).f2)] 78 (0, 0)) (by (with_reducible repeat (first | refine blk_drewN ?_ _ | refine blk_drew ?_ | refine blk_alloc ?_ _)); exact BK314.out) k_ hk)); (case aO => exact (by (with_reducible repeat (first | apply Kd.R_alloc | apply Kd.R_drewN | apply Kd.R_drew)); exact HO320.out)); (case aS => exact (below_size (by repeat (first | (with_reducible first | exact HB.out | apply below_alloc | apply pw_below_drewN | apply below_drew1 | refine below_set ?_ GE314.out) | exact HB.out)))); (case aL => have := LMc30.out; omega); intro v322 w34 ho hb hg hat; rw [← Ny321.out] at ho; have n0_ := Aside0.mk (blk_grown (g := gb314) (o := .cells #[.int .u8 ((rd_T78 l0 x25_2).f0), .int .u32 ((rd_T78 l0 x25_2).f1), .int .u32 ((rd_T78 l0 x25_2).f2)] 78 (0, 0)) (by (with_reducible repeat (first | refine blk_drewN ?_ _ | refine blk_drew ?_ | refine blk_alloc ?_ _)); exact BK314.out) hg (Kd.R_away HO320.out (fun _ hk => hk))); have n1_ := Aside0.mk (hb); have n2_ := Aside0.mk (ho); clear BK314; clear HB; clear HO320; have BK314 := n0_; have HB := n1_; have HO323 := n2_; clear n0_ n1_ n2_; clear ho hb hg hat))
                                go_roundg kj14
                                case measure => have := HJ3.out; have := HK2.out; have := HJ14.out; omega
                                case rel => exact ⟨(y321), (wrap64 (x25_2 + 1)), (by first | rfl | (simp; done) | (simp [*]; done)), H', ⟨by have := HJ3.out; have := HK2.out; have := HJ14.out; omega⟩, ⟨by (with_reducible repeat (first | apply Kd.R_alloc | apply Kd.R_drewN | apply Kd.R_drew)); exact Kd.R_mono HO323.out (fun _ hk => trivial)⟩, ⟨by repeat (first | (with_reducible first | exact HB.out | apply below_alloc | apply pw_below_drewN | apply below_drew1 | refine below_set ?_ GE314.out) | exact HB.out)⟩⟩
                              · rw [if_neg c30] at H
                                exact absurd H (by simp)
                            · rw [if_neg c29] at H
                              have c29b0 : decide (a2 < ((rd_T78 l0 x25_2).f2)) = false := decide_eq_false c29
                              clear c29
                              have H' := Aside0.mk H
                              clear H
                              have hcz35_0 : wc.cell? ⟨gb314, 0, none⟩ = some (.int .u8 ((rd_T78 l0 x25_2).f0)) := (blk_cell BK314.out 0).trans rfl
                              have hcz35_1 : wc.cell? ⟨gb314, 1, none⟩ = some (.int .u32 ((rd_T78 l0 x25_2).f1)) := (blk_cell BK314.out 1).trans rfl
                              have hcz35_2 : wc.cell? ⟨gb314, 2, none⟩ = some (.int .u32 ((rd_T78 l0 x25_2).f2)) := (blk_cell BK314.out 2).trans rfl
                              have hfz35_0 := blk_frozen BK314.out 0
                              have hfz35_1 := blk_frozen BK314.out 1
                              have hfz35_2 := blk_frozen BK314.out 2
                              go_wp2_with (first | ((with_reducible refine gate_builtin (b := .append) (xs := #[.tmp 53, .tmp 60]) rfl ?_); at_builtin; refine Kd.R_append k78 (w0 := w) w.heap.size rfl (.tmp 53) (.tmp 60) 47 78 (.agg #[(.int .u8 0), (.int .u32 0), (.int .u32 0)]) 12 rfl Try.underlying47 info78 rfl (by decide) (by omega) u8 x8_2 (⟨a1, ((rd_T78 l0 x25_2).f1), (a2 - 1) % 4294967296⟩ : S78) [.int .u8 a1, .int .u32 ((rd_T78 l0 x25_2).f1), .int .u32 ((a2 - 1) % 4294967296)] (fun k_ => k_ ≠ gb314) (fun _ => False) rfl rfl ?aP (fun _ hk => hk.elim) ?aF ?aO ?aB ?aS ?aL ?_; (case aP => exact k78_mkM _ _ _ (⟨a1, ((rd_T78 l0 x25_2).f1), (a2 - 1) % 4294967296⟩ : S78)); (case aB => exact (by repeat (first | (with_reducible first | exact HB.out | apply below_alloc | apply pw_below_drewN | apply below_drew1 | refine below_set ?_ GE314.out) | exact HB.out))); (case aF => exact (fun k_ hk => Kd.freshB (g := gb314) (o := .cells #[.int .u8 ((rd_T78 l0 x25_2).f0), .int .u32 ((rd_T78 l0 x25_2).f1), .int .u32 ((rd_T78 l0 x25_2).f2)] 78 (0, 0)) (by (with_reducible repeat (first | refine blk_drewN ?_ _ | refine blk_drew ?_ | refine blk_alloc ?_ _)); exact BK314.out) k_ hk)); (case aO => exact (by (with_reducible repeat (first | apply Kd.R_alloc | apply Kd.R_drewN | apply Kd.R_drew)); exact HO_8.out)); (case aS => exact (below_size (by repeat (first | (with_reducible first | exact HB.out | apply below_alloc | apply pw_below_drewN | apply below_drew1 | refine below_set ?_ GE314.out) | exact HB.out)))); (case aL => have := LMc28.out; omega); intro v319 w36 ho hb hg hat; rw [← Ny318.out] at ho; have n0_ := Aside0.mk (blk_grown (g := gb314) (o := .cells #[.int .u8 ((rd_T78 l0 x25_2).f0), .int .u32 ((rd_T78 l0 x25_2).f1), .int .u32 ((rd_T78 l0 x25_2).f2)] 78 (0, 0)) (by (with_reducible repeat (first | refine blk_drewN ?_ _ | refine blk_drew ?_ | refine blk_alloc ?_ _)); exact BK314.out) hg (Kd.R_away HO_8.out (fun _ hk => hk))); have n1_ := Aside0.mk (hb); have n2_ := Aside0.mk (ho); clear BK314; clear HB; clear HO_8; have BK314 := n0_; have HB := n1_; have HO320 := n2_; clear n0_ n1_ n2_; clear ho hb hg hat; have hcz37_0 : w36.cell? ⟨gb314, 0, none⟩ = some (.int .u8 ((rd_T78 l0 x25_2).f0)) := (blk_cell BK314.out 0).trans rfl; have hcz37_1 : w36.cell? ⟨gb314, 1, none⟩ = some (.int .u32 ((rd_T78 l0 x25_2).f1)) := (blk_cell BK314.out 1).trans rfl; have hcz37_2 : w36.cell? ⟨gb314, 2, none⟩ = some (.int .u32 ((rd_T78 l0 x25_2).f2)) := (blk_cell BK314.out 2).trans rfl; have hfz37_0 := blk_frozen BK314.out 0; have hfz37_1 := blk_frozen BK314.out 1; have hfz37_2 := blk_frozen BK314.out 2))
                              go_roundg kj14
                              case measure => have := HJ3.out; have := HK2.out; have := HJ14.out; omega
                              case rel => exact ⟨(y318), (wrap64 (x25_2 + 1)), (by first | rfl | (simp; done) | (simp [*]; done)), H', ⟨by have := HJ3.out; have := HK2.out; have := HJ14.out; omega⟩, ⟨by (with_reducible repeat (first | apply Kd.R_alloc | apply Kd.R_drewN | apply Kd.R_drew)); exact Kd.R_mono HO320.out (fun _ hk => trivial)⟩, ⟨by repeat (first | (with_reducible first | exact HB.out | apply below_alloc | apply pw_below_drewN | apply below_drew1 | refine below_set ?_ GE314.out) | exact HB.out)⟩⟩
                          · rw [if_neg c28] at H
                            exact absurd H (by simp)
                        · rw [if_neg c27] at H
                          have c27b0 : decide (((rd_T78 l0 x25_2).f1) < a2) = false := decide_eq_false c27
                          clear c27
                          by_cases c38 : a2 < ((rd_T78 l0 x25_2).f2)
                          · rw [if_pos c38] at H
                            have c38b0 : decide (a2 < ((rd_T78 l0 x25_2).f2)) = true := decide_eq_true c38
                            clear c38
                            by_cases c39 : x8_2.length < 11728124029610
                            · rw [if_pos c39] at H
                              have LMc39 := Aside0.mk c39
                              clear c39
                              obtain ⟨y324, hy324⟩ : ∃ y_ : List (S78), y_ = (x8_2 ++ [(⟨a1, (a2 + 1) % 4294967296, ((rd_T78 l0 x25_2).f2)⟩ : S78)]) := ⟨_, rfl⟩
                              replace H : (know_Drop.l0 kj14 a1 a2 y324 l0 (l0.length : Int) (wrap64 (x25_2 + 1))) = some (r1, r2) := by first | (rw [hy324]; with_reducible exact H) | (have H2_ := (Option.bind_some _ _).symm.trans H; rw [hy324]; with_reducible exact H2_) | (have H2_ := (Option.bind_some _ _).symm.trans H; with_reducible exact H2_) | with_reducible exact H | (rw [hy324]; exact H) | exact H
                              have Ny324 := Aside0.mk hy324
                              clear hy324
                              have H' := Aside0.mk H
                              clear H
                              have hcz40_0 : wc.cell? ⟨gb314, 0, none⟩ = some (.int .u8 ((rd_T78 l0 x25_2).f0)) := (blk_cell BK314.out 0).trans rfl
                              have hcz40_1 : wc.cell? ⟨gb314, 1, none⟩ = some (.int .u32 ((rd_T78 l0 x25_2).f1)) := (blk_cell BK314.out 1).trans rfl
                              have hcz40_2 : wc.cell? ⟨gb314, 2, none⟩ = some (.int .u32 ((rd_T78 l0 x25_2).f2)) := (blk_cell BK314.out 2).trans rfl
                              have hfz40_0 := blk_frozen BK314.out 0
                              have hfz40_1 := blk_frozen BK314.out 1
                              have hfz40_2 := blk_frozen BK314.out 2
                              go_wp2_with (first | ((with_reducible refine gate_builtin (b := .append) (xs := #[.tmp 66, .tmp 73]) rfl ?_); at_builtin; refine Kd.R_append k78 (w0 := w) w.heap.size rfl (.tmp 66) (.tmp 73) 47 78 (.agg #[(.int .u8 0), (.int .u32 0), (.int .u32 0)]) 12 rfl Try.underlying47 info78 rfl (by decide) (by omega) u8 x8_2 (⟨a1, (a2 + 1) % 4294967296, ((rd_T78 l0 x25_2).f2)⟩ : S78) [.int .u8 a1, .int .u32 ((a2 + 1) % 4294967296), .int .u32 ((rd_T78 l0 x25_2).f2)] (fun k_ => k_ ≠ gb314) (fun _ => False) rfl rfl ?aP (fun _ hk => hk.elim) ?aF ?aO ?aB ?aS ?aL ?_; (case aP => exact k78_mkM _ _ _ (⟨a1, (a2 + 1) % 4294967296, ((rd_T78 l0 x25_2).f2)⟩ : S78)); (case aB => exact (by repeat (first | (with_reducible first | exact HB.out | apply below_alloc | apply pw_below_drewN | apply below_drew1 | refine below_set ?_ GE314.out) | exact HB.out))); (case aF => exact (fun k_ hk => Kd.freshB (g := gb314) (o := .cells #[.int .u8 ((rd_T78 l0 x25_2).f0), .int .u32 ((rd_T78 l0 x25_2).f1), .int .u32 ((rd_T78 l0 x25_2).f2)] 78 (0, 0)) (by (with_reducible repeat (first | refine blk_drewN ?_ _ | refine blk_drew ?_ | refine blk_alloc ?_ _)); exact BK314.out) k_ hk)); (case aO => exact (by (with_reducible repeat (first | apply Kd.R_alloc | apply Kd.R_drewN | apply Kd.R_drew)); exact HO_8.out)); (case aS => exact (below_size (by repeat (first | (with_reducible first | exact HB.out | apply below_alloc | apply pw_below_drewN | apply below_drew1 | refine below_set ?_ GE314.out) | exact HB.out)))); (case aL => have := LMc39.out; omega); intro v325 w41 ho hb hg hat; rw [← Ny324.out] at ho; have n0_ := Aside0.mk (blk_grown (g := gb314) (o := .cells #[.int .u8 ((rd_T78 l0 x25_2).f0), .int .u32 ((rd_T78 l0 x25_2).f1), .int .u32 ((rd_T78 l0 x25_2).f2)] 78 (0, 0)) (by (with_reducible repeat (first | refine blk_drewN ?_ _ | refine blk_drew ?_ | refine blk_alloc ?_ _)); exact BK314.out) hg (Kd.R_away HO_8.out (fun _ hk => hk))); have n1_ := Aside0.mk (hb); have n2_ := Aside0.mk (ho); clear BK314; clear HB; clear HO_8; have BK314 := n0_; have HB := n1_; have HO326 := n2_; clear n0_ n1_ n2_; clear ho hb hg hat))
                              go_roundg kj14
                              case measure => have := HJ3.out; have := HK2.out; have := HJ14.out; omega
                              case rel => exact ⟨(y324), (wrap64 (x25_2 + 1)), (by first | rfl | (simp; done) | (simp [*]; done)), H', ⟨by have := HJ3.out; have := HK2.out; have := HJ14.out; omega⟩, ⟨by (with_reducible repeat (first | apply Kd.R_alloc | apply Kd.R_drewN | apply Kd.R_drew)); exact Kd.R_mono HO326.out (fun _ hk => trivial)⟩, ⟨by repeat (first | (with_reducible first | exact HB.out | apply below_alloc | apply pw_below_drewN | apply below_drew1 | refine below_set ?_ GE314.out) | exact HB.out)⟩⟩
                            · rw [if_neg c39] at H
                              exact absurd H (by simp)
                          · rw [if_neg c38] at H
                            have c38b0 : decide (a2 < ((rd_T78 l0 x25_2).f2)) = false := decide_eq_false c38
                            clear c38
                            have H' := Aside0.mk H
                            clear H
                            have hcz42_0 : wc.cell? ⟨gb314, 0, none⟩ = some (.int .u8 ((rd_T78 l0 x25_2).f0)) := (blk_cell BK314.out 0).trans rfl
                            have hcz42_1 : wc.cell? ⟨gb314, 1, none⟩ = some (.int .u32 ((rd_T78 l0 x25_2).f1)) := (blk_cell BK314.out 1).trans rfl
                            have hcz42_2 : wc.cell? ⟨gb314, 2, none⟩ = some (.int .u32 ((rd_T78 l0 x25_2).f2)) := (blk_cell BK314.out 2).trans rfl
                            have hfz42_0 := blk_frozen BK314.out 0
                            have hfz42_1 := blk_frozen BK314.out 1
                            have hfz42_2 := blk_frozen BK314.out 2
                            go_wp2
                            go_roundg kj14
                            case measure => have := HJ3.out; have := HK2.out; have := HJ14.out; omega
                            case rel => exact ⟨(x8_2), (wrap64 (x25_2 + 1)), (by first | rfl | (simp; done) | (simp [*]; done)), H', ⟨by have := HJ3.out; have := HK2.out; have := HJ14.out; omega⟩, ⟨by (with_reducible repeat (first | apply Kd.R_alloc | apply Kd.R_drewN | apply Kd.R_drew)); exact Kd.R_mono HO_8.out (fun _ hk => trivial)⟩, ⟨by repeat (first | (with_reducible first | exact HB.out | apply below_alloc | apply pw_below_drewN | apply below_drew1 | refine below_set ?_ GE314.out) | exact HB.out)⟩⟩
                · rw [if_neg c14] at H
                  exact absurd H (by simp)
              · rw [if_neg c13] at H
                exact absurd H (by simp)
            · rw [if_neg c12] at H
              have c12b0 : decide (x25_2 < (l0.length : Int)) = false := decide_eq_false c12
              clear c12
              by_cases c43 : (x8_2.length : Int) > 64
              · rw [if_pos c43] at H
                have c43b0 : decide (64 < (x8_2.length : Int)) = true := decide_eq_true c43
                have c43b1 : decide (64 < x8_2.length) = true := decide_eq_true (by omega)
                clear c43
                simp only [Option.some.injEq, Prod.mk.injEq] at H
                obtain ⟨rfl, rfl⟩ := H
                obtain ⟨Ao44, co44, eo44⟩ := Kd.R_slice HO_8.out
                subst eo44
                go_wp2
                go_ret2
                exact ⟨_, by first | rfl | (simp [errW_none, errW_some] <;> rfl) | (simp [*, errW_none, errW_some] <;> rfl), by first | exact Kd.R_nil _ _ _ _ _ | exact Kd.N_nil _ _ _ _ _ | exact Kd.V_nil _ _ _ _ _ | exact Kd.Q_nil _ _ _ _ _ | exact Kd.S_nil _ _ _ _ _, by repeat (first | (with_reducible first | exact HB.out | apply below_alloc | apply pw_below_drewN | apply below_drew1) | exact HB.out)⟩
              · rw [if_neg c43] at H
                have c43b0 : decide (64 < (x8_2.length : Int)) = false := decide_eq_false c43
                have c43b1 : decide (64 < x8_2.length) = false := decide_eq_false (by omega)
                clear c43
                simp only [Option.some.injEq, Prod.mk.injEq] at H
                obtain ⟨rfl, rfl⟩ := H
                obtain ⟨Ao45, co45, eo45⟩ := Kd.R_slice HO_8.out
                subst eo45
                go_wp2
                go_ret2
                exact ⟨_, by first | rfl | (simp [errW_none, errW_some] <;> rfl) | (simp [*, errW_none, errW_some] <;> rfl), by (with_reducible repeat (first | apply Kd.R_alloc | apply Kd.R_drewN | apply Kd.R_drew)); exact HO_8.out, by repeat (first | (with_reducible first | exact HB.out | apply below_alloc | apply pw_below_drewN | apply below_drew1) | exact HB.out)⟩
end Go.Proofs.Ytiminjibcafkaaa.X
