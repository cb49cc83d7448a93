-- MADE BY wip/prx.py (the kit's printer, with contracts proved by hand). Not trusted: Lean checks it.
import Derived.Test.YtiminjibcafkaaaDoorKTJ7
import Derived.Test.YtiminjibcafkaaaDoorKTJ15
import Derived.Test.YtiminjibcafkaaaDoorKTX15
import Derived.Test.YtiminjibcafkaaaDoorKTJ10
namespace Go.Proofs.YtiminjibcafkaaaDoor.X
open Go.RowKit Go.Proofs.YtiminjibcafkaaaDoorW.PrintWords Go.Proofs.YtiminjibcafkaaaDoorW.PrintLast Go.Proofs.YtiminjibcafkaaaDoorW.PrintMore
attribute [local go_sem] max2_int min2_int max_two min_two max_three min_three max_four min_four   -- for this text's walks alone
set_option linter.unusedVariables false
set_option linter.unusedSimpArgs false
attribute [local go_sem high] eqA65
/-! ### tidingslaw01_awake: function 15 -/
def tidingslaw01_awake.f (k : Nat)  : Option (Bool) := (know_Add.f k (([(⟨0, 1, 1⟩ : S65), (⟨0, 3, 5⟩ : S65)] : List (S65))) 0 2).bind fun bt263 => (if bt263.2.isNone = true then (if (bt263.1.length : Int) = 1 then (if 0 < (bt263.1.length : Int) then (if (((rd_T65 bt263.1 0).f0) == 0 && (((rd_T65 bt263.1 0).f1) == 1 && (((rd_T65 bt263.1 0).f2) == 5))) = true then ((know_Has.f k bt263.1 0 4).bind fun t269 => (if t269 = true then ((know_Has.f k bt263.1 1 4).bind fun t270 => (some (!t270))) else (some false))) else (some false)) else (none)) else (some false)) else (some false))
theorem tidingslaw01_awake.mono : ∀ k, LeO (tidingslaw01_awake.f k ) (tidingslaw01_awake.f (k + 1) ) := by
  intro  k
  unfold tidingslaw01_awake.f
  repeat' first
      | (with_reducible exact know_Add.mono _ _ _ _)
      | (with_reducible exact know_Has.mono _ _ _ _)
      | (with_reducible exact LeO.refl _)
      | (with_reducible exact LeO.none _)
      | (with_reducible refine LeO.ite ?_ ?_)
      | (with_reducible refine LeO.bind ?_ (fun _ => ?_))
      | exact know_Add.mono _ _ _ _
      | exact know_Has.mono _ _ _ _
      | exact LeO.none _
      | refine LeO.ite ?_ ?_
      | refine LeO.bind ?_ (fun _ => ?_)
set_option maxHeartbeats 8000000 in
set_option maxRecDepth 100000 in
theorem tidingslaw01_awake.calls (k : Nat)  (r : Bool) (w : World) (h : tidingslaw01_awake.f k  = some r) :
    Calls Tryd.prog 15 #[] w fun e w' => e = .returned (.bool r) ∧ Below w.heap.size w w' := by
  have hu65 := Tryd.underlying65
  have hu30 := Tryd.underlying30
  have hu52 := Tryd.underlying52
  have HB := Aside0.mk (Below.refl w.heap.size w)
  have H : ((know_Add.f k (([(⟨0, 1, 1⟩ : S65), (⟨0, 3, 5⟩ : S65)] : List (S65))) 0 2).bind fun bt263 => (if bt263.2.isNone = true then (if (bt263.1.length : Int) = 1 then (if 0 < (bt263.1.length : Int) then (if (((rd_T65 bt263.1 0).f0) == 0 && (((rd_T65 bt263.1 0).f1) == 1 && (((rd_T65 bt263.1 0).f2) == 5))) = true then ((know_Has.f k bt263.1 0 4).bind fun t269 => (if t269 = true then ((know_Has.f k bt263.1 1 4).bind fun t270 => (some (!t270))) else (some false))) else (some false)) else (none)) else (some false)) else (some false))) = some r := h
  clear h
  obtain ⟨y260, hy260⟩ : ∃ y_ : List (S65), y_ = (([(⟨0, 1, 1⟩ : S65), (⟨0, 3, 5⟩ : S65)] : List (S65))) := ⟨_, rfl⟩
  replace H : ((know_Add.f k y260 0 2).bind fun bt263 => (if bt263.2.isNone = true then (if (bt263.1.length : Int) = 1 then (if 0 < (bt263.1.length : Int) then (if (((rd_T65 bt263.1 0).f0) == 0 && (((rd_T65 bt263.1 0).f1) == 1 && (((rd_T65 bt263.1 0).f2) == 5))) = true then ((know_Has.f k bt263.1 0 4).bind fun t269 => (if t269 = true then ((know_Has.f k bt263.1 1 4).bind fun t270 => (some (!t270))) else (some false))) else (some false)) else (none)) else (some false)) else (some false))) = some r := by first | (rw [hy260]; with_reducible exact H) | (have H2_ := (Option.bind_some _ _).symm.trans H; rw [hy260]; with_reducible exact H2_) | (have H2_ := (Option.bind_some _ _).symm.trans H; with_reducible exact H2_) | with_reducible exact H | (rw [hy260]; exact H) | exact H
  have Ny260 := Aside0.mk hy260
  clear hy260
  replace H := Option.bind_eq_some_iff.mp H
  obtain ⟨⟨t263, t264⟩, A10, H⟩ := H
  replace H : (if t264.isNone = true then (if (t263.length : Int) = 1 then (if 0 < (t263.length : Int) then (if (((rd_T65 t263 0).f0) == 0 && (((rd_T65 t263 0).f1) == 1 && (((rd_T65 t263 0).f2) == 5))) = true then ((know_Has.f k t263 0 4).bind fun t269 => (if t269 = true then ((know_Has.f k t263 1 4).bind fun t270 => (some (!t270))) else (some false))) else (some false)) else (none)) else (some false)) else (some false)) = some r := H
  have A1 := Aside0.mk A10
  clear A10
  rcases t264 with _ | q267
  · have H1 : (if (t263.length : Int) = 1 then (if 0 < (t263.length : Int) then (if (((rd_T65 t263 0).f0) == 0 && (((rd_T65 t263 0).f1) == 1 && (((rd_T65 t263 0).f2) == 5))) = true then ((know_Has.f k t263 0 4).bind fun t269 => (if t269 = true then ((know_Has.f k t263 1 4).bind fun t270 => (some (!t270))) else (some false))) else (some false)) else (none)) else (some false)) = some r := by rw [if_pos (show (none : Option Int).isNone = true by rfl)] at H; exact H
    clear H
    have H := H1
    clear H1
    try simp only [errW_none, errW_some]
    by_cases c2 : (t263.length : Int) = 1
    · rw [if_pos c2] at H
      have c2b0 : ((t263.length : Int) == 1) = true := beq_iff_eq.mpr c2
      have c2b1 : ((t263.length : Int) != 1) = false := bne_eq_false_iff_eq.mpr c2
      clear c2
      by_cases c3 : 0 < (t263.length : Int)
      · rw [if_pos c3] at H
        have c3b0 : decide (0 < (t263.length : Int)) = true := decide_eq_true c3
        have c3b1 : decide (0 < t263.length) = true := decide_eq_true (by omega)
        clear c3
        by_cases c4 : (((rd_T65 t263 0).f0) == 0 && (((rd_T65 t263 0).f1) == 1 && (((rd_T65 t263 0).f2) == 5))) = true
        · rw [if_pos c4] at H
          have c4b0 : (((rd_T65 t263 0).f0) == 0 && (((rd_T65 t263 0).f1) == 1 && (((rd_T65 t263 0).f2) == 5))) = true := c4
          (try (have c4b1 : decide (((rd_T65 t263 0).f0) = 0 && (((rd_T65 t263 0).f1) == 1 && (((rd_T65 t263 0).f2) == 5))) = true := by simpa using c4))
          (try (have c4b2 : (((rd_T65 t263 0).f0) == 0 && (((rd_T65 t263 0).f1) == 1 && (((rd_T65 t263 0).f2) == 5))) = true := by simpa using c4))
          clear c4
          replace H := Option.bind_eq_some_iff.mp H
          obtain ⟨t269, A50, H⟩ := H
          replace H : (if t269 = true then ((know_Has.f k t263 1 4).bind fun t270 => (some (!t270))) else (some false)) = some r := H
          have A5 := Aside0.mk A50
          clear A50
          by_cases c6 : t269 = true
          · subst c6
            have H1 : ((know_Has.f k t263 1 4).bind fun t270 => (some (!t270))) = some r := by rw [if_pos rfl] at H; exact H
            clear H
            have H := H1
            clear H1
            replace H := Option.bind_eq_some_iff.mp H
            obtain ⟨t270, A70, H⟩ := H
            replace H : (some (!t270)) = some r := H
            have A7 := Aside0.mk A70
            clear A70
            obtain rfl := Option.some.inj H
            go_enter Tryd.func15, Tryd.ntmps15
            go_wp2_with (first | ((with_reducible refine gate_dst (N := 6) rfl ?_); (try (refine gate_guard (by rfl) ?_; dsimp only)); refine Kd.R_lit k65 _ 65 ?hg (N := 6) ?hd (xs := ([(⟨0, 1, 1⟩ : S65), (⟨0, 3, 5⟩ : S65)] : List (S65))) (inner := [.int .u8 0, .int .u32 1, .int .u32 1, .int .u8 0, .int .u32 3, .int .u32 5]) (ok := fun _ => True) (okp := fun _ => True) ?hr ?hp (fun _ hk => hk) trivial (Below.refl _ _) (Nat.le_refl _) (by simp) ?_; (case hd => rfl); (case hg => rfl); (case hr => first | (go_simp; done) | (go_simp; rfl)); (case hp => exact (Reps.c3 (show Kd.M k65 _ _ _ (⟨0, 1, 1⟩ : S65) [.int .u8 0, .int .u32 1, .int .u32 1] from (k65_mkM _ _ _ (⟨0, 1, 1⟩ : S65) )) (Reps.c3 (show Kd.M k65 _ _ _ (⟨0, 3, 5⟩ : S65) [.int .u8 0, .int .u32 3, .int .u32 5] from (k65_mkM _ _ _ (⟨0, 3, 5⟩ : S65) )) (Reps.none _ _)))); intro v261 w8 ho9 hb hg_ hnew_; clear hg_ hnew_; (first | rw [← Ny260.out] at ho9 | (simp only [Int.reduceToNat] at ho9; rw [← Ny260.out] at ho9)); have n0_ := Aside0.mk (Kd.R_lower ho9 (below_size (by repeat (first | (with_reducible first | exact HB.out | apply below_alloc | apply pw_below_drewN | apply below_drew1) | exact HB.out)))); have n1_ := Aside0.mk (below_step (by repeat (first | (with_reducible first | exact HB.out | apply below_alloc | apply pw_below_drewN | apply below_drew1) | exact HB.out)) hb); clear HB; have HO262 := n0_; have HB := n1_; clear n0_ n1_; clear hb ho9; obtain ⟨Ao10, co10, eo10⟩ := Kd.R_slice HO262.out; subst eo10) | ((with_reducible refine gate_callee (f := 16) rfl ?_); refine goesL_ (some 7) rfl rfl Tryd.func16 (by kernel_rfl) rfl #[.slice Ao10 y260.length co10, .int .u8 0, .int .u32 2] rfl (by (try simp only [List.map_toArray, List.map_cons, List.map_nil]); first | done | rfl | (simp only [List.length_drop, List.length_take]; rfl)) ?_; (with_reducible refine (know_Add.calls k _ _ y260 0 2 t263 none _ ?side1 ?side2 A1.out).mono ?_); (case side1 => repeat (first | exact (Kd.R_reads' HO262.out).2.2 | (with_reducible refine Kd.C_alloc ?_ _) | (with_reducible refine Kd.C_drewN ?_ _) | (with_reducible refine Kd.C_drew ?_))); (case side2 => exact (Kd.R_reads' HO262.out).2.1); rintro e w11 ⟨v265, rfl, ho0, hb⟩; refine ⟨_, rfl, ?_⟩; have n0_ := Aside0.mk (Kd.R_elder' (by (with_reducible repeat (first | apply Kd.R_alloc | apply Kd.R_drewN | apply Kd.R_drew)); exact HO262.out) (Kd.R_base ho0) hb); have n1_ := Aside0.mk (Kd.R_lower (Kd.R_new' ho0 (Kd.R_lt (by (with_reducible repeat (first | apply Kd.R_alloc | apply Kd.R_drewN | apply Kd.R_drew)); exact HO262.out))) (below_size (by repeat (first | (with_reducible first | exact HB.out | apply below_alloc | apply pw_below_drewN | apply below_drew1) | exact HB.out)))); have n2_ := Aside0.mk (below_step (by repeat (first | (with_reducible first | exact HB.out | apply below_alloc | apply pw_below_drewN | apply below_drew1) | exact HB.out)) hb); clear HO262; clear HB; have HO262 := n0_; have HO266 := n1_; have HB := n2_; clear n0_ n1_ n2_; (try clear hb); (try clear hb2); (try clear hk); (try clear hi); (try clear ho0); (try simp only [errW_none, errW_some]); obtain ⟨Ao12, co12, eo12⟩ := Kd.R_slice HO266.out; subst eo12; have p268 : 0 ≤ (0 : Int) := (by omega); have q268 : 0 < (t263.length : Int) := of_decide_eq_true (by first | (with_reducible assumption) | assumption); obtain ⟨ad268, e268, hx268_0, hx268_1, hx268_2⟩ := at_T65 (Kd.R_reads' HO266.out).2.2 0 p268 q268; cases e268; have qi268 : (0 < t263.length) = True := eq_true (by omega); (try rw [show ((0 : Int)).toNat = 0 from rfl] at hx268_0); (try rw [show 0 * 3 = 0 from rfl] at hx268_0); (try rw [Addr.add_zero'] at hx268_0); (try rw [show ((0 : Int)).toNat = 0 from rfl] at hx268_1); (try rw [show 0 * 3 = 0 from rfl] at hx268_1); (try rw [Addr.add_zero'] at hx268_1); (try rw [show ((0 : Int)).toNat = 0 from rfl] at hx268_2); (try rw [show 0 * 3 = 0 from rfl] at hx268_2); (try rw [Addr.add_zero'] at hx268_2); replace p268 := eq_true p268; replace q268 := eq_true q268) | (go_at_call 22; (with_reducible refine (know_Has.calls k _ _ t263 0 4 true _ ?side1 ?side2 A5.out).mono ?_); (case side1 => repeat (first | exact (Kd.R_reads' HO266.out).2.2 | (with_reducible refine Kd.C_alloc ?_ _) | (with_reducible refine Kd.C_drewN ?_ _) | (with_reducible refine Kd.C_drew ?_))); (case side2 => exact (Kd.R_reads' HO266.out).2.1); rintro e w13 ⟨rfl, hb⟩; have n0_ := Aside0.mk (Kd.R_below (by (with_reducible repeat (first | apply Kd.R_alloc | apply Kd.R_drewN | apply Kd.R_drew)); exact HO262.out) hb); have n1_ := Aside0.mk (Kd.R_below (by (with_reducible repeat (first | apply Kd.R_alloc | apply Kd.R_drewN | apply Kd.R_drew)); exact HO266.out) hb); have n2_ := Aside0.mk (below_step (by repeat (first | (with_reducible first | exact HB.out | apply below_alloc | apply pw_below_drewN | apply below_drew1) | exact HB.out)) hb); clear HO262; clear HO266; clear HB; have HO262 := n0_; have HO266 := n1_; have HB := n2_; clear n0_ n1_ n2_; (try clear hb); (try clear hb2); (try clear hk); (try clear hi)) | (go_at_call 22; (with_reducible refine (know_Has.calls k _ _ t263 1 4 t270 _ ?side1 ?side2 A7.out).mono ?_); (case side1 => repeat (first | exact (Kd.R_reads' HO266.out).2.2 | (with_reducible refine Kd.C_alloc ?_ _) | (with_reducible refine Kd.C_drewN ?_ _) | (with_reducible refine Kd.C_drew ?_))); (case side2 => exact (Kd.R_reads' HO266.out).2.1); rintro e w14 ⟨rfl, hb⟩; have n0_ := Aside0.mk (Kd.R_below (by (with_reducible repeat (first | apply Kd.R_alloc | apply Kd.R_drewN | apply Kd.R_drew)); exact HO262.out) hb); have n1_ := Aside0.mk (Kd.R_below (by (with_reducible repeat (first | apply Kd.R_alloc | apply Kd.R_drewN | apply Kd.R_drew)); exact HO266.out) hb); have n2_ := Aside0.mk (below_step (by repeat (first | (with_reducible first | exact HB.out | apply below_alloc | apply pw_below_drewN | apply below_drew1) | exact HB.out)) hb); clear HO262; clear HO266; clear HB; have HO262 := n0_; have HO266 := n1_; have HB := n2_; clear n0_ n1_ n2_; (try clear hb); (try clear hb2); (try clear hk); (try clear hi)))
            go_ret
            exact ⟨by first | rfl | (simp [errW_none, errW_some] <;> rfl) | (simp [*, errW_none, errW_some] <;> rfl), by repeat (first | (with_reducible first | exact HB.out | apply below_alloc | apply pw_below_drewN | apply below_drew1) | exact HB.out)⟩
          · replace c6 := Bool.eq_false_iff.mpr c6
            subst c6
            have H1 : (some false) = some r := by rw [if_neg (show ¬ (false = true) by decide)] at H; exact H
            clear H
            have H := H1
            clear H1
            obtain rfl := Option.some.inj H
            go_enter Tryd.func15, Tryd.ntmps15
            go_wp2_with (first | ((with_reducible refine gate_dst (N := 6) rfl ?_); (try (refine gate_guard (by rfl) ?_; dsimp only)); refine Kd.R_lit k65 _ 65 ?hg (N := 6) ?hd (xs := ([(⟨0, 1, 1⟩ : S65), (⟨0, 3, 5⟩ : S65)] : List (S65))) (inner := [.int .u8 0, .int .u32 1, .int .u32 1, .int .u8 0, .int .u32 3, .int .u32 5]) (ok := fun _ => True) (okp := fun _ => True) ?hr ?hp (fun _ hk => hk) trivial (Below.refl _ _) (Nat.le_refl _) (by simp) ?_; (case hd => rfl); (case hg => rfl); (case hr => first | (go_simp; done) | (go_simp; rfl)); (case hp => exact (Reps.c3 (show Kd.M k65 _ _ _ (⟨0, 1, 1⟩ : S65) [.int .u8 0, .int .u32 1, .int .u32 1] from (k65_mkM _ _ _ (⟨0, 1, 1⟩ : S65) )) (Reps.c3 (show Kd.M k65 _ _ _ (⟨0, 3, 5⟩ : S65) [.int .u8 0, .int .u32 3, .int .u32 5] from (k65_mkM _ _ _ (⟨0, 3, 5⟩ : S65) )) (Reps.none _ _)))); intro v261 w15 ho16 hb hg_ hnew_; clear hg_ hnew_; (first | rw [← Ny260.out] at ho16 | (simp only [Int.reduceToNat] at ho16; rw [← Ny260.out] at ho16)); have n0_ := Aside0.mk (Kd.R_lower ho16 (below_size (by repeat (first | (with_reducible first | exact HB.out | apply below_alloc | apply pw_below_drewN | apply below_drew1) | exact HB.out)))); have n1_ := Aside0.mk (below_step (by repeat (first | (with_reducible first | exact HB.out | apply below_alloc | apply pw_below_drewN | apply below_drew1) | exact HB.out)) hb); clear HB; have HO262 := n0_; have HB := n1_; clear n0_ n1_; clear hb ho16; obtain ⟨Ao17, co17, eo17⟩ := Kd.R_slice HO262.out; subst eo17) | ((with_reducible refine gate_callee (f := 16) rfl ?_); refine goesL_ (some 7) rfl rfl Tryd.func16 (by kernel_rfl) rfl #[.slice Ao17 y260.length co17, .int .u8 0, .int .u32 2] rfl (by (try simp only [List.map_toArray, List.map_cons, List.map_nil]); first | done | rfl | (simp only [List.length_drop, List.length_take]; rfl)) ?_; (with_reducible refine (know_Add.calls k _ _ y260 0 2 t263 none _ ?side1 ?side2 A1.out).mono ?_); (case side1 => repeat (first | exact (Kd.R_reads' HO262.out).2.2 | (with_reducible refine Kd.C_alloc ?_ _) | (with_reducible refine Kd.C_drewN ?_ _) | (with_reducible refine Kd.C_drew ?_))); (case side2 => exact (Kd.R_reads' HO262.out).2.1); rintro e w18 ⟨v265, rfl, ho0, hb⟩; refine ⟨_, rfl, ?_⟩; have n0_ := Aside0.mk (Kd.R_elder' (by (with_reducible repeat (first | apply Kd.R_alloc | apply Kd.R_drewN | apply Kd.R_drew)); exact HO262.out) (Kd.R_base ho0) hb); have n1_ := Aside0.mk (Kd.R_lower (Kd.R_new' ho0 (Kd.R_lt (by (with_reducible repeat (first | apply Kd.R_alloc | apply Kd.R_drewN | apply Kd.R_drew)); exact HO262.out))) (below_size (by repeat (first | (with_reducible first | exact HB.out | apply below_alloc | apply pw_below_drewN | apply below_drew1) | exact HB.out)))); have n2_ := Aside0.mk (below_step (by repeat (first | (with_reducible first | exact HB.out | apply below_alloc | apply pw_below_drewN | apply below_drew1) | exact HB.out)) hb); clear HO262; clear HB; have HO262 := n0_; have HO266 := n1_; have HB := n2_; clear n0_ n1_ n2_; (try clear hb); (try clear hb2); (try clear hk); (try clear hi); (try clear ho0); (try simp only [errW_none, errW_some]); obtain ⟨Ao19, co19, eo19⟩ := Kd.R_slice HO266.out; subst eo19; have p268 : 0 ≤ (0 : Int) := (by omega); have q268 : 0 < (t263.length : Int) := of_decide_eq_true (by first | (with_reducible assumption) | assumption); obtain ⟨ad268, e268, hx268_0, hx268_1, hx268_2⟩ := at_T65 (Kd.R_reads' HO266.out).2.2 0 p268 q268; cases e268; have qi268 : (0 < t263.length) = True := eq_true (by omega); (try rw [show ((0 : Int)).toNat = 0 from rfl] at hx268_0); (try rw [show 0 * 3 = 0 from rfl] at hx268_0); (try rw [Addr.add_zero'] at hx268_0); (try rw [show ((0 : Int)).toNat = 0 from rfl] at hx268_1); (try rw [show 0 * 3 = 0 from rfl] at hx268_1); (try rw [Addr.add_zero'] at hx268_1); (try rw [show ((0 : Int)).toNat = 0 from rfl] at hx268_2); (try rw [show 0 * 3 = 0 from rfl] at hx268_2); (try rw [Addr.add_zero'] at hx268_2); replace p268 := eq_true p268; replace q268 := eq_true q268) | (go_at_call 22; (with_reducible refine (know_Has.calls k _ _ t263 0 4 false _ ?side1 ?side2 A5.out).mono ?_); (case side1 => repeat (first | exact (Kd.R_reads' HO266.out).2.2 | (with_reducible refine Kd.C_alloc ?_ _) | (with_reducible refine Kd.C_drewN ?_ _) | (with_reducible refine Kd.C_drew ?_))); (case side2 => exact (Kd.R_reads' HO266.out).2.1); rintro e w20 ⟨rfl, hb⟩; have n0_ := Aside0.mk (Kd.R_below (by (with_reducible repeat (first | apply Kd.R_alloc | apply Kd.R_drewN | apply Kd.R_drew)); exact HO262.out) hb); have n1_ := Aside0.mk (Kd.R_below (by (with_reducible repeat (first | apply Kd.R_alloc | apply Kd.R_drewN | apply Kd.R_drew)); exact HO266.out) hb); have n2_ := Aside0.mk (below_step (by repeat (first | (with_reducible first | exact HB.out | apply below_alloc | apply pw_below_drewN | apply below_drew1) | exact HB.out)) hb); clear HO262; clear HO266; clear HB; have HO262 := n0_; have HO266 := n1_; have HB := n2_; clear n0_ n1_ n2_; (try clear hb); (try clear hb2); (try clear hk); (try clear hi)))
            go_ret
            exact ⟨by first | rfl | (simp [errW_none, errW_some] <;> rfl) | (simp [*, errW_none, errW_some] <;> rfl), by repeat (first | (with_reducible first | exact HB.out | apply below_alloc | apply pw_below_drewN | apply below_drew1) | exact HB.out)⟩
        · rw [if_neg c4] at H
          have c4b0 : (((rd_T65 t263 0).f0) == 0 && (((rd_T65 t263 0).f1) == 1 && (((rd_T65 t263 0).f2) == 5))) = false := by simpa using c4
          (try (have c4b1 : decide (((rd_T65 t263 0).f0) = 0 && (((rd_T65 t263 0).f1) == 1 && (((rd_T65 t263 0).f2) == 5))) = false := by simpa using c4))
          (try (have c4b2 : (((rd_T65 t263 0).f0) == 0 && (((rd_T65 t263 0).f1) == 1 && (((rd_T65 t263 0).f2) == 5))) = false := by simpa using c4))
          (try (have c4b3 : ¬ (((rd_T65 t263 0).f0) = 0 && (((rd_T65 t263 0).f1) == 1 && (((rd_T65 t263 0).f2) == 5))) := by simpa using c4))
          clear c4
          obtain rfl := Option.some.inj H
          go_enter Tryd.func15, Tryd.ntmps15
          go_wp2_with (first | ((with_reducible refine gate_dst (N := 6) rfl ?_); (try (refine gate_guard (by rfl) ?_; dsimp only)); refine Kd.R_lit k65 _ 65 ?hg (N := 6) ?hd (xs := ([(⟨0, 1, 1⟩ : S65), (⟨0, 3, 5⟩ : S65)] : List (S65))) (inner := [.int .u8 0, .int .u32 1, .int .u32 1, .int .u8 0, .int .u32 3, .int .u32 5]) (ok := fun _ => True) (okp := fun _ => True) ?hr ?hp (fun _ hk => hk) trivial (Below.refl _ _) (Nat.le_refl _) (by simp) ?_; (case hd => rfl); (case hg => rfl); (case hr => first | (go_simp; done) | (go_simp; rfl)); (case hp => exact (Reps.c3 (show Kd.M k65 _ _ _ (⟨0, 1, 1⟩ : S65) [.int .u8 0, .int .u32 1, .int .u32 1] from (k65_mkM _ _ _ (⟨0, 1, 1⟩ : S65) )) (Reps.c3 (show Kd.M k65 _ _ _ (⟨0, 3, 5⟩ : S65) [.int .u8 0, .int .u32 3, .int .u32 5] from (k65_mkM _ _ _ (⟨0, 3, 5⟩ : S65) )) (Reps.none _ _)))); intro v261 w21 ho22 hb hg_ hnew_; clear hg_ hnew_; (first | rw [← Ny260.out] at ho22 | (simp only [Int.reduceToNat] at ho22; rw [← Ny260.out] at ho22)); have n0_ := Aside0.mk (Kd.R_lower ho22 (below_size (by repeat (first | (with_reducible first | exact HB.out | apply below_alloc | apply pw_below_drewN | apply below_drew1) | exact HB.out)))); have n1_ := Aside0.mk (below_step (by repeat (first | (with_reducible first | exact HB.out | apply below_alloc | apply pw_below_drewN | apply below_drew1) | exact HB.out)) hb); clear HB; have HO262 := n0_; have HB := n1_; clear n0_ n1_; clear hb ho22; obtain ⟨Ao23, co23, eo23⟩ := Kd.R_slice HO262.out; subst eo23) | ((with_reducible refine gate_callee (f := 16) rfl ?_); refine goesL_ (some 7) rfl rfl Tryd.func16 (by kernel_rfl) rfl #[.slice Ao23 y260.length co23, .int .u8 0, .int .u32 2] rfl (by (try simp only [List.map_toArray, List.map_cons, List.map_nil]); first | done | rfl | (simp only [List.length_drop, List.length_take]; rfl)) ?_; (with_reducible refine (know_Add.calls k _ _ y260 0 2 t263 none _ ?side1 ?side2 A1.out).mono ?_); (case side1 => repeat (first | exact (Kd.R_reads' HO262.out).2.2 | (with_reducible refine Kd.C_alloc ?_ _) | (with_reducible refine Kd.C_drewN ?_ _) | (with_reducible refine Kd.C_drew ?_))); (case side2 => exact (Kd.R_reads' HO262.out).2.1); rintro e w24 ⟨v265, rfl, ho0, hb⟩; refine ⟨_, rfl, ?_⟩; have n0_ := Aside0.mk (Kd.R_elder' (by (with_reducible repeat (first | apply Kd.R_alloc | apply Kd.R_drewN | apply Kd.R_drew)); exact HO262.out) (Kd.R_base ho0) hb); have n1_ := Aside0.mk (Kd.R_lower (Kd.R_new' ho0 (Kd.R_lt (by (with_reducible repeat (first | apply Kd.R_alloc | apply Kd.R_drewN | apply Kd.R_drew)); exact HO262.out))) (below_size (by repeat (first | (with_reducible first | exact HB.out | apply below_alloc | apply pw_below_drewN | apply below_drew1) | exact HB.out)))); have n2_ := Aside0.mk (below_step (by repeat (first | (with_reducible first | exact HB.out | apply below_alloc | apply pw_below_drewN | apply below_drew1) | exact HB.out)) hb); clear HO262; clear HB; have HO262 := n0_; have HO266 := n1_; have HB := n2_; clear n0_ n1_ n2_; (try clear hb); (try clear hb2); (try clear hk); (try clear hi); (try clear ho0); (try simp only [errW_none, errW_some]); obtain ⟨Ao25, co25, eo25⟩ := Kd.R_slice HO266.out; subst eo25; have p268 : 0 ≤ (0 : Int) := (by omega); have q268 : 0 < (t263.length : Int) := of_decide_eq_true (by first | (with_reducible assumption) | assumption); obtain ⟨ad268, e268, hx268_0, hx268_1, hx268_2⟩ := at_T65 (Kd.R_reads' HO266.out).2.2 0 p268 q268; cases e268; have qi268 : (0 < t263.length) = True := eq_true (by omega); (try rw [show ((0 : Int)).toNat = 0 from rfl] at hx268_0); (try rw [show 0 * 3 = 0 from rfl] at hx268_0); (try rw [Addr.add_zero'] at hx268_0); (try rw [show ((0 : Int)).toNat = 0 from rfl] at hx268_1); (try rw [show 0 * 3 = 0 from rfl] at hx268_1); (try rw [Addr.add_zero'] at hx268_1); (try rw [show ((0 : Int)).toNat = 0 from rfl] at hx268_2); (try rw [show 0 * 3 = 0 from rfl] at hx268_2); (try rw [Addr.add_zero'] at hx268_2); replace p268 := eq_true p268; replace q268 := eq_true q268))
          go_ret
          exact ⟨by first | rfl | (simp [errW_none, errW_some] <;> rfl) | (simp [*, errW_none, errW_some] <;> rfl), by repeat (first | (with_reducible first | exact HB.out | apply below_alloc | apply pw_below_drewN | apply below_drew1) | exact HB.out)⟩
      · rw [if_neg c3] at H
        exact absurd H (by simp)
    · rw [if_neg c2] at H
      have c2b0 : ((t263.length : Int) == 1) = false := beq_eq_false_iff_ne.mpr c2
      have c2b1 : ((t263.length : Int) != 1) = true := bne_iff_ne.mpr c2
      obtain rfl := Option.some.inj H
      go_enter Tryd.func15, Tryd.ntmps15
      go_wp2_with (first | ((with_reducible refine gate_dst (N := 6) rfl ?_); (try (refine gate_guard (by rfl) ?_; dsimp only)); refine Kd.R_lit k65 _ 65 ?hg (N := 6) ?hd (xs := ([(⟨0, 1, 1⟩ : S65), (⟨0, 3, 5⟩ : S65)] : List (S65))) (inner := [.int .u8 0, .int .u32 1, .int .u32 1, .int .u8 0, .int .u32 3, .int .u32 5]) (ok := fun _ => True) (okp := fun _ => True) ?hr ?hp (fun _ hk => hk) trivial (Below.refl _ _) (Nat.le_refl _) (by simp) ?_; (case hd => rfl); (case hg => rfl); (case hr => first | (go_simp; done) | (go_simp; rfl)); (case hp => exact (Reps.c3 (show Kd.M k65 _ _ _ (⟨0, 1, 1⟩ : S65) [.int .u8 0, .int .u32 1, .int .u32 1] from (k65_mkM _ _ _ (⟨0, 1, 1⟩ : S65) )) (Reps.c3 (show Kd.M k65 _ _ _ (⟨0, 3, 5⟩ : S65) [.int .u8 0, .int .u32 3, .int .u32 5] from (k65_mkM _ _ _ (⟨0, 3, 5⟩ : S65) )) (Reps.none _ _)))); intro v261 w26 ho27 hb hg_ hnew_; clear hg_ hnew_; (first | rw [← Ny260.out] at ho27 | (simp only [Int.reduceToNat] at ho27; rw [← Ny260.out] at ho27)); have n0_ := Aside0.mk (Kd.R_lower ho27 (below_size (by repeat (first | (with_reducible first | exact HB.out | apply below_alloc | apply pw_below_drewN | apply below_drew1) | exact HB.out)))); have n1_ := Aside0.mk (below_step (by repeat (first | (with_reducible first | exact HB.out | apply below_alloc | apply pw_below_drewN | apply below_drew1) | exact HB.out)) hb); clear HB; have HO262 := n0_; have HB := n1_; clear n0_ n1_; clear hb ho27; obtain ⟨Ao28, co28, eo28⟩ := Kd.R_slice HO262.out; subst eo28) | ((with_reducible refine gate_callee (f := 16) rfl ?_); refine goesL_ (some 7) rfl rfl Tryd.func16 (by kernel_rfl) rfl #[.slice Ao28 y260.length co28, .int .u8 0, .int .u32 2] rfl (by (try simp only [List.map_toArray, List.map_cons, List.map_nil]); first | done | rfl | (simp only [List.length_drop, List.length_take]; rfl)) ?_; (with_reducible refine (know_Add.calls k _ _ y260 0 2 t263 none _ ?side1 ?side2 A1.out).mono ?_); (case side1 => repeat (first | exact (Kd.R_reads' HO262.out).2.2 | (with_reducible refine Kd.C_alloc ?_ _) | (with_reducible refine Kd.C_drewN ?_ _) | (with_reducible refine Kd.C_drew ?_))); (case side2 => exact (Kd.R_reads' HO262.out).2.1); rintro e w29 ⟨v265, rfl, ho0, hb⟩; refine ⟨_, rfl, ?_⟩; have n0_ := Aside0.mk (Kd.R_elder' (by (with_reducible repeat (first | apply Kd.R_alloc | apply Kd.R_drewN | apply Kd.R_drew)); exact HO262.out) (Kd.R_base ho0) hb); have n1_ := Aside0.mk (Kd.R_lower (Kd.R_new' ho0 (Kd.R_lt (by (with_reducible repeat (first | apply Kd.R_alloc | apply Kd.R_drewN | apply Kd.R_drew)); exact HO262.out))) (below_size (by repeat (first | (with_reducible first | exact HB.out | apply below_alloc | apply pw_below_drewN | apply below_drew1) | exact HB.out)))); have n2_ := Aside0.mk (below_step (by repeat (first | (with_reducible first | exact HB.out | apply below_alloc | apply pw_below_drewN | apply below_drew1) | exact HB.out)) hb); clear HO262; clear HB; have HO262 := n0_; have HO266 := n1_; have HB := n2_; clear n0_ n1_ n2_; (try clear hb); (try clear hb2); (try clear hk); (try clear hi); (try clear ho0); (try simp only [errW_none, errW_some]); obtain ⟨Ao30, co30, eo30⟩ := Kd.R_slice HO266.out; subst eo30))
      go_ret
      exact ⟨by first | rfl | (simp [errW_none, errW_some] <;> rfl) | (simp [*, errW_none, errW_some] <;> rfl), by repeat (first | (with_reducible first | exact HB.out | apply below_alloc | apply pw_below_drewN | apply below_drew1) | exact HB.out)⟩
  · have H1 : (some false) = some r := by rw [if_neg (show ¬ (some q267).isNone = true by simp)] at H; exact H
    clear H
    have H := H1
    clear H1
    try simp only [errW_none, errW_some]
    obtain rfl := Option.some.inj H
    go_enter Tryd.func15, Tryd.ntmps15
    go_wp2_with (first | ((with_reducible refine gate_dst (N := 6) rfl ?_); (try (refine gate_guard (by rfl) ?_; dsimp only)); refine Kd.R_lit k65 _ 65 ?hg (N := 6) ?hd (xs := ([(⟨0, 1, 1⟩ : S65), (⟨0, 3, 5⟩ : S65)] : List (S65))) (inner := [.int .u8 0, .int .u32 1, .int .u32 1, .int .u8 0, .int .u32 3, .int .u32 5]) (ok := fun _ => True) (okp := fun _ => True) ?hr ?hp (fun _ hk => hk) trivial (Below.refl _ _) (Nat.le_refl _) (by simp) ?_; (case hd => rfl); (case hg => rfl); (case hr => first | (go_simp; done) | (go_simp; rfl)); (case hp => exact (Reps.c3 (show Kd.M k65 _ _ _ (⟨0, 1, 1⟩ : S65) [.int .u8 0, .int .u32 1, .int .u32 1] from (k65_mkM _ _ _ (⟨0, 1, 1⟩ : S65) )) (Reps.c3 (show Kd.M k65 _ _ _ (⟨0, 3, 5⟩ : S65) [.int .u8 0, .int .u32 3, .int .u32 5] from (k65_mkM _ _ _ (⟨0, 3, 5⟩ : S65) )) (Reps.none _ _)))); intro v261 w31 ho32 hb hg_ hnew_; clear hg_ hnew_; (first | rw [← Ny260.out] at ho32 | (simp only [Int.reduceToNat] at ho32; rw [← Ny260.out] at ho32)); have n0_ := Aside0.mk (Kd.R_lower ho32 (below_size (by repeat (first | (with_reducible first | exact HB.out | apply below_alloc | apply pw_below_drewN | apply below_drew1) | exact HB.out)))); have n1_ := Aside0.mk (below_step (by repeat (first | (with_reducible first | exact HB.out | apply below_alloc | apply pw_below_drewN | apply below_drew1) | exact HB.out)) hb); clear HB; have HO262 := n0_; have HB := n1_; clear n0_ n1_; clear hb ho32; obtain ⟨Ao33, co33, eo33⟩ := Kd.R_slice HO262.out; subst eo33) | ((with_reducible refine gate_callee (f := 16) rfl ?_); refine goesL_ (some 7) rfl rfl Tryd.func16 (by kernel_rfl) rfl #[.slice Ao33 y260.length co33, .int .u8 0, .int .u32 2] rfl (by (try simp only [List.map_toArray, List.map_cons, List.map_nil]); first | done | rfl | (simp only [List.length_drop, List.length_take]; rfl)) ?_; (with_reducible refine (know_Add.calls k _ _ y260 0 2 t263 (some q267) _ ?side1 ?side2 A1.out).mono ?_); (case side1 => repeat (first | exact (Kd.R_reads' HO262.out).2.2 | (with_reducible refine Kd.C_alloc ?_ _) | (with_reducible refine Kd.C_drewN ?_ _) | (with_reducible refine Kd.C_drew ?_))); (case side2 => exact (Kd.R_reads' HO262.out).2.1); rintro e w34 ⟨v265, rfl, ho0, hb⟩; refine ⟨_, rfl, ?_⟩; have n0_ := Aside0.mk (Kd.R_elder' (by (with_reducible repeat (first | apply Kd.R_alloc | apply Kd.R_drewN | apply Kd.R_drew)); exact HO262.out) (Kd.R_base ho0) hb); have n1_ := Aside0.mk (Kd.R_lower (Kd.R_new' ho0 (Kd.R_lt (by (with_reducible repeat (first | apply Kd.R_alloc | apply Kd.R_drewN | apply Kd.R_drew)); exact HO262.out))) (below_size (by repeat (first | (with_reducible first | exact HB.out | apply below_alloc | apply pw_below_drewN | apply below_drew1) | exact HB.out)))); have n2_ := Aside0.mk (below_step (by repeat (first | (with_reducible first | exact HB.out | apply below_alloc | apply pw_below_drewN | apply below_drew1) | exact HB.out)) hb); clear HO262; clear HB; have HO262 := n0_; have HO266 := n1_; have HB := n2_; clear n0_ n1_ n2_; (try clear hb); (try clear hb2); (try clear hk); (try clear hi); (try clear ho0); (try simp only [errW_none, errW_some])))
    go_ret
    exact ⟨by first | rfl | (simp [errW_none, errW_some] <;> rfl) | (simp [*, errW_none, errW_some] <;> rfl), by repeat (first | (with_reducible first | exact HB.out | apply below_alloc | apply pw_below_drewN | apply below_drew1) | exact HB.out)⟩
/-! ### know_Drop: function 17 -/
mutual
def know_Drop.j0 : Nat → List (S65) → Int → Int → Bool → Option ((List (S65)) × Option Int)
  | 0, _, _, _, _ => none
  | k + 1, x0, x1, x2, x21 => if x21 = true then (some (([] : List (S65)), some 9)) else (know_Drop.l0 k x1 x2 ([] : List (S65)) x0 (x0.length : Int) 0)
def know_Drop.l0 : Nat → Int → Int → List (S65) → List (S65) → Int → Int → Option ((List (S65)) × Option Int)
  | 0, _, _, _, _, _, _ => none
  | k + 1, x1, x2, x8, x23, x24, x25 => if x25 < x24 then (if 0 ≤ x25 then (if x25 < (x23.length : Int) then (if ((rd_T65 x23 x25).f0) = x1 then (if x2 < ((rd_T65 x23 x25).f1) then (know_Drop.j2 k x1 x2 x8 x23 x24 x25 true ((rd_T65 x23 x25).f0) ((rd_T65 x23 x25).f1) ((rd_T65 x23 x25).f2)) else (know_Drop.j2 k x1 x2 x8 x23 x24 x25 (decide (x2 > ((rd_T65 x23 x25).f2))) ((rd_T65 x23 x25).f0) ((rd_T65 x23 x25).f1) ((rd_T65 x23 x25).f2))) else (know_Drop.j2 k x1 x2 x8 x23 x24 x25 true ((rd_T65 x23 x25).f0) ((rd_T65 x23 x25).f1) ((rd_T65 x23 x25).f2))) else (none)) else (none)) else (if (x8.length : Int) > 64 then (some (([] : List (S65)), some 5)) else (some (x8, none)))
def know_Drop.j2 : Nat → Int → Int → List (S65) → List (S65) → Int → Int → Bool → Int → Int → Int → Option ((List (S65)) × Option Int)
  | 0, _, _, _, _, _, _, _, _, _, _ => none
  | k + 1, x1, x2, x8, x23, x24, x25, x44, x275000, x275001, x275002 => if x44 = true then (if x8.length < 11728124029610 then (know_Drop.l0 k x1 x2 (x8 ++ [(⟨x275000, x275001, x275002⟩ : S65)]) x23 x24 (wrap64 (x25 + 1))) else (none)) else (if x275001 < x2 then (if x8.length < 11728124029610 then ((some (x8 ++ [(⟨x1, x275001, (x2 - 1) % 4294967296⟩ : S65)] : List (S65))).bind fun y278 => (if x2 < x275002 then (if y278.length < 11728124029610 then (know_Drop.l0 k x1 x2 (y278 ++ [(⟨x1, (x2 + 1) % 4294967296, x275002⟩ : S65)]) x23 x24 (wrap64 (x25 + 1))) else (none)) else (know_Drop.l0 k x1 x2 y278 x23 x24 (wrap64 (x25 + 1))))) else (none)) else (if x2 < x275002 then (if x8.length < 11728124029610 then (know_Drop.l0 k x1 x2 (x8 ++ [(⟨x1, (x2 + 1) % 4294967296, x275002⟩ : S65)]) x23 x24 (wrap64 (x25 + 1))) else (none)) else (know_Drop.l0 k x1 x2 x8 x23 x24 (wrap64 (x25 + 1)))))
end
def know_Drop.f (k : Nat) (l0 : List (S65)) (a1 : Int) (a2 : Int) : Option ((List (S65)) × Option Int) := (know_Right.f k l0).bind fun t271 => (if t271 = true then ((know_run.f a1 a2 a2).bind fun t272 => (know_Drop.j0 k l0 a1 a2 (!t272))) else (know_Drop.j0 k l0 a1 a2 true))
set_option maxHeartbeats 8000000 in
set_option maxRecDepth 100000 in
theorem know_Drop.calls (k : Nat) (A0 : Option Addr) (c0 : Nat) (l0 : List (S65)) (a1 : Int) (a2 : Int) (r1 : List (S65)) (r2 : Option Int) (w : World) (hr0 : Kd.C k65 w A0 l0.length l0) (hc0 : l0.length ≤ c0) (h : know_Drop.f k l0 a1 a2 = some (r1, r2)) :
    Calls Tryd.prog 17 #[.slice A0 l0.length c0, .int .u8 a1, .int .u32 a2] w fun e w' => ∃ v0_ : Value, e = .returned (.tuple #[v0_, errW r2]) ∧ Kd.R k65 65 w' w.heap.size (fun _ => True) v0_ r1 ∧ Below w.heap.size w w' := by
  have hu65 := Tryd.underlying65
  have hu30 := Tryd.underlying30
  have hu52 := Tryd.underlying52
  have HR0 := Aside0.mk hr0
  have HC0 := Aside0.mk hc0
  clear hr0 hc0
  have HB := Aside0.mk (Below.refl w.heap.size w)
  have H : ((know_Right.f k l0).bind fun t271 => (if t271 = true then ((know_run.f a1 a2 a2).bind fun t272 => (know_Drop.j0 k l0 a1 a2 (!t272))) else (know_Drop.j0 k l0 a1 a2 true))) = some (r1, r2) := h
  clear h
  have HC4 := Aside0.mk H
  clear H
  go_enter Tryd.func17, Tryd.ntmps17
  go_upto_region 1 with (fail)
  go_cut [21] (fun v21 wc => ∃ (kq : Nat) (x21_3 : Bool), v21 = .bool x21_3 ∧ Aside0 (know_Drop.j0 kq l0 a1 a2 x21_3 = some (r1, r2)) ∧ Aside0 (kq ≤ k) ∧ Aside0 (Below w.heap.size w wc))
  case first =>
    have H := HC4.out
    clear HC4
    replace H := Option.bind_eq_some_iff.mp H
    obtain ⟨t271, A50, H⟩ := H
    replace H : (if t271 = true then ((know_run.f a1 a2 a2).bind fun t272 => (know_Drop.j0 k l0 a1 a2 (!t272))) else (know_Drop.j0 k l0 a1 a2 true)) = some (r1, r2) := H
    have A5 := Aside0.mk A50
    clear A50
    by_cases c6 : t271 = true
    · subst c6
      have H1 : ((know_run.f a1 a2 a2).bind fun t272 => (know_Drop.j0 k l0 a1 a2 (!t272))) = some (r1, r2) := by rw [if_pos rfl] at H; exact H
      clear H
      have H := H1
      clear H1
      replace H := Option.bind_eq_some_iff.mp H
      obtain ⟨t272, A70, H⟩ := H
      replace H : (know_Drop.j0 k l0 a1 a2 (!t272)) = some (r1, r2) := H
      have A7 := Aside0.mk A70
      clear A70
      have H' := Aside0.mk H
      clear H
      go_wp2_with (first | ((with_reducible refine gate_callee (f := 20) rfl ?_); refine goesL_ (some 12) rfl rfl Tryd.func20 (by kernel_rfl) rfl #[.slice A0 l0.length c0] rfl (by (try simp only [List.map_toArray, List.map_cons, List.map_nil]); first | done | rfl | (simp only [List.length_drop, List.length_take]; rfl)) ?_; (with_reducible refine (know_Right.calls k _ _ l0 true _ ?side1 ?side2 A5.out).mono ?_); (case side1 => repeat (first | exact (Kd.C_below HR0.out HB.out) | (with_reducible refine Kd.C_alloc ?_ _) | (with_reducible refine Kd.C_drewN ?_ _) | (with_reducible refine Kd.C_drew ?_))); (case side2 => exact HC0.out); rintro e w8 ⟨rfl, hb⟩; refine ⟨_, rfl, ?_⟩; have n0_ := Aside0.mk (below_step (by repeat (first | (with_reducible first | exact HB.out | apply below_alloc | apply pw_below_drewN | apply below_drew1) | exact HB.out)) hb); clear HB; have HB := n0_; clear n0_; (try clear hb); (try clear hb2); (try clear hk); (try clear hi)) | (go_at_call 39; (with_reducible refine (know_run.calls a1 a2 a2 t272 _ A7.out).mono ?_); rintro e w9 ⟨rfl, hb⟩; have n0_ := Aside0.mk (below_step (by repeat (first | (with_reducible first | exact HB.out | apply below_alloc | apply pw_below_drewN | apply below_drew1) | exact HB.out)) hb); clear HB; have HB := n0_; clear n0_; (try clear hb); (try clear hb2); (try clear hk); (try clear hi)))
      go_meet
      case rel => exact ⟨_, (!t272), (by first | rfl | (simp; done) | (simp [*]; done)), H', ⟨by first | omega | exact Nat.le_refl _⟩, ⟨by repeat (first | (with_reducible first | exact HB.out | apply below_alloc | apply pw_below_drewN | apply below_drew1) | exact HB.out)⟩⟩
    · replace c6 := Bool.eq_false_iff.mpr c6
      subst c6
      have H1 : (know_Drop.j0 k l0 a1 a2 true) = some (r1, r2) := by rw [if_neg (show ¬ (false = true) by decide)] at H; exact H
      clear H
      have H := H1
      clear H1
      have H' := Aside0.mk H
      clear H
      go_wp2_with (first | ((with_reducible refine gate_callee (f := 20) rfl ?_); refine goesL_ (some 12) rfl rfl Tryd.func20 (by kernel_rfl) rfl #[.slice A0 l0.length c0] rfl (by (try simp only [List.map_toArray, List.map_cons, List.map_nil]); first | done | rfl | (simp only [List.length_drop, List.length_take]; rfl)) ?_; (with_reducible refine (know_Right.calls k _ _ l0 false _ ?side1 ?side2 A5.out).mono ?_); (case side1 => repeat (first | exact (Kd.C_below HR0.out HB.out) | (with_reducible refine Kd.C_alloc ?_ _) | (with_reducible refine Kd.C_drewN ?_ _) | (with_reducible refine Kd.C_drew ?_))); (case side2 => exact HC0.out); rintro e w10 ⟨rfl, hb⟩; refine ⟨_, rfl, ?_⟩; have n0_ := Aside0.mk (below_step (by repeat (first | (with_reducible first | exact HB.out | apply below_alloc | apply pw_below_drewN | apply below_drew1) | exact HB.out)) hb); clear HB; have HB := n0_; clear n0_; (try clear hb); (try clear hb2); (try clear hk); (try clear hi)))
      go_meet
      case rel => exact ⟨_, (true), (by first | rfl | (simp; done) | (simp [*]; done)), H', ⟨by first | omega | exact Nat.le_refl _⟩, ⟨by repeat (first | (with_reducible first | exact HB.out | apply below_alloc | apply pw_below_drewN | apply below_drew1) | exact HB.out)⟩⟩
  case rest =>
    clear HC4
    try clear c1
    try clear c2
    try clear p2
    try clear c6
    obtain ⟨kq, x21_3, rfl, HA, HJ3, HB⟩ := hcut
    cases kq with
    | zero => exact absurd HA.out (by simp [know_Drop.j0])
    | succ kj3 =>
      have H := HA.out
      clear HA
      simp only [know_Drop.j0] at H
      by_cases c11 : x21_3 = true
      · subst c11
        have H1 : (some (([] : List (S65)), some 9)) = some (r1, r2) := by rw [if_pos rfl] at H; exact H
        clear H
        have H := H1
        clear H1
        simp only [Option.some.injEq, Prod.mk.injEq] at H
        obtain ⟨rfl, rfl⟩ := H
        go_wp2
        go_ret2
        exact ⟨_, by first | rfl | (simp [errW_none, errW_some] <;> rfl) | (simp [*, errW_none, errW_some] <;> rfl), by first | exact Kd.R_nil _ _ _ _ _ | exact Kd.N_nil _ _ _ _ _ | exact Kd.V_nil _ _ _ _ _ | exact Kd.Q_nil _ _ _ _ _ | exact Kd.S_nil _ _ _ _ _, by repeat (first | (with_reducible first | exact HB.out | apply below_alloc | apply pw_below_drewN | apply below_drew1) | exact HB.out)⟩
      · replace c11 := Bool.eq_false_iff.mpr c11
        subst c11
        have H1 : (know_Drop.l0 kj3 a1 a2 ([] : List (S65)) l0 (l0.length : Int) 0) = some (r1, r2) := by rw [if_neg (show ¬ (false = true) by decide)] at H; exact H
        clear H
        have H := H1
        clear H1
        have H' := Aside0.mk H
        clear H
        go_wp2
        go_loopg [8, 25] kj3 (fun kq v8 v25 w' => ∃ (x8_2 : List (S65)) (x25_2 : Int), v25 = .int .i64 x25_2 ∧ Aside0 (know_Drop.l0 kq a1 a2 x8_2 l0 (l0.length : Int) x25_2 = some (r1, r2)) ∧ Aside0 (kq ≤ kj3) ∧ Aside0 (Kd.R k65 65 w' w.heap.size (fun _ => True) v8 x8_2) ∧ Aside0 (Below w.heap.size w w'))
        case atStart => exact ⟨(([] : List (S65))), (0), (by first | rfl | (simp; done) | (simp [*]; done)), H', ⟨Nat.le_refl _⟩, ⟨by first | exact Kd.R_nil _ _ _ _ _ | exact Kd.N_nil _ _ _ _ _ | exact Kd.V_nil _ _ _ _ _ | exact Kd.Q_nil _ _ _ _ _ | exact Kd.S_nil _ _ _ _ _⟩, ⟨by repeat (first | (with_reducible first | exact HB.out | apply below_alloc | apply pw_below_drewN | apply below_drew1) | exact HB.out)⟩⟩
        case round =>
          clear H'
          try clear c1
          try clear c2
          try clear p2
          try clear c6
          try clear c11
          try clear p2
          obtain ⟨x8_2, x25_2, rfl, HA, HK2, HO_8, HB⟩ := hrel
          cases gk with
          | zero => exact absurd HA.out (by simp [know_Drop.l0])
          | succ k2 =>
            have H := HA.out
            clear HA
            simp only [know_Drop.l0] at H
            by_cases c12 : x25_2 < (l0.length : Int)
            · rw [if_pos c12] at H
              have c12b0 : decide (x25_2 < (l0.length : Int)) = true := decide_eq_true c12
              clear c12
              by_cases c13 : 0 ≤ x25_2
              · rw [if_pos c13] at H
                have c13b0 : decide (0 ≤ x25_2) = true := decide_eq_true c13
                clear c13
                by_cases c14 : x25_2 < (l0.length : Int)
                · rw [if_pos c14] at H
                  have c14b0 : decide (x25_2 < (l0.length : Int)) = true := decide_eq_true c14
                  clear c14
                  have HC15 := Aside0.mk H
                  clear H
                  have p273 : 0 ≤ (x25_2 : Int) := of_decide_eq_true (by first | (with_reducible assumption) | assumption)
                  have q273 : x25_2 < (l0.length : Int) := of_decide_eq_true (by first | (with_reducible assumption) | assumption)
                  obtain ⟨ad273, e273, hx273_0, hx273_1, hx273_2⟩ := at_T65 HR0.out x25_2 p273 q273
                  cases e273
                  replace hx273_0 := (HB.out.cell (World.block_lt_of_cell? w _ hx273_0)).trans hx273_0
                  replace hx273_1 := (HB.out.cell (World.block_lt_of_cell? w _ hx273_1)).trans hx273_1
                  replace hx273_2 := (HB.out.cell (World.block_lt_of_cell? w _ hx273_2)).trans hx273_2
                  replace p273 := eq_true p273
                  replace q273 := eq_true q273
                  go_upto_region 7 with (first | ((with_reducible refine gate_dst (N := 10) rfl ?_); refine box_event ?hg (N := 10) ?hd (cs := #[.int .u8 0, .int .u32 0, .int .u32 0]) (t := 65) ?hr ?_; (case hd => rfl); (case hg => rfl); (case hr => first | (go_simp; done) | (go_simp; rfl)); intro gb274 hg w16 hbox hb; have n0_ := Aside0.mk (Kd.R_below (Kd.R_elderB (by (with_reducible repeat (first | apply Kd.R_alloc | apply Kd.R_drewN | apply Kd.R_drew)); exact HO_8.out) gb274 (Nat.le_of_eq hg.symm)) hb); have n1_ := Aside0.mk (below_step (by repeat (first | (with_reducible first | exact HB.out | apply below_alloc | apply pw_below_drewN | apply below_drew1) | exact HB.out)) hb); have n2_ := Aside0.mk (hbox); have n3_ := Aside0.mk ((by rw [hg]; exact (below_size (by repeat (first | (with_reducible first | exact HB.out | apply below_alloc | apply pw_below_drewN | apply below_drew1) | exact HB.out))) : w.heap.size ≤ gb274)); have n4_ := Aside0.mk ((by rw [hg]; exact (below_size (by repeat (first | (with_reducible first | exact HB.out | apply below_alloc | apply pw_below_drewN | apply below_drew1) | exact HB.out))) : w.heap.size ≤ gb274)); clear HO_8; clear HB; have HO_8 := n0_; have HB := n1_; have BK274 := n2_; have GW274 := n3_; have GE274 := n4_; clear n0_ n1_ n2_ n3_ n4_; clear hb hbox hg; have hcz17_0 : w16.cell? ⟨gb274, 0, none⟩ = some (.int .u8 0) := (blk_cell BK274.out 0).trans rfl; have hcz17_1 : w16.cell? ⟨gb274, 1, none⟩ = some (.int .u32 0) := (blk_cell BK274.out 1).trans rfl; have hcz17_2 : w16.cell? ⟨gb274, 2, none⟩ = some (.int .u32 0) := (blk_cell BK274.out 2).trans rfl; have hfz17_0 := blk_frozen BK274.out 0; have hfz17_1 := blk_frozen BK274.out 1; have hfz17_2 := blk_frozen BK274.out 2))
                  (try simp only [Act.put, List.setIfInBounds_toArray, List.set_cons_zero, List.set_cons_succ])
                  go_cut [44] (fun v44 wc => ∃ (kq : Nat) (x44_14 : Bool), v44 = .bool x44_14 ∧ Aside0 (know_Drop.j2 kq a1 a2 x8_2 l0 (l0.length : Int) x25_2 x44_14 ((rd_T65 l0 x25_2).f0) ((rd_T65 l0 x25_2).f1) ((rd_T65 l0 x25_2).f2) = some (r1, r2)) ∧ Aside0 (kq ≤ k2) ∧ Aside0 (Kd.R k65 65 wc w.heap.size (fun k_ => k_ ≠ gb274) u8 x8_2) ∧ Aside0 (wc.heap[gb274]? = some (.cells #[.int .u8 ((rd_T65 l0 x25_2).f0), .int .u32 ((rd_T65 l0 x25_2).f1), .int .u32 ((rd_T65 l0 x25_2).f2)] 65 (0, 0))) ∧ Aside0 (Below w.heap.size w wc))
                  case first =>
                    have H := HC15.out
                    clear HC15
                    by_cases c18 : ((rd_T65 l0 x25_2).f0) = a1
                    · rw [if_pos c18] at H
                      have c18b0 : (((rd_T65 l0 x25_2).f0) == a1) = true := beq_iff_eq.mpr c18
                      have c18b1 : (((rd_T65 l0 x25_2).f0) != a1) = false := bne_eq_false_iff_eq.mpr c18
                      clear c18
                      (first | rw [c18b0] | (simp only [i64_w, i32_w]; rw [c18b0]) | skip)
                      by_cases c19 : a2 < ((rd_T65 l0 x25_2).f1)
                      · rw [if_pos c19] at H
                        have c19b0 : decide (a2 < ((rd_T65 l0 x25_2).f1)) = true := decide_eq_true c19
                        clear c19
                        have H' := Aside0.mk H
                        clear H
                        have hcz20_0 : w16.cell? ⟨gb274, 0, none⟩ = some (.int .u8 0) := (blk_cell BK274.out 0).trans rfl
                        have hcz20_1 : w16.cell? ⟨gb274, 1, none⟩ = some (.int .u32 0) := (blk_cell BK274.out 1).trans rfl
                        have hcz20_2 : w16.cell? ⟨gb274, 2, none⟩ = some (.int .u32 0) := (blk_cell BK274.out 2).trans rfl
                        have hfz20_0 := blk_frozen BK274.out 0
                        have hfz20_1 := blk_frozen BK274.out 1
                        have hfz20_2 := blk_frozen BK274.out 2
                        go_wp2
                        go_meet
                        case rel => exact ⟨_, (true), (by first | rfl | (simp; done) | (simp [*]; done)), H', ⟨by have := HJ3.out; have := HK2.out; first | omega | exact Nat.le_refl _⟩, ⟨by (with_reducible repeat (first | apply Kd.R_alloc | apply Kd.R_drewN | apply Kd.R_drew)); exact Kd.R_mono (Kd.R_far (p := ⟨gb274, 2, none⟩) (Kd.R_far (p := ⟨gb274, 1, none⟩) (Kd.R_far (p := ⟨gb274, 0, none⟩) (Kd.R_mono HO_8.out (fun k_ hk => (⟨hk, hk.2⟩ : _ ∧ k_ ≠ gb274))) (fun _ hk => hk.2) (.int .u8 ((rd_T65 l0 x25_2).f0))) (fun _ hk => hk.2) (.int .u32 ((rd_T65 l0 x25_2).f1))) (fun _ hk => hk.2) (.int .u32 ((rd_T65 l0 x25_2).f2))) (fun _ hk => hk.1.2)⟩, ⟨by (with_reducible repeat (first | refine blk_drewN ?_ _ | refine blk_drew ?_ | refine blk_alloc ?_ _)); refine blk_put (cs := #[.int .u8 ((rd_T65 l0 x25_2).f0), .int .u32 ((rd_T65 l0 x25_2).f1), .int .u32 0]) ?_ 2 _ rfl; (with_reducible repeat (first | refine blk_drewN ?_ _ | refine blk_drew ?_ | refine blk_alloc ?_ _)); refine blk_put (cs := #[.int .u8 ((rd_T65 l0 x25_2).f0), .int .u32 0, .int .u32 0]) ?_ 1 _ rfl; (with_reducible repeat (first | refine blk_drewN ?_ _ | refine blk_drew ?_ | refine blk_alloc ?_ _)); refine blk_put (cs := #[.int .u8 0, .int .u32 0, .int .u32 0]) ?_ 0 _ rfl; (with_reducible repeat (first | refine blk_drewN ?_ _ | refine blk_drew ?_ | refine blk_alloc ?_ _)); exact BK274.out⟩, ⟨by repeat (first | (with_reducible first | exact HB.out | apply below_alloc | apply pw_below_drewN | apply below_drew1 | refine below_set ?_ GE274.out) | exact HB.out)⟩⟩
                      · rw [if_neg c19] at H
                        have c19b0 : decide (a2 < ((rd_T65 l0 x25_2).f1)) = false := decide_eq_false c19
                        clear c19
                        have H' := Aside0.mk H
                        clear H
                        have hcz21_0 : w16.cell? ⟨gb274, 0, none⟩ = some (.int .u8 0) := (blk_cell BK274.out 0).trans rfl
                        have hcz21_1 : w16.cell? ⟨gb274, 1, none⟩ = some (.int .u32 0) := (blk_cell BK274.out 1).trans rfl
                        have hcz21_2 : w16.cell? ⟨gb274, 2, none⟩ = some (.int .u32 0) := (blk_cell BK274.out 2).trans rfl
                        have hfz21_0 := blk_frozen BK274.out 0
                        have hfz21_1 := blk_frozen BK274.out 1
                        have hfz21_2 := blk_frozen BK274.out 2
                        go_wp2
                        go_meet
                        case rel => exact ⟨_, (decide (a2 > ((rd_T65 l0 x25_2).f2))), (by first | rfl | (simp; done) | (simp [*]; done)), H', ⟨by have := HJ3.out; have := HK2.out; first | omega | exact Nat.le_refl _⟩, ⟨by (with_reducible repeat (first | apply Kd.R_alloc | apply Kd.R_drewN | apply Kd.R_drew)); exact Kd.R_mono (Kd.R_far (p := ⟨gb274, 2, none⟩) (Kd.R_far (p := ⟨gb274, 1, none⟩) (Kd.R_far (p := ⟨gb274, 0, none⟩) (Kd.R_mono HO_8.out (fun k_ hk => (⟨hk, hk.2⟩ : _ ∧ k_ ≠ gb274))) (fun _ hk => hk.2) (.int .u8 ((rd_T65 l0 x25_2).f0))) (fun _ hk => hk.2) (.int .u32 ((rd_T65 l0 x25_2).f1))) (fun _ hk => hk.2) (.int .u32 ((rd_T65 l0 x25_2).f2))) (fun _ hk => hk.1.2)⟩, ⟨by (with_reducible repeat (first | refine blk_drewN ?_ _ | refine blk_drew ?_ | refine blk_alloc ?_ _)); refine blk_put (cs := #[.int .u8 ((rd_T65 l0 x25_2).f0), .int .u32 ((rd_T65 l0 x25_2).f1), .int .u32 0]) ?_ 2 _ rfl; (with_reducible repeat (first | refine blk_drewN ?_ _ | refine blk_drew ?_ | refine blk_alloc ?_ _)); refine blk_put (cs := #[.int .u8 ((rd_T65 l0 x25_2).f0), .int .u32 0, .int .u32 0]) ?_ 1 _ rfl; (with_reducible repeat (first | refine blk_drewN ?_ _ | refine blk_drew ?_ | refine blk_alloc ?_ _)); refine blk_put (cs := #[.int .u8 0, .int .u32 0, .int .u32 0]) ?_ 0 _ rfl; (with_reducible repeat (first | refine blk_drewN ?_ _ | refine blk_drew ?_ | refine blk_alloc ?_ _)); exact BK274.out⟩, ⟨by repeat (first | (with_reducible first | exact HB.out | apply below_alloc | apply pw_below_drewN | apply below_drew1 | refine below_set ?_ GE274.out) | exact HB.out)⟩⟩
                    · rw [if_neg c18] at H
                      have c18b0 : (((rd_T65 l0 x25_2).f0) == a1) = false := beq_eq_false_iff_ne.mpr c18
                      have c18b1 : (((rd_T65 l0 x25_2).f0) != a1) = true := bne_iff_ne.mpr c18
                      (first | rw [c18b0] | (simp only [i64_w, i32_w]; rw [c18b0]) | skip)
                      have H' := Aside0.mk H
                      clear H
                      have hcz22_0 : w16.cell? ⟨gb274, 0, none⟩ = some (.int .u8 0) := (blk_cell BK274.out 0).trans rfl
                      have hcz22_1 : w16.cell? ⟨gb274, 1, none⟩ = some (.int .u32 0) := (blk_cell BK274.out 1).trans rfl
                      have hcz22_2 : w16.cell? ⟨gb274, 2, none⟩ = some (.int .u32 0) := (blk_cell BK274.out 2).trans rfl
                      have hfz22_0 := blk_frozen BK274.out 0
                      have hfz22_1 := blk_frozen BK274.out 1
                      have hfz22_2 := blk_frozen BK274.out 2
                      go_wp2
                      go_meet
                      case rel => exact ⟨_, (true), (by first | rfl | (simp; done) | (simp [*]; done)), H', ⟨by have := HJ3.out; have := HK2.out; first | omega | exact Nat.le_refl _⟩, ⟨by (with_reducible repeat (first | apply Kd.R_alloc | apply Kd.R_drewN | apply Kd.R_drew)); exact Kd.R_mono (Kd.R_far (p := ⟨gb274, 2, none⟩) (Kd.R_far (p := ⟨gb274, 1, none⟩) (Kd.R_far (p := ⟨gb274, 0, none⟩) (Kd.R_mono HO_8.out (fun k_ hk => (⟨hk, hk.2⟩ : _ ∧ k_ ≠ gb274))) (fun _ hk => hk.2) (.int .u8 ((rd_T65 l0 x25_2).f0))) (fun _ hk => hk.2) (.int .u32 ((rd_T65 l0 x25_2).f1))) (fun _ hk => hk.2) (.int .u32 ((rd_T65 l0 x25_2).f2))) (fun _ hk => hk.1.2)⟩, ⟨by (with_reducible repeat (first | refine blk_drewN ?_ _ | refine blk_drew ?_ | refine blk_alloc ?_ _)); refine blk_put (cs := #[.int .u8 ((rd_T65 l0 x25_2).f0), .int .u32 ((rd_T65 l0 x25_2).f1), .int .u32 0]) ?_ 2 _ rfl; (with_reducible repeat (first | refine blk_drewN ?_ _ | refine blk_drew ?_ | refine blk_alloc ?_ _)); refine blk_put (cs := #[.int .u8 ((rd_T65 l0 x25_2).f0), .int .u32 0, .int .u32 0]) ?_ 1 _ rfl; (with_reducible repeat (first | refine blk_drewN ?_ _ | refine blk_drew ?_ | refine blk_alloc ?_ _)); refine blk_put (cs := #[.int .u8 0, .int .u32 0, .int .u32 0]) ?_ 0 _ rfl; (with_reducible repeat (first | refine blk_drewN ?_ _ | refine blk_drew ?_ | refine blk_alloc ?_ _)); exact BK274.out⟩, ⟨by repeat (first | (with_reducible first | exact HB.out | apply below_alloc | apply pw_below_drewN | apply below_drew1 | refine below_set ?_ GE274.out) | exact HB.out)⟩⟩
                  case rest =>
                    clear HC15
                    try clear c1
                    try clear c2
                    try clear p2
                    try clear q2
                    try clear hx2
                    try clear c6
                    try clear c11
                    try clear c12
                    try clear c12b0
                    try clear c13
                    try clear c13b0
                    try clear c14
                    try clear c14b0
                    try clear c17
                    try clear c18
                    try clear c18b0
                    try clear c18b1
                    try clear c19
                    try clear c19b0
                    try clear c20
                    try clear hcz17_0
                    try clear hcz17_1
                    try clear hcz17_2
                    try clear hcz20_0
                    try clear hcz20_1
                    try clear hcz20_2
                    try clear hcz21_0
                    try clear hcz21_1
                    try clear hcz21_2
                    try clear hcz22_0
                    try clear hcz22_1
                    try clear hcz22_2
                    try clear hfz17_0
                    try clear hfz17_1
                    try clear hfz17_2
                    try clear hfz20_0
                    try clear hfz20_1
                    try clear hfz20_2
                    try clear hfz21_0
                    try clear hfz21_1
                    try clear hfz21_2
                    try clear hfz22_0
                    try clear hfz22_1
                    try clear hfz22_2
                    try clear hx273_0
                    try clear hx273_1
                    try clear hx273_2
                    try clear p2
                    try clear p273
                    try clear q273
                    obtain ⟨kq, x44_14, rfl, HA, HJ14, HO_8, BK274, HB⟩ := hcut
                    cases kq with
                    | zero => exact absurd HA.out (by simp [know_Drop.j2])
                    | succ kj14 =>
                      have H := HA.out
                      clear HA
                      simp only [know_Drop.j2] at H
                      by_cases c23 : x44_14 = true
                      · subst c23
                        have H1 : (if x8_2.length < 11728124029610 then (know_Drop.l0 kj14 a1 a2 (x8_2 ++ [(⟨((rd_T65 l0 x25_2).f0), ((rd_T65 l0 x25_2).f1), ((rd_T65 l0 x25_2).f2)⟩ : S65)]) l0 (l0.length : Int) (wrap64 (x25_2 + 1))) else (none)) = some (r1, r2) := by rw [if_pos rfl] at H; exact H
                        clear H
                        have H := H1
                        clear H1
                        by_cases c24 : x8_2.length < 11728124029610
                        · rw [if_pos c24] at H
                          have LMc24 := Aside0.mk c24
                          clear c24
                          obtain ⟨y275, hy275⟩ : ∃ y_ : List (S65), y_ = (x8_2 ++ [(⟨((rd_T65 l0 x25_2).f0), ((rd_T65 l0 x25_2).f1), ((rd_T65 l0 x25_2).f2)⟩ : S65)]) := ⟨_, rfl⟩
                          replace H : (know_Drop.l0 kj14 a1 a2 y275 l0 (l0.length : Int) (wrap64 (x25_2 + 1))) = some (r1, r2) := by first | (rw [hy275]; with_reducible exact H) | (have H2_ := (Option.bind_some _ _).symm.trans H; rw [hy275]; with_reducible exact H2_) | (have H2_ := (Option.bind_some _ _).symm.trans H; with_reducible exact H2_) | with_reducible exact H | (rw [hy275]; exact H) | exact H
                          have Ny275 := Aside0.mk hy275
                          clear hy275
                          have H' := Aside0.mk H
                          clear H
                          have hcz25_0 : wc.cell? ⟨gb274, 0, none⟩ = some (.int .u8 ((rd_T65 l0 x25_2).f0)) := (blk_cell BK274.out 0).trans rfl
                          have hcz25_1 : wc.cell? ⟨gb274, 1, none⟩ = some (.int .u32 ((rd_T65 l0 x25_2).f1)) := (blk_cell BK274.out 1).trans rfl
                          have hcz25_2 : wc.cell? ⟨gb274, 2, none⟩ = some (.int .u32 ((rd_T65 l0 x25_2).f2)) := (blk_cell BK274.out 2).trans rfl
                          have hfz25_0 := blk_frozen BK274.out 0
                          have hfz25_1 := blk_frozen BK274.out 1
                          have hfz25_2 := blk_frozen BK274.out 2
                          go_wp2_with (first | ((with_reducible refine gate_builtin (b := .append) (xs := #[.tmp 45, .tmp 47]) rfl ?_); at_builtin; refine Kd.R_append k65 (w0 := w) w.heap.size rfl (.tmp 45) (.tmp 47) 39 65 (.agg #[(.int .u8 0), (.int .u32 0), (.int .u32 0)]) 12 rfl Tryd.underlying39 info65 rfl (by decide) (by omega) u8 x8_2 (⟨((rd_T65 l0 x25_2).f0), ((rd_T65 l0 x25_2).f1), ((rd_T65 l0 x25_2).f2)⟩ : S65) [.int .u8 ((rd_T65 l0 x25_2).f0), .int .u32 ((rd_T65 l0 x25_2).f1), .int .u32 ((rd_T65 l0 x25_2).f2)] (fun k_ => k_ ≠ gb274) (fun _ => False) rfl rfl ?aP (fun _ hk => hk.elim) ?aF ?aO ?aB ?aS ?aL ?_; (case aP => exact k65_mkM _ _ _ (⟨((rd_T65 l0 x25_2).f0), ((rd_T65 l0 x25_2).f1), ((rd_T65 l0 x25_2).f2)⟩ : S65)); (case aB => exact (by repeat (first | (with_reducible first | exact HB.out | apply below_alloc | apply pw_below_drewN | apply below_drew1 | refine below_set ?_ GE274.out) | exact HB.out))); (case aF => exact (fun k_ hk => Kd.freshB (g := gb274) (o := .cells #[.int .u8 ((rd_T65 l0 x25_2).f0), .int .u32 ((rd_T65 l0 x25_2).f1), .int .u32 ((rd_T65 l0 x25_2).f2)] 65 (0, 0)) (by (with_reducible repeat (first | refine blk_drewN ?_ _ | refine blk_drew ?_ | refine blk_alloc ?_ _)); exact BK274.out) k_ hk)); (case aO => exact (by (with_reducible repeat (first | apply Kd.R_alloc | apply Kd.R_drewN | apply Kd.R_drew)); exact HO_8.out)); (case aS => exact (below_size (by repeat (first | (with_reducible first | exact HB.out | apply below_alloc | apply pw_below_drewN | apply below_drew1 | refine below_set ?_ GE274.out) | exact HB.out)))); (case aL => have := LMc24.out; omega); intro v276 w26 ho hb hg hat; rw [← Ny275.out] at ho; have n0_ := Aside0.mk (blk_grown (g := gb274) (o := .cells #[.int .u8 ((rd_T65 l0 x25_2).f0), .int .u32 ((rd_T65 l0 x25_2).f1), .int .u32 ((rd_T65 l0 x25_2).f2)] 65 (0, 0)) (by (with_reducible repeat (first | refine blk_drewN ?_ _ | refine blk_drew ?_ | refine blk_alloc ?_ _)); exact BK274.out) hg (Kd.R_away HO_8.out (fun _ hk => hk))); have n1_ := Aside0.mk (hb); have n2_ := Aside0.mk (ho); clear BK274; clear HB; clear HO_8; have BK274 := n0_; have HB := n1_; have HO277 := n2_; clear n0_ n1_ n2_; clear ho hb hg hat))
                          go_roundg kj14
                          case measure => have := HJ3.out; have := HK2.out; have := HJ14.out; omega
                          case rel => exact ⟨(y275), (wrap64 (x25_2 + 1)), (by first | rfl | (simp; done) | (simp [*]; done)), H', ⟨by have := HJ3.out; have := HK2.out; have := HJ14.out; omega⟩, ⟨by (with_reducible repeat (first | apply Kd.R_alloc | apply Kd.R_drewN | apply Kd.R_drew)); exact Kd.R_mono HO277.out (fun _ hk => trivial)⟩, ⟨by repeat (first | (with_reducible first | exact HB.out | apply below_alloc | apply pw_below_drewN | apply below_drew1 | refine below_set ?_ GE274.out) | exact HB.out)⟩⟩
                        · rw [if_neg c24] at H
                          exact absurd H (by simp)
                      · replace c23 := Bool.eq_false_iff.mpr c23
                        subst c23
                        have H1 : (if ((rd_T65 l0 x25_2).f1) < a2 then (if x8_2.length < 11728124029610 then ((some (x8_2 ++ [(⟨a1, ((rd_T65 l0 x25_2).f1), (a2 - 1) % 4294967296⟩ : S65)] : List (S65))).bind fun y278 => (if a2 < ((rd_T65 l0 x25_2).f2) then (if y278.length < 11728124029610 then (know_Drop.l0 kj14 a1 a2 (y278 ++ [(⟨a1, (a2 + 1) % 4294967296, ((rd_T65 l0 x25_2).f2)⟩ : S65)]) l0 (l0.length : Int) (wrap64 (x25_2 + 1))) else (none)) else (know_Drop.l0 kj14 a1 a2 y278 l0 (l0.length : Int) (wrap64 (x25_2 + 1))))) else (none)) else (if a2 < ((rd_T65 l0 x25_2).f2) then (if x8_2.length < 11728124029610 then (know_Drop.l0 kj14 a1 a2 (x8_2 ++ [(⟨a1, (a2 + 1) % 4294967296, ((rd_T65 l0 x25_2).f2)⟩ : S65)]) l0 (l0.length : Int) (wrap64 (x25_2 + 1))) else (none)) else (know_Drop.l0 kj14 a1 a2 x8_2 l0 (l0.length : Int) (wrap64 (x25_2 + 1))))) = some (r1, r2) := by rw [if_neg (show ¬ (false = true) by decide)] at H; exact H
                        clear H
                        have H := H1
                        clear H1
                        by_cases c27 : ((rd_T65 l0 x25_2).f1) < a2
                        · rw [if_pos c27] at H
                          have c27b0 : decide (((rd_T65 l0 x25_2).f1) < a2) = true := decide_eq_true c27
                          clear c27
                          by_cases c28 : x8_2.length < 11728124029610
                          · rw [if_pos c28] at H
                            have LMc28 := Aside0.mk c28
                            clear c28
                            obtain ⟨y278, hy278⟩ : ∃ y_ : List (S65), y_ = (x8_2 ++ [(⟨a1, ((rd_T65 l0 x25_2).f1), (a2 - 1) % 4294967296⟩ : S65)]) := ⟨_, rfl⟩
                            replace H : (if a2 < ((rd_T65 l0 x25_2).f2) then (if y278.length < 11728124029610 then (know_Drop.l0 kj14 a1 a2 (y278 ++ [(⟨a1, (a2 + 1) % 4294967296, ((rd_T65 l0 x25_2).f2)⟩ : S65)]) l0 (l0.length : Int) (wrap64 (x25_2 + 1))) else (none)) else (know_Drop.l0 kj14 a1 a2 y278 l0 (l0.length : Int) (wrap64 (x25_2 + 1)))) = some (r1, r2) := by first | (rw [hy278]; with_reducible exact H) | (have H2_ := (Option.bind_some _ _).symm.trans H; rw [hy278]; with_reducible exact H2_) | (have H2_ := (Option.bind_some _ _).symm.trans H; with_reducible exact H2_) | with_reducible exact H | (rw [hy278]; exact H) | exact H
                            have Ny278 := Aside0.mk hy278
                            clear hy278
                            by_cases c29 : a2 < ((rd_T65 l0 x25_2).f2)
                            · rw [if_pos c29] at H
                              have c29b0 : decide (a2 < ((rd_T65 l0 x25_2).f2)) = true := decide_eq_true c29
                              clear c29
                              by_cases c30 : y278.length < 11728124029610
                              · rw [if_pos c30] at H
                                have LMc30 := Aside0.mk c30
                                clear c30
                                obtain ⟨y281, hy281⟩ : ∃ y_ : List (S65), y_ = (y278 ++ [(⟨a1, (a2 + 1) % 4294967296, ((rd_T65 l0 x25_2).f2)⟩ : S65)]) := ⟨_, rfl⟩
                                replace H : (know_Drop.l0 kj14 a1 a2 y281 l0 (l0.length : Int) (wrap64 (x25_2 + 1))) = some (r1, r2) := by first | (rw [hy281]; with_reducible exact H) | (have H2_ := (Option.bind_some _ _).symm.trans H; rw [hy281]; with_reducible exact H2_) | (have H2_ := (Option.bind_some _ _).symm.trans H; with_reducible exact H2_) | with_reducible exact H | (rw [hy281]; exact H) | exact H
                                have Ny281 := Aside0.mk hy281
                                clear hy281
                                have H' := Aside0.mk H
                                clear H
                                have hcz31_0 : wc.cell? ⟨gb274, 0, none⟩ = some (.int .u8 ((rd_T65 l0 x25_2).f0)) := (blk_cell BK274.out 0).trans rfl
                                have hcz31_1 : wc.cell? ⟨gb274, 1, none⟩ = some (.int .u32 ((rd_T65 l0 x25_2).f1)) := (blk_cell BK274.out 1).trans rfl
                                have hcz31_2 : wc.cell? ⟨gb274, 2, none⟩ = some (.int .u32 ((rd_T65 l0 x25_2).f2)) := (blk_cell BK274.out 2).trans rfl
                                have hfz31_0 := blk_frozen BK274.out 0
                                have hfz31_1 := blk_frozen BK274.out 1
                                have hfz31_2 := blk_frozen BK274.out 2
                                go_wp2_with (first | ((with_reducible refine gate_builtin (b := .append) (xs := #[.tmp 53, .tmp 60]) rfl ?_); at_builtin; refine Kd.R_append k65 (w0 := w) w.heap.size rfl (.tmp 53) (.tmp 60) 39 65 (.agg #[(.int .u8 0), (.int .u32 0), (.int .u32 0)]) 12 rfl Tryd.underlying39 info65 rfl (by decide) (by omega) u8 x8_2 (⟨a1, ((rd_T65 l0 x25_2).f1), (a2 - 1) % 4294967296⟩ : S65) [.int .u8 a1, .int .u32 ((rd_T65 l0 x25_2).f1), .int .u32 ((a2 - 1) % 4294967296)] (fun k_ => k_ ≠ gb274) (fun _ => False) rfl rfl ?aP (fun _ hk => hk.elim) ?aF ?aO ?aB ?aS ?aL ?_; (case aP => exact k65_mkM _ _ _ (⟨a1, ((rd_T65 l0 x25_2).f1), (a2 - 1) % 4294967296⟩ : S65)); (case aB => exact (by repeat (first | (with_reducible first | exact HB.out | apply below_alloc | apply pw_below_drewN | apply below_drew1 | refine below_set ?_ GE274.out) | exact HB.out))); (case aF => exact (fun k_ hk => Kd.freshB (g := gb274) (o := .cells #[.int .u8 ((rd_T65 l0 x25_2).f0), .int .u32 ((rd_T65 l0 x25_2).f1), .int .u32 ((rd_T65 l0 x25_2).f2)] 65 (0, 0)) (by (with_reducible repeat (first | refine blk_drewN ?_ _ | refine blk_drew ?_ | refine blk_alloc ?_ _)); exact BK274.out) k_ hk)); (case aO => exact (by (with_reducible repeat (first | apply Kd.R_alloc | apply Kd.R_drewN | apply Kd.R_drew)); exact HO_8.out)); (case aS => exact (below_size (by repeat (first | (with_reducible first | exact HB.out | apply below_alloc | apply pw_below_drewN | apply below_drew1 | refine below_set ?_ GE274.out) | exact HB.out)))); (case aL => have := LMc28.out; omega); intro v279 w32 ho hb hg hat; rw [← Ny278.out] at ho; have n0_ := Aside0.mk (blk_grown (g := gb274) (o := .cells #[.int .u8 ((rd_T65 l0 x25_2).f0), .int .u32 ((rd_T65 l0 x25_2).f1), .int .u32 ((rd_T65 l0 x25_2).f2)] 65 (0, 0)) (by (with_reducible repeat (first | refine blk_drewN ?_ _ | refine blk_drew ?_ | refine blk_alloc ?_ _)); exact BK274.out) hg (Kd.R_away HO_8.out (fun _ hk => hk))); have n1_ := Aside0.mk (hb); have n2_ := Aside0.mk (ho); clear BK274; clear HB; clear HO_8; have BK274 := n0_; have HB := n1_; have HO280 := n2_; clear n0_ n1_ n2_; clear ho hb hg hat; have hcz33_0 : w32.cell? ⟨gb274, 0, none⟩ = some (.int .u8 ((rd_T65 l0 x25_2).f0)) := (blk_cell BK274.out 0).trans rfl; have hcz33_1 : w32.cell? ⟨gb274, 1, none⟩ = some (.int .u32 ((rd_T65 l0 x25_2).f1)) := (blk_cell BK274.out 1).trans rfl; have hcz33_2 : w32.cell? ⟨gb274, 2, none⟩ = some (.int .u32 ((rd_T65 l0 x25_2).f2)) := (blk_cell BK274.out 2).trans rfl; have hfz33_0 := blk_frozen BK274.out 0; have hfz33_1 := blk_frozen BK274.out 1; have hfz33_2 := blk_frozen BK274.out 2) | ((with_reducible refine gate_builtin (b := .append) (xs := #[.tmp 66, .tmp 73]) rfl ?_); at_builtin; refine Kd.R_append k65 (w0 := w) w.heap.size rfl (.tmp 66) (.tmp 73) 39 65 (.agg #[(.int .u8 0), (.int .u32 0), (.int .u32 0)]) 12 rfl Tryd.underlying39 info65 rfl (by decide) (by omega) v279 y278 (⟨a1, (a2 + 1) % 4294967296, ((rd_T65 l0 x25_2).f2)⟩ : S65) [.int .u8 a1, .int .u32 ((a2 + 1) % 4294967296), .int .u32 ((rd_T65 l0 x25_2).f2)] (fun k_ => k_ ≠ gb274) (fun _ => False) rfl rfl ?aP (fun _ hk => hk.elim) ?aF ?aO ?aB ?aS ?aL ?_; (case aP => exact k65_mkM _ _ _ (⟨a1, (a2 + 1) % 4294967296, ((rd_T65 l0 x25_2).f2)⟩ : S65)); (case aB => exact (by repeat (first | (with_reducible first | exact HB.out | apply below_alloc | apply pw_below_drewN | apply below_drew1 | refine below_set ?_ GE274.out) | exact HB.out))); (case aF => exact (fun k_ hk => Kd.freshB (g := gb274) (o := .cells #[.int .u8 ((rd_T65 l0 x25_2).f0), .int .u32 ((rd_T65 l0 x25_2).f1), .int .u32 ((rd_T65 l0 x25_2).f2)] 65 (0, 0)) (by (with_reducible repeat (first | refine blk_drewN ?_ _ | refine blk_drew ?_ | refine blk_alloc ?_ _)); exact BK274.out) k_ hk)); (case aO => exact (by (with_reducible repeat (first | apply Kd.R_alloc | apply Kd.R_drewN | apply Kd.R_drew)); exact HO280.out)); (case aS => exact (below_size (by repeat (first | (with_reducible first | exact HB.out | apply below_alloc | apply pw_below_drewN | apply below_drew1 | refine below_set ?_ GE274.out) | exact HB.out)))); (case aL => have := LMc30.out; omega); intro v282 w34 ho hb hg hat; rw [← Ny281.out] at ho; have n0_ := Aside0.mk (blk_grown (g := gb274) (o := .cells #[.int .u8 ((rd_T65 l0 x25_2).f0), .int .u32 ((rd_T65 l0 x25_2).f1), .int .u32 ((rd_T65 l0 x25_2).f2)] 65 (0, 0)) (by (with_reducible repeat (first | refine blk_drewN ?_ _ | refine blk_drew ?_ | refine blk_alloc ?_ _)); exact BK274.out) hg (Kd.R_away HO280.out (fun _ hk => hk))); have n1_ := Aside0.mk (hb); have n2_ := Aside0.mk (ho); clear BK274; clear HB; clear HO280; have BK274 := n0_; have HB := n1_; have HO283 := n2_; clear n0_ n1_ n2_; clear ho hb hg hat))
                                go_roundg kj14
                                case measure => have := HJ3.out; have := HK2.out; have := HJ14.out; omega
                                case rel => exact ⟨(y281), (wrap64 (x25_2 + 1)), (by first | rfl | (simp; done) | (simp [*]; done)), H', ⟨by have := HJ3.out; have := HK2.out; have := HJ14.out; omega⟩, ⟨by (with_reducible repeat (first | apply Kd.R_alloc | apply Kd.R_drewN | apply Kd.R_drew)); exact Kd.R_mono HO283.out (fun _ hk => trivial)⟩, ⟨by repeat (first | (with_reducible first | exact HB.out | apply below_alloc | apply pw_below_drewN | apply below_drew1 | refine below_set ?_ GE274.out) | exact HB.out)⟩⟩
                              · rw [if_neg c30] at H
                                exact absurd H (by simp)
                            · rw [if_neg c29] at H
                              have c29b0 : decide (a2 < ((rd_T65 l0 x25_2).f2)) = false := decide_eq_false c29
                              clear c29
                              have H' := Aside0.mk H
                              clear H
                              have hcz35_0 : wc.cell? ⟨gb274, 0, none⟩ = some (.int .u8 ((rd_T65 l0 x25_2).f0)) := (blk_cell BK274.out 0).trans rfl
                              have hcz35_1 : wc.cell? ⟨gb274, 1, none⟩ = some (.int .u32 ((rd_T65 l0 x25_2).f1)) := (blk_cell BK274.out 1).trans rfl
                              have hcz35_2 : wc.cell? ⟨gb274, 2, none⟩ = some (.int .u32 ((rd_T65 l0 x25_2).f2)) := (blk_cell BK274.out 2).trans rfl
                              have hfz35_0 := blk_frozen BK274.out 0
                              have hfz35_1 := blk_frozen BK274.out 1
                              have hfz35_2 := blk_frozen BK274.out 2
                              go_wp2_with (first | ((with_reducible refine gate_builtin (b := .append) (xs := #[.tmp 53, .tmp 60]) rfl ?_); at_builtin; refine Kd.R_append k65 (w0 := w) w.heap.size rfl (.tmp 53) (.tmp 60) 39 65 (.agg #[(.int .u8 0), (.int .u32 0), (.int .u32 0)]) 12 rfl Tryd.underlying39 info65 rfl (by decide) (by omega) u8 x8_2 (⟨a1, ((rd_T65 l0 x25_2).f1), (a2 - 1) % 4294967296⟩ : S65) [.int .u8 a1, .int .u32 ((rd_T65 l0 x25_2).f1), .int .u32 ((a2 - 1) % 4294967296)] (fun k_ => k_ ≠ gb274) (fun _ => False) rfl rfl ?aP (fun _ hk => hk.elim) ?aF ?aO ?aB ?aS ?aL ?_; (case aP => exact k65_mkM _ _ _ (⟨a1, ((rd_T65 l0 x25_2).f1), (a2 - 1) % 4294967296⟩ : S65)); (case aB => exact (by repeat (first | (with_reducible first | exact HB.out | apply below_alloc | apply pw_below_drewN | apply below_drew1 | refine below_set ?_ GE274.out) | exact HB.out))); (case aF => exact (fun k_ hk => Kd.freshB (g := gb274) (o := .cells #[.int .u8 ((rd_T65 l0 x25_2).f0), .int .u32 ((rd_T65 l0 x25_2).f1), .int .u32 ((rd_T65 l0 x25_2).f2)] 65 (0, 0)) (by (with_reducible repeat (first | refine blk_drewN ?_ _ | refine blk_drew ?_ | refine blk_alloc ?_ _)); exact BK274.out) k_ hk)); (case aO => exact (by (with_reducible repeat (first | apply Kd.R_alloc | apply Kd.R_drewN | apply Kd.R_drew)); exact HO_8.out)); (case aS => exact (below_size (by repeat (first | (with_reducible first | exact HB.out | apply below_alloc | apply pw_below_drewN | apply below_drew1 | refine below_set ?_ GE274.out) | exact HB.out)))); (case aL => have := LMc28.out; omega); intro v279 w36 ho hb hg hat; rw [← Ny278.out] at ho; have n0_ := Aside0.mk (blk_grown (g := gb274) (o := .cells #[.int .u8 ((rd_T65 l0 x25_2).f0), .int .u32 ((rd_T65 l0 x25_2).f1), .int .u32 ((rd_T65 l0 x25_2).f2)] 65 (0, 0)) (by (with_reducible repeat (first | refine blk_drewN ?_ _ | refine blk_drew ?_ | refine blk_alloc ?_ _)); exact BK274.out) hg (Kd.R_away HO_8.out (fun _ hk => hk))); have n1_ := Aside0.mk (hb); have n2_ := Aside0.mk (ho); clear BK274; clear HB; clear HO_8; have BK274 := n0_; have HB := n1_; have HO280 := n2_; clear n0_ n1_ n2_; clear ho hb hg hat; have hcz37_0 : w36.cell? ⟨gb274, 0, none⟩ = some (.int .u8 ((rd_T65 l0 x25_2).f0)) := (blk_cell BK274.out 0).trans rfl; have hcz37_1 : w36.cell? ⟨gb274, 1, none⟩ = some (.int .u32 ((rd_T65 l0 x25_2).f1)) := (blk_cell BK274.out 1).trans rfl; have hcz37_2 : w36.cell? ⟨gb274, 2, none⟩ = some (.int .u32 ((rd_T65 l0 x25_2).f2)) := (blk_cell BK274.out 2).trans rfl; have hfz37_0 := blk_frozen BK274.out 0; have hfz37_1 := blk_frozen BK274.out 1; have hfz37_2 := blk_frozen BK274.out 2))
                              go_roundg kj14
                              case measure => have := HJ3.out; have := HK2.out; have := HJ14.out; omega
                              case rel => exact ⟨(y278), (wrap64 (x25_2 + 1)), (by first | rfl | (simp; done) | (simp [*]; done)), H', ⟨by have := HJ3.out; have := HK2.out; have := HJ14.out; omega⟩, ⟨by (with_reducible repeat (first | apply Kd.R_alloc | apply Kd.R_drewN | apply Kd.R_drew)); exact Kd.R_mono HO280.out (fun _ hk => trivial)⟩, ⟨by repeat (first | (with_reducible first | exact HB.out | apply below_alloc | apply pw_below_drewN | apply below_drew1 | refine below_set ?_ GE274.out) | exact HB.out)⟩⟩
                          · rw [if_neg c28] at H
                            exact absurd H (by simp)
                        · rw [if_neg c27] at H
                          have c27b0 : decide (((rd_T65 l0 x25_2).f1) < a2) = false := decide_eq_false c27
                          clear c27
                          by_cases c38 : a2 < ((rd_T65 l0 x25_2).f2)
                          · rw [if_pos c38] at H
                            have c38b0 : decide (a2 < ((rd_T65 l0 x25_2).f2)) = true := decide_eq_true c38
                            clear c38
                            by_cases c39 : x8_2.length < 11728124029610
                            · rw [if_pos c39] at H
                              have LMc39 := Aside0.mk c39
                              clear c39
                              obtain ⟨y284, hy284⟩ : ∃ y_ : List (S65), y_ = (x8_2 ++ [(⟨a1, (a2 + 1) % 4294967296, ((rd_T65 l0 x25_2).f2)⟩ : S65)]) := ⟨_, rfl⟩
                              replace H : (know_Drop.l0 kj14 a1 a2 y284 l0 (l0.length : Int) (wrap64 (x25_2 + 1))) = some (r1, r2) := by first | (rw [hy284]; with_reducible exact H) | (have H2_ := (Option.bind_some _ _).symm.trans H; rw [hy284]; with_reducible exact H2_) | (have H2_ := (Option.bind_some _ _).symm.trans H; with_reducible exact H2_) | with_reducible exact H | (rw [hy284]; exact H) | exact H
                              have Ny284 := Aside0.mk hy284
                              clear hy284
                              have H' := Aside0.mk H
                              clear H
                              have hcz40_0 : wc.cell? ⟨gb274, 0, none⟩ = some (.int .u8 ((rd_T65 l0 x25_2).f0)) := (blk_cell BK274.out 0).trans rfl
                              have hcz40_1 : wc.cell? ⟨gb274, 1, none⟩ = some (.int .u32 ((rd_T65 l0 x25_2).f1)) := (blk_cell BK274.out 1).trans rfl
                              have hcz40_2 : wc.cell? ⟨gb274, 2, none⟩ = some (.int .u32 ((rd_T65 l0 x25_2).f2)) := (blk_cell BK274.out 2).trans rfl
                              have hfz40_0 := blk_frozen BK274.out 0
                              have hfz40_1 := blk_frozen BK274.out 1
                              have hfz40_2 := blk_frozen BK274.out 2
                              go_wp2_with (first | ((with_reducible refine gate_builtin (b := .append) (xs := #[.tmp 66, .tmp 73]) rfl ?_); at_builtin; refine Kd.R_append k65 (w0 := w) w.heap.size rfl (.tmp 66) (.tmp 73) 39 65 (.agg #[(.int .u8 0), (.int .u32 0), (.int .u32 0)]) 12 rfl Tryd.underlying39 info65 rfl (by decide) (by omega) u8 x8_2 (⟨a1, (a2 + 1) % 4294967296, ((rd_T65 l0 x25_2).f2)⟩ : S65) [.int .u8 a1, .int .u32 ((a2 + 1) % 4294967296), .int .u32 ((rd_T65 l0 x25_2).f2)] (fun k_ => k_ ≠ gb274) (fun _ => False) rfl rfl ?aP (fun _ hk => hk.elim) ?aF ?aO ?aB ?aS ?aL ?_; (case aP => exact k65_mkM _ _ _ (⟨a1, (a2 + 1) % 4294967296, ((rd_T65 l0 x25_2).f2)⟩ : S65)); (case aB => exact (by repeat (first | (with_reducible first | exact HB.out | apply below_alloc | apply pw_below_drewN | apply below_drew1 | refine below_set ?_ GE274.out) | exact HB.out))); (case aF => exact (fun k_ hk => Kd.freshB (g := gb274) (o := .cells #[.int .u8 ((rd_T65 l0 x25_2).f0), .int .u32 ((rd_T65 l0 x25_2).f1), .int .u32 ((rd_T65 l0 x25_2).f2)] 65 (0, 0)) (by (with_reducible repeat (first | refine blk_drewN ?_ _ | refine blk_drew ?_ | refine blk_alloc ?_ _)); exact BK274.out) k_ hk)); (case aO => exact (by (with_reducible repeat (first | apply Kd.R_alloc | apply Kd.R_drewN | apply Kd.R_drew)); exact HO_8.out)); (case aS => exact (below_size (by repeat (first | (with_reducible first | exact HB.out | apply below_alloc | apply pw_below_drewN | apply below_drew1 | refine below_set ?_ GE274.out) | exact HB.out)))); (case aL => have := LMc39.out; omega); intro v285 w41 ho hb hg hat; rw [← Ny284.out] at ho; have n0_ := Aside0.mk (blk_grown (g := gb274) (o := .cells #[.int .u8 ((rd_T65 l0 x25_2).f0), .int .u32 ((rd_T65 l0 x25_2).f1), .int .u32 ((rd_T65 l0 x25_2).f2)] 65 (0, 0)) (by (with_reducible repeat (first | refine blk_drewN ?_ _ | refine blk_drew ?_ | refine blk_alloc ?_ _)); exact BK274.out) hg (Kd.R_away HO_8.out (fun _ hk => hk))); have n1_ := Aside0.mk (hb); have n2_ := Aside0.mk (ho); clear BK274; clear HB; clear HO_8; have BK274 := n0_; have HB := n1_; have HO286 := n2_; clear n0_ n1_ n2_; clear ho hb hg hat))
                              go_roundg kj14
                              case measure => have := HJ3.out; have := HK2.out; have := HJ14.out; omega
                              case rel => exact ⟨(y284), (wrap64 (x25_2 + 1)), (by first | rfl | (simp; done) | (simp [*]; done)), H', ⟨by have := HJ3.out; have := HK2.out; have := HJ14.out; omega⟩, ⟨by (with_reducible repeat (first | apply Kd.R_alloc | apply Kd.R_drewN | apply Kd.R_drew)); exact Kd.R_mono HO286.out (fun _ hk => trivial)⟩, ⟨by repeat (first | (with_reducible first | exact HB.out | apply below_alloc | apply pw_below_drewN | apply below_drew1 | refine below_set ?_ GE274.out) | exact HB.out)⟩⟩
                            · rw [if_neg c39] at H
                              exact absurd H (by simp)
                          · rw [if_neg c38] at H
                            have c38b0 : decide (a2 < ((rd_T65 l0 x25_2).f2)) = false := decide_eq_false c38
                            clear c38
                            have H' := Aside0.mk H
                            clear H
                            have hcz42_0 : wc.cell? ⟨gb274, 0, none⟩ = some (.int .u8 ((rd_T65 l0 x25_2).f0)) := (blk_cell BK274.out 0).trans rfl
                            have hcz42_1 : wc.cell? ⟨gb274, 1, none⟩ = some (.int .u32 ((rd_T65 l0 x25_2).f1)) := (blk_cell BK274.out 1).trans rfl
                            have hcz42_2 : wc.cell? ⟨gb274, 2, none⟩ = some (.int .u32 ((rd_T65 l0 x25_2).f2)) := (blk_cell BK274.out 2).trans rfl
                            have hfz42_0 := blk_frozen BK274.out 0
                            have hfz42_1 := blk_frozen BK274.out 1
                            have hfz42_2 := blk_frozen BK274.out 2
                            go_wp2
                            go_roundg kj14
                            case measure => have := HJ3.out; have := HK2.out; have := HJ14.out; omega
                            case rel => exact ⟨(x8_2), (wrap64 (x25_2 + 1)), (by first | rfl | (simp; done) | (simp [*]; done)), H', ⟨by have := HJ3.out; have := HK2.out; have := HJ14.out; omega⟩, ⟨by (with_reducible repeat (first | apply Kd.R_alloc | apply Kd.R_drewN | apply Kd.R_drew)); exact Kd.R_mono HO_8.out (fun _ hk => trivial)⟩, ⟨by repeat (first | (with_reducible first | exact HB.out | apply below_alloc | apply pw_below_drewN | apply below_drew1 | refine below_set ?_ GE274.out) | exact HB.out)⟩⟩
                · rw [if_neg c14] at H
                  exact absurd H (by simp)
              · rw [if_neg c13] at H
                exact absurd H (by simp)
            · rw [if_neg c12] at H
              have c12b0 : decide (x25_2 < (l0.length : Int)) = false := decide_eq_false c12
              clear c12
              by_cases c43 : (x8_2.length : Int) > 64
              · rw [if_pos c43] at H
                have c43b0 : decide (64 < (x8_2.length : Int)) = true := decide_eq_true c43
                have c43b1 : decide (64 < x8_2.length) = true := decide_eq_true (by omega)
                clear c43
                simp only [Option.some.injEq, Prod.mk.injEq] at H
                obtain ⟨rfl, rfl⟩ := H
                obtain ⟨Ao44, co44, eo44⟩ := Kd.R_slice HO_8.out
                subst eo44
                go_wp2
                go_ret2
                exact ⟨_, by first | rfl | (simp [errW_none, errW_some] <;> rfl) | (simp [*, errW_none, errW_some] <;> rfl), by first | exact Kd.R_nil _ _ _ _ _ | exact Kd.N_nil _ _ _ _ _ | exact Kd.V_nil _ _ _ _ _ | exact Kd.Q_nil _ _ _ _ _ | exact Kd.S_nil _ _ _ _ _, by repeat (first | (with_reducible first | exact HB.out | apply below_alloc | apply pw_below_drewN | apply below_drew1) | exact HB.out)⟩
              · rw [if_neg c43] at H
                have c43b0 : decide (64 < (x8_2.length : Int)) = false := decide_eq_false c43
                have c43b1 : decide (64 < x8_2.length) = false := decide_eq_false (by omega)
                clear c43
                simp only [Option.some.injEq, Prod.mk.injEq] at H
                obtain ⟨rfl, rfl⟩ := H
                obtain ⟨Ao45, co45, eo45⟩ := Kd.R_slice HO_8.out
                subst eo45
                go_wp2
                go_ret2
                exact ⟨_, by first | rfl | (simp [errW_none, errW_some] <;> rfl) | (simp [*, errW_none, errW_some] <;> rfl), by (with_reducible repeat (first | apply Kd.R_alloc | apply Kd.R_drewN | apply Kd.R_drew)); exact HO_8.out, by repeat (first | (with_reducible first | exact HB.out | apply below_alloc | apply pw_below_drewN | apply below_drew1) | exact HB.out)⟩
end Go.Proofs.YtiminjibcafkaaaDoor.X
