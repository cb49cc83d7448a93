-- MADE BY wip/prx.py (the kit's printer, with contracts proved by hand). Not trusted: Lean checks it.
import Derived.Test.YtiminjibcafkaaaDoorKUJ7
import Derived.Test.YtiminjibcafkaaaDoorKUJ15
import Derived.Test.YtiminjibcafkaaaDoorKUX19
import Derived.Test.YtiminjibcafkaaaDoorKUX20
namespace Go.Proofs.YtiminjibcafkaaaDoor.X
open Go.RowKit Go.Proofs.YtiminjibcafkaaaDoorW.PrintWords Go.Proofs.YtiminjibcafkaaaDoorW.PrintLast Go.Proofs.YtiminjibcafkaaaDoorW.PrintMore
attribute [local go_sem] max2_int min2_int max_two min_two max_three min_three max_four min_four   -- for this text's walks alone
set_option linter.unusedVariables false
set_option linter.unusedSimpArgs false
attribute [local go_sem high] eqA65
/-! ### tidingsref01_Add: function 18 -/
def tidingsref01_Add.f (k : Nat) (l0 : List (S65)) (a1 : Int) (a2 : Int) : Option ((List (S65)) × Int) := (tidingsref01_Right.f k l0).bind fun t362 => (if t362 = true then (if a1 ≥ 8 then (some (([] : List (S65)), 9)) else (if a2 = 0 then (some (([] : List (S65)), 9)) else ((some (([] : List (S65)) : List (S65))).bind fun y363 => (if y363.length + l0.length < 11728124029610 then ((some (y363 ++ l0 : List (S65))).bind fun y366 => (if y366.length < 11728124029610 then ((tidingsref01_told.f k (y366 ++ [(⟨a1, a2, a2⟩ : S65)]) 0 0).bind fun bt372 => (some (bt372.1, bt372.2))) else (none))) else (none))))) else (some (([] : List (S65)), 9)))
set_option maxHeartbeats 8000000 in
set_option maxRecDepth 100000 in
theorem tidingsref01_Add.calls (k : Nat) (A0 : Option Addr) (c0 : Nat) (l0 : List (S65)) (a1 : Int) (a2 : Int) (r1 : List (S65)) (r2 : Int) (w : World) (hr0 : Kd.C k65 w A0 l0.length l0) (hc0 : l0.length ≤ c0) (h : tidingsref01_Add.f k l0 a1 a2 = some (r1, r2)) :
    Calls Tryd.prog 18 #[.slice A0 l0.length c0, .int .u8 a1, .int .u32 a2] w fun e w' => ∃ v0_ : Value, e = .returned (.tuple #[v0_, .int .i64 r2]) ∧ Kd.R k65 65 w' w.heap.size (fun _ => True) v0_ r1 ∧ Below w.heap.size w w' := by
  have hu65 := Tryd.underlying65
  have HR0 := Aside0.mk hr0
  have HC0 := Aside0.mk hc0
  clear hr0 hc0
  have HB := Aside0.mk (Below.refl w.heap.size w)
  have H : ((tidingsref01_Right.f k l0).bind fun t362 => (if t362 = true then (if a1 ≥ 8 then (some (([] : List (S65)), 9)) else (if a2 = 0 then (some (([] : List (S65)), 9)) else ((some (([] : List (S65)) : List (S65))).bind fun y363 => (if y363.length + l0.length < 11728124029610 then ((some (y363 ++ l0 : List (S65))).bind fun y366 => (if y366.length < 11728124029610 then ((tidingsref01_told.f k (y366 ++ [(⟨a1, a2, a2⟩ : S65)]) 0 0).bind fun bt372 => (some (bt372.1, bt372.2))) else (none))) else (none))))) else (some (([] : List (S65)), 9)))) = some (r1, r2) := h
  clear h
  replace H := Option.bind_eq_some_iff.mp H
  obtain ⟨t362, A40, H⟩ := H
  replace H : (if t362 = true then (if a1 ≥ 8 then (some (([] : List (S65)), 9)) else (if a2 = 0 then (some (([] : List (S65)), 9)) else ((some (([] : List (S65)) : List (S65))).bind fun y363 => (if y363.length + l0.length < 11728124029610 then ((some (y363 ++ l0 : List (S65))).bind fun y366 => (if y366.length < 11728124029610 then ((tidingsref01_told.f k (y366 ++ [(⟨a1, a2, a2⟩ : S65)]) 0 0).bind fun bt372 => (some (bt372.1, bt372.2))) else (none))) else (none))))) else (some (([] : List (S65)), 9))) = some (r1, r2) := H
  have A4 := Aside0.mk A40
  clear A40
  by_cases c5 : t362 = true
  · subst c5
    have H1 : (if a1 ≥ 8 then (some (([] : List (S65)), 9)) else (if a2 = 0 then (some (([] : List (S65)), 9)) else ((some (([] : List (S65)) : List (S65))).bind fun y363 => (if y363.length + l0.length < 11728124029610 then ((some (y363 ++ l0 : List (S65))).bind fun y366 => (if y366.length < 11728124029610 then ((tidingsref01_told.f k (y366 ++ [(⟨a1, a2, a2⟩ : S65)]) 0 0).bind fun bt372 => (some (bt372.1, bt372.2))) else (none))) else (none))))) = some (r1, r2) := by rw [if_pos rfl] at H; exact H
    clear H
    have H := H1
    clear H1
    by_cases c6 : a1 ≥ 8
    · rw [if_pos c6] at H
      have c6b0 : decide (8 ≤ a1) = true := decide_eq_true c6
      clear c6
      simp only [Option.some.injEq, Prod.mk.injEq] at H
      obtain ⟨rfl, rfl⟩ := H
      go_enter Tryd.func18, Tryd.ntmps18
      go_wp2_with (first | ((with_reducible refine gate_callee (f := 21) rfl ?_); refine goesL_ (some 9) rfl rfl Tryd.func21 (by kernel_rfl) rfl #[.slice A0 l0.length c0] rfl (by (try simp only [List.map_toArray, List.map_cons, List.map_nil]); first | done | rfl | (simp only [List.length_drop, List.length_take]; rfl)) ?_; (with_reducible refine (tidingsref01_Right.calls k _ _ l0 true _ ?side1 ?side2 A4.out).mono ?_); (case side1 => repeat (first | exact HR0.out | (with_reducible refine Kd.C_alloc ?_ _) | (with_reducible refine Kd.C_drewN ?_ _) | (with_reducible refine Kd.C_drew ?_))); (case side2 => exact HC0.out); rintro e w' ⟨rfl, ⟨nd, rfl⟩⟩; refine ⟨_, rfl, ?_⟩))
      go_ret2
      exact ⟨_, by first | rfl | (simp [errW_none, errW_some] <;> rfl) | (simp [*, errW_none, errW_some] <;> rfl), by first | exact Kd.R_nil _ _ _ _ _ | exact Kd.N_nil _ _ _ _ _ | exact Kd.V_nil _ _ _ _ _ | exact Kd.Q_nil _ _ _ _ _ | exact Kd.S_nil _ _ _ _ _, by repeat (first | (with_reducible first | exact HB.out | apply below_alloc | apply pw_below_drewN | apply below_drew1) | exact HB.out)⟩
    · rw [if_neg c6] at H
      have c6b0 : decide (8 ≤ a1) = false := decide_eq_false c6
      clear c6
      by_cases c7 : a2 = 0
      · rw [if_pos c7] at H
        have c7b0 : (a2 == 0) = true := beq_iff_eq.mpr c7
        have c7b1 : (a2 != 0) = false := bne_eq_false_iff_eq.mpr c7
        clear c7
        simp only [Option.some.injEq, Prod.mk.injEq] at H
        obtain ⟨rfl, rfl⟩ := H
        go_enter Tryd.func18, Tryd.ntmps18
        go_wp2_with (first | ((with_reducible refine gate_callee (f := 21) rfl ?_); refine goesL_ (some 9) rfl rfl Tryd.func21 (by kernel_rfl) rfl #[.slice A0 l0.length c0] rfl (by (try simp only [List.map_toArray, List.map_cons, List.map_nil]); first | done | rfl | (simp only [List.length_drop, List.length_take]; rfl)) ?_; (with_reducible refine (tidingsref01_Right.calls k _ _ l0 true _ ?side1 ?side2 A4.out).mono ?_); (case side1 => repeat (first | exact HR0.out | (with_reducible refine Kd.C_alloc ?_ _) | (with_reducible refine Kd.C_drewN ?_ _) | (with_reducible refine Kd.C_drew ?_))); (case side2 => exact HC0.out); rintro e w' ⟨rfl, ⟨nd, rfl⟩⟩; refine ⟨_, rfl, ?_⟩))
        go_ret2
        exact ⟨_, by first | rfl | (simp [errW_none, errW_some] <;> rfl) | (simp [*, errW_none, errW_some] <;> rfl), by first | exact Kd.R_nil _ _ _ _ _ | exact Kd.N_nil _ _ _ _ _ | exact Kd.V_nil _ _ _ _ _ | exact Kd.Q_nil _ _ _ _ _ | exact Kd.S_nil _ _ _ _ _, by repeat (first | (with_reducible first | exact HB.out | apply below_alloc | apply pw_below_drewN | apply below_drew1) | exact HB.out)⟩
      · rw [if_neg c7] at H
        have c7b0 : (a2 == 0) = false := beq_eq_false_iff_ne.mpr c7
        have c7b1 : (a2 != 0) = true := bne_iff_ne.mpr c7
        obtain ⟨y363, hy363⟩ : ∃ y_ : List (S65), y_ = (([] : List (S65))) := ⟨_, rfl⟩
        replace H : (if y363.length + l0.length < 11728124029610 then ((some (y363 ++ l0 : List (S65))).bind fun y366 => (if y366.length < 11728124029610 then ((tidingsref01_told.f k (y366 ++ [(⟨a1, a2, a2⟩ : S65)]) 0 0).bind fun bt372 => (some (bt372.1, bt372.2))) else (none))) else (none)) = some (r1, r2) := by first | (rw [hy363]; with_reducible exact H) | (have H2_ := (Option.bind_some _ _).symm.trans H; rw [hy363]; with_reducible exact H2_) | (have H2_ := (Option.bind_some _ _).symm.trans H; with_reducible exact H2_) | with_reducible exact H | (rw [hy363]; exact H) | exact H
        have Ny363 := Aside0.mk hy363
        clear hy363
        by_cases c8 : y363.length + l0.length < 11728124029610
        · rw [if_pos c8] at H
          have LMc8 := Aside0.mk c8
          clear c8
          obtain ⟨y366, hy366⟩ : ∃ y_ : List (S65), y_ = (y363 ++ l0) := ⟨_, rfl⟩
          replace H : (if y366.length < 11728124029610 then ((tidingsref01_told.f k (y366 ++ [(⟨a1, a2, a2⟩ : S65)]) 0 0).bind fun bt372 => (some (bt372.1, bt372.2))) else (none)) = some (r1, r2) := by first | (rw [hy366]; with_reducible exact H) | (have H2_ := (Option.bind_some _ _).symm.trans H; rw [hy366]; with_reducible exact H2_) | (have H2_ := (Option.bind_some _ _).symm.trans H; with_reducible exact H2_) | with_reducible exact H | (rw [hy366]; exact H) | exact H
          have Ny366 := Aside0.mk hy366
          clear hy366
          by_cases c9 : y366.length < 11728124029610
          · rw [if_pos c9] at H
            have LMc9 := Aside0.mk c9
            clear c9
            obtain ⟨y369, hy369⟩ : ∃ y_ : List (S65), y_ = (y366 ++ [(⟨a1, a2, a2⟩ : S65)]) := ⟨_, rfl⟩
            replace H : ((tidingsref01_told.f k y369 0 0).bind fun bt372 => (some (bt372.1, bt372.2))) = some (r1, r2) := by first | (rw [hy369]; with_reducible exact H) | (have H2_ := (Option.bind_some _ _).symm.trans H; rw [hy369]; with_reducible exact H2_) | (have H2_ := (Option.bind_some _ _).symm.trans H; with_reducible exact H2_) | with_reducible exact H | (rw [hy369]; exact H) | exact H
            have Ny369 := Aside0.mk hy369
            clear hy369
            replace H := Option.bind_eq_some_iff.mp H
            obtain ⟨⟨t372, t373⟩, A100, H⟩ := H
            replace H : (some (t372, t373)) = some (r1, r2) := H
            have A10 := Aside0.mk A100
            clear A100
            simp only [Option.some.injEq, Prod.mk.injEq] at H
            obtain ⟨rfl, rfl⟩ := H
            go_enter Tryd.func18, Tryd.ntmps18
            go_wp2_with (first | ((with_reducible refine gate_callee (f := 21) rfl ?_); refine goesL_ (some 9) rfl rfl Tryd.func21 (by kernel_rfl) rfl #[.slice A0 l0.length c0] rfl (by (try simp only [List.map_toArray, List.map_cons, List.map_nil]); first | done | rfl | (simp only [List.length_drop, List.length_take]; rfl)) ?_; (with_reducible refine (tidingsref01_Right.calls k _ _ l0 true _ ?side1 ?side2 A4.out).mono ?_); (case side1 => repeat (first | exact HR0.out | (with_reducible refine Kd.C_alloc ?_ _) | (with_reducible refine Kd.C_drewN ?_ _) | (with_reducible refine Kd.C_drew ?_))); (case side2 => exact HC0.out); rintro e w' ⟨rfl, ⟨nd, rfl⟩⟩; refine ⟨_, rfl, ?_⟩) | ((with_reducible refine gate_dst (N := 19) rfl ?_); refine Kd.R_lit k65 _ 65 ?hg (N := 19) ?hd (xs := ([] : List (S65))) (inner := []) (ok := fun _ => True) (okp := fun _ => True) ?hr ?hp (fun _ hk => hk) trivial (Below.refl _ _) (Nat.le_refl _) (by simp) ?_; (case hd => rfl); (case hg => rfl); (case hr => first | (go_simp; done) | (go_simp; rfl)); (case hp => exact (Reps.none _ _)); intro v364 w11 ho12 hb hg_ hnew_; clear hg_ hnew_; (first | rw [← Ny363.out] at ho12 | (simp only [Int.reduceToNat] at ho12; rw [← Ny363.out] at ho12)); have n0_ := Aside0.mk (Kd.R_lower ho12 (below_size (by repeat (first | (with_reducible first | exact HB.out | apply below_alloc | apply pw_below_drewN | apply below_drew1) | exact HB.out)))); have n1_ := Aside0.mk (below_step (by repeat (first | (with_reducible first | exact HB.out | apply below_alloc | apply pw_below_drewN | apply below_drew1) | exact HB.out)) hb); clear HB; have HO365 := n0_; have HB := n1_; clear n0_ n1_; clear hb ho12) | ((with_reducible refine gate_builtin (b := .append) (xs := #[.tmp 19, .tmp 20]) rfl ?_); at_builtin; refine Kd.R_append_rows k65 (w0 := w) w.heap.size rfl (.tmp 19) (.tmp 20) 39 65 (.agg #[(.int .u8 0), (.int .u32 0), (.int .u32 0)]) 12 rfl Tryd.underlying39 info65 rfl (by decide) (by omega) v364 y363 l0 _ _ _ (fun _ => True) (fun _ => False) rfl rfl ?aO ?aR (fun _ _ h => h) (fun _ h => h.elim) ?aF ?aB ?aS ?aL ?_; (case aR => repeat (first | exact (Kd.C_below HR0.out HB.out) | (with_reducible refine Kd.C_alloc ?_ _) | (with_reducible refine Kd.C_drewN ?_ _) | (with_reducible refine Kd.C_drew ?_))); (case aB => exact (by repeat (first | (with_reducible first | exact HB.out | apply below_alloc | apply pw_below_drewN | apply below_drew1) | exact HB.out))); (case aF => exact (fun _ _ => trivial)); (case aO => exact (by (with_reducible repeat (first | apply Kd.R_alloc | apply Kd.R_drewN | apply Kd.R_drew)); exact HO365.out)); (case aS => exact (below_size (by repeat (first | (with_reducible first | exact HB.out | apply below_alloc | apply pw_below_drewN | apply below_drew1) | exact HB.out)))); (case aL => have := LMc8.out; omega); intro v367 w13 ho hb hg hat; rw [← Ny366.out] at ho; have n0_ := Aside0.mk (hb); have n1_ := Aside0.mk (ho); clear HB; clear HO365; have HB := n0_; have HO368 := n1_; clear n0_ n1_; clear ho hb hg hat) | ((with_reducible refine gate_builtin (b := .append) (xs := #[.tmp 21, .tmp 26]) rfl ?_); at_builtin; refine Kd.R_append k65 (w0 := w) w.heap.size rfl (.tmp 21) (.tmp 26) 39 65 (.agg #[(.int .u8 0), (.int .u32 0), (.int .u32 0)]) 12 rfl Tryd.underlying39 info65 rfl (by decide) (by omega) v367 y366 (⟨a1, a2, a2⟩ : S65) [.int .u8 a1, .int .u32 a2, .int .u32 a2] (fun _ => True) (fun _ => False) rfl rfl ?aP (fun _ hk => hk.elim) ?aF ?aO ?aB ?aS ?aL ?_; (case aP => exact k65_mkM _ _ _ (⟨a1, a2, a2⟩ : S65)); (case aB => exact (by repeat (first | (with_reducible first | exact HB.out | apply below_alloc | apply pw_below_drewN | apply below_drew1) | exact HB.out))); (case aF => exact (fun _ _ => trivial)); (case aO => exact (by (with_reducible repeat (first | apply Kd.R_alloc | apply Kd.R_drewN | apply Kd.R_drew)); exact HO368.out)); (case aS => exact (below_size (by repeat (first | (with_reducible first | exact HB.out | apply below_alloc | apply pw_below_drewN | apply below_drew1) | exact HB.out)))); (case aL => have := LMc9.out; omega); intro v370 w14 ho hb hg hat; rw [← Ny369.out] at ho; have n0_ := Aside0.mk (hb); have n1_ := Aside0.mk (ho); clear HB; clear HO368; have HB := n0_; have HO371 := n1_; clear n0_ n1_; clear ho hb hg hat; obtain ⟨Ao15, co15, eo15⟩ := Kd.R_slice HO371.out; subst eo15) | ((with_reducible refine gate_callee (f := 42) rfl ?_); refine goesL_ (some 28) rfl rfl Tryd.func42 (by kernel_rfl) rfl #[.slice Ao15 y369.length co15, .int .u8 0, .int .u32 0] rfl (by (try simp only [List.map_toArray, List.map_cons, List.map_nil]); first | done | rfl | (simp only [List.length_drop, List.length_take]; rfl)) ?_; (with_reducible refine (tidingsref01_told.calls k _ _ y369 0 0 t372 t373 _ ?side1 ?side2 A10.out).mono ?_); (case side1 => repeat (first | exact (Kd.R_reads' HO371.out).2.2 | (with_reducible refine Kd.C_alloc ?_ _) | (with_reducible refine Kd.C_drewN ?_ _) | (with_reducible refine Kd.C_drew ?_))); (case side2 => exact (Kd.R_reads' HO371.out).2.1); rintro e w16 ⟨v374, rfl, ho0, hb⟩; refine ⟨_, rfl, ?_⟩; have n0_ := Aside0.mk (Kd.R_elder' (by (with_reducible repeat (first | apply Kd.R_alloc | apply Kd.R_drewN | apply Kd.R_drew)); exact HO371.out) (Kd.R_base ho0) hb); have n1_ := Aside0.mk (Kd.R_lower (Kd.R_new' ho0 (Kd.R_lt (by (with_reducible repeat (first | apply Kd.R_alloc | apply Kd.R_drewN | apply Kd.R_drew)); exact HO371.out))) (below_size (by repeat (first | (with_reducible first | exact HB.out | apply below_alloc | apply pw_below_drewN | apply below_drew1) | exact HB.out)))); have n2_ := Aside0.mk (below_step (by repeat (first | (with_reducible first | exact HB.out | apply below_alloc | apply pw_below_drewN | apply below_drew1) | exact HB.out)) hb); clear HO371; clear HB; have HO371 := n0_; have HO375 := n1_; have HB := n2_; clear n0_ n1_ n2_; (try clear hb); (try clear hb2); (try clear hk); (try clear hi); (try clear ho0)))
            go_ret2
            exact ⟨_, by first | rfl | (simp [errW_none, errW_some] <;> rfl) | (simp [*, errW_none, errW_some] <;> rfl), by (with_reducible repeat (first | apply Kd.R_alloc | apply Kd.R_drewN | apply Kd.R_drew)); exact Kd.R_mono HO375.out (fun _ hk => trivial), by repeat (first | (with_reducible first | exact HB.out | apply below_alloc | apply pw_below_drewN | apply below_drew1) | exact HB.out)⟩
          · rw [if_neg c9] at H
            exact absurd H (by simp)
        · rw [if_neg c8] at H
          exact absurd H (by simp)
  · replace c5 := Bool.eq_false_iff.mpr c5
    subst c5
    have H1 : (some (([] : List (S65)), 9)) = some (r1, r2) := by rw [if_neg (show ¬ (false = true) by decide)] at H; exact H
    clear H
    have H := H1
    clear H1
    simp only [Option.some.injEq, Prod.mk.injEq] at H
    obtain ⟨rfl, rfl⟩ := H
    go_enter Tryd.func18, Tryd.ntmps18
    go_wp2_with (first | ((with_reducible refine gate_callee (f := 21) rfl ?_); refine goesL_ (some 9) rfl rfl Tryd.func21 (by kernel_rfl) rfl #[.slice A0 l0.length c0] rfl (by (try simp only [List.map_toArray, List.map_cons, List.map_nil]); first | done | rfl | (simp only [List.length_drop, List.length_take]; rfl)) ?_; (with_reducible refine (tidingsref01_Right.calls k _ _ l0 false _ ?side1 ?side2 A4.out).mono ?_); (case side1 => repeat (first | exact HR0.out | (with_reducible refine Kd.C_alloc ?_ _) | (with_reducible refine Kd.C_drewN ?_ _) | (with_reducible refine Kd.C_drew ?_))); (case side2 => exact HC0.out); rintro e w' ⟨rfl, ⟨nd, rfl⟩⟩; refine ⟨_, rfl, ?_⟩))
    go_ret2
    exact ⟨_, by first | rfl | (simp [errW_none, errW_some] <;> rfl) | (simp [*, errW_none, errW_some] <;> rfl), by first | exact Kd.R_nil _ _ _ _ _ | exact Kd.N_nil _ _ _ _ _ | exact Kd.V_nil _ _ _ _ _ | exact Kd.Q_nil _ _ _ _ _ | exact Kd.S_nil _ _ _ _ _, by repeat (first | (with_reducible first | exact HB.out | apply below_alloc | apply pw_below_drewN | apply below_drew1) | exact HB.out)⟩
/-! ### tidingsref01_Drop: function 19 -/
def tidingsref01_Drop.f (k : Nat) (l0 : List (S65)) (a1 : Int) (a2 : Int) : Option ((List (S65)) × Int) := (tidingsref01_Right.f k l0).bind fun t376 => (if t376 = true then (if a1 ≥ 8 then (some (([] : List (S65)), 9)) else (if a2 = 0 then (some (([] : List (S65)), 9)) else ((tidingsref01_told.f k l0 a1 a2).bind fun bt377 => (some (bt377.1, bt377.2))))) else (some (([] : List (S65)), 9)))
/-! ### tidingsref01_Union: function 26 -/
def tidingsref01_Union.f (k : Nat) (l0 : List (S65)) (l1 : List (S65)) : Option ((List (S65)) × Int) := (tidingsref01_Right.f k l0).bind fun t381 => (if t381 = true then ((tidingsref01_Right.f k l1).bind fun t382 => (if t382 = true then ((some (([] : List (S65)) : List (S65))).bind fun y383 => (if y383.length + l0.length < 11728124029610 then ((some (y383 ++ l0 : List (S65))).bind fun y386 => (if y386.length + l1.length < 11728124029610 then ((tidingsref01_told.f k (y386 ++ l1) 0 0).bind fun bt392 => (some (bt392.1, bt392.2))) else (none))) else (none))) else (some (([] : List (S65)), 9)))) else (some (([] : List (S65)), 9)))
set_option maxHeartbeats 8000000 in
set_option maxRecDepth 100000 in
theorem tidingsref01_Union.calls (k : Nat) (A0 : Option Addr) (c0 : Nat) (l0 : List (S65)) (A1 : Option Addr) (c1 : Nat) (l1 : List (S65)) (r1 : List (S65)) (r2 : Int) (w : World) (hr0 : Kd.C k65 w A0 l0.length l0) (hc0 : l0.length ≤ c0) (hr1 : Kd.C k65 w A1 l1.length l1) (hc1 : l1.length ≤ c1) (h : tidingsref01_Union.f k l0 l1 = some (r1, r2)) :
    Calls Tryd.prog 26 #[.slice A0 l0.length c0, .slice A1 l1.length c1] w fun e w' => ∃ v0_ : Value, e = .returned (.tuple #[v0_, .int .i64 r2]) ∧ Kd.R k65 65 w' w.heap.size (fun _ => True) v0_ r1 ∧ Below w.heap.size w w' := by
  have HR0 := Aside0.mk hr0
  have HC0 := Aside0.mk hc0
  clear hr0 hc0
  have HR1 := Aside0.mk hr1
  have HC1 := Aside0.mk hc1
  clear hr1 hc1
  have HB := Aside0.mk (Below.refl w.heap.size w)
  have H : ((tidingsref01_Right.f k l0).bind fun t381 => (if t381 = true then ((tidingsref01_Right.f k l1).bind fun t382 => (if t382 = true then ((some (([] : List (S65)) : List (S65))).bind fun y383 => (if y383.length + l0.length < 11728124029610 then ((some (y383 ++ l0 : List (S65))).bind fun y386 => (if y386.length + l1.length < 11728124029610 then ((tidingsref01_told.f k (y386 ++ l1) 0 0).bind fun bt392 => (some (bt392.1, bt392.2))) else (none))) else (none))) else (some (([] : List (S65)), 9)))) else (some (([] : List (S65)), 9)))) = some (r1, r2) := h
  clear h
  replace H := Option.bind_eq_some_iff.mp H
  obtain ⟨t381, A30, H⟩ := H
  replace H : (if t381 = true then ((tidingsref01_Right.f k l1).bind fun t382 => (if t382 = true then ((some (([] : List (S65)) : List (S65))).bind fun y383 => (if y383.length + l0.length < 11728124029610 then ((some (y383 ++ l0 : List (S65))).bind fun y386 => (if y386.length + l1.length < 11728124029610 then ((tidingsref01_told.f k (y386 ++ l1) 0 0).bind fun bt392 => (some (bt392.1, bt392.2))) else (none))) else (none))) else (some (([] : List (S65)), 9)))) else (some (([] : List (S65)), 9))) = some (r1, r2) := H
  have A3 := Aside0.mk A30
  clear A30
  by_cases c4 : t381 = true
  · subst c4
    have H1 : ((tidingsref01_Right.f k l1).bind fun t382 => (if t382 = true then ((some (([] : List (S65)) : List (S65))).bind fun y383 => (if y383.length + l0.length < 11728124029610 then ((some (y383 ++ l0 : List (S65))).bind fun y386 => (if y386.length + l1.length < 11728124029610 then ((tidingsref01_told.f k (y386 ++ l1) 0 0).bind fun bt392 => (some (bt392.1, bt392.2))) else (none))) else (none))) else (some (([] : List (S65)), 9)))) = some (r1, r2) := by rw [if_pos rfl] at H; exact H
    clear H
    have H := H1
    clear H1
    replace H := Option.bind_eq_some_iff.mp H
    obtain ⟨t382, A50, H⟩ := H
    replace H : (if t382 = true then ((some (([] : List (S65)) : List (S65))).bind fun y383 => (if y383.length + l0.length < 11728124029610 then ((some (y383 ++ l0 : List (S65))).bind fun y386 => (if y386.length + l1.length < 11728124029610 then ((tidingsref01_told.f k (y386 ++ l1) 0 0).bind fun bt392 => (some (bt392.1, bt392.2))) else (none))) else (none))) else (some (([] : List (S65)), 9))) = some (r1, r2) := H
    have A5 := Aside0.mk A50
    clear A50
    by_cases c6 : t382 = true
    · subst c6
      have H1 : ((some (([] : List (S65)) : List (S65))).bind fun y383 => (if y383.length + l0.length < 11728124029610 then ((some (y383 ++ l0 : List (S65))).bind fun y386 => (if y386.length + l1.length < 11728124029610 then ((tidingsref01_told.f k (y386 ++ l1) 0 0).bind fun bt392 => (some (bt392.1, bt392.2))) else (none))) else (none))) = some (r1, r2) := by rw [if_pos rfl] at H; exact H
      clear H
      have H := H1
      clear H1
      obtain ⟨y383, hy383⟩ : ∃ y_ : List (S65), y_ = (([] : List (S65))) := ⟨_, rfl⟩
      replace H : (if y383.length + l0.length < 11728124029610 then ((some (y383 ++ l0 : List (S65))).bind fun y386 => (if y386.length + l1.length < 11728124029610 then ((tidingsref01_told.f k (y386 ++ l1) 0 0).bind fun bt392 => (some (bt392.1, bt392.2))) else (none))) else (none)) = some (r1, r2) := by first | (rw [hy383]; with_reducible exact H) | (have H2_ := (Option.bind_some _ _).symm.trans H; rw [hy383]; with_reducible exact H2_) | (have H2_ := (Option.bind_some _ _).symm.trans H; with_reducible exact H2_) | with_reducible exact H | (rw [hy383]; exact H) | exact H
      have Ny383 := Aside0.mk hy383
      clear hy383
      by_cases c7 : y383.length + l0.length < 11728124029610
      · rw [if_pos c7] at H
        have LMc7 := Aside0.mk c7
        clear c7
        obtain ⟨y386, hy386⟩ : ∃ y_ : List (S65), y_ = (y383 ++ l0) := ⟨_, rfl⟩
        replace H : (if y386.length + l1.length < 11728124029610 then ((tidingsref01_told.f k (y386 ++ l1) 0 0).bind fun bt392 => (some (bt392.1, bt392.2))) else (none)) = some (r1, r2) := by first | (rw [hy386]; with_reducible exact H) | (have H2_ := (Option.bind_some _ _).symm.trans H; rw [hy386]; with_reducible exact H2_) | (have H2_ := (Option.bind_some _ _).symm.trans H; with_reducible exact H2_) | with_reducible exact H | (rw [hy386]; exact H) | exact H
        have Ny386 := Aside0.mk hy386
        clear hy386
        by_cases c8 : y386.length + l1.length < 11728124029610
        · rw [if_pos c8] at H
          have LMc8 := Aside0.mk c8
          clear c8
          obtain ⟨y389, hy389⟩ : ∃ y_ : List (S65), y_ = (y386 ++ l1) := ⟨_, rfl⟩
          replace H : ((tidingsref01_told.f k y389 0 0).bind fun bt392 => (some (bt392.1, bt392.2))) = some (r1, r2) := by first | (rw [hy389]; with_reducible exact H) | (have H2_ := (Option.bind_some _ _).symm.trans H; rw [hy389]; with_reducible exact H2_) | (have H2_ := (Option.bind_some _ _).symm.trans H; with_reducible exact H2_) | with_reducible exact H | (rw [hy389]; exact H) | exact H
          have Ny389 := Aside0.mk hy389
          clear hy389
          replace H := Option.bind_eq_some_iff.mp H
          obtain ⟨⟨t392, t393⟩, A90, H⟩ := H
          replace H : (some (t392, t393)) = some (r1, r2) := H
          have A9 := Aside0.mk A90
          clear A90
          simp only [Option.some.injEq, Prod.mk.injEq] at H
          obtain ⟨rfl, rfl⟩ := H
          go_enter Tryd.func26, Tryd.ntmps26
          go_wp2_with (first | ((with_reducible refine gate_callee (f := 21) rfl ?_); refine goesL_ (some 7) rfl rfl Tryd.func21 (by kernel_rfl) rfl #[.slice A0 l0.length c0] rfl (by (try simp only [List.map_toArray, List.map_cons, List.map_nil]); first | done | rfl | (simp only [List.length_drop, List.length_take]; rfl)) ?_; (with_reducible refine (tidingsref01_Right.calls k _ _ l0 true _ ?side1 ?side2 A3.out).mono ?_); (case side1 => repeat (first | exact HR0.out | (with_reducible refine Kd.C_alloc ?_ _) | (with_reducible refine Kd.C_drewN ?_ _) | (with_reducible refine Kd.C_drew ?_))); (case side2 => exact HC0.out); rintro e w' ⟨rfl, ⟨nd, rfl⟩⟩; refine ⟨_, rfl, ?_⟩) | (go_at_call 21; (with_reducible refine (tidingsref01_Right.calls k _ _ l1 true _ ?side1 ?side2 A5.out).mono ?_); (case side1 => repeat (first | exact HR1.out | (with_reducible refine Kd.C_alloc ?_ _) | (with_reducible refine Kd.C_drewN ?_ _) | (with_reducible refine Kd.C_drew ?_))); (case side2 => exact HC1.out); rintro e w' ⟨rfl, ⟨nd, rfl⟩⟩) | ((with_reducible refine gate_dst (N := 14) rfl ?_); refine Kd.R_lit k65 _ 65 ?hg (N := 14) ?hd (xs := ([] : List (S65))) (inner := []) (ok := fun _ => True) (okp := fun _ => True) ?hr ?hp (fun _ hk => hk) trivial (Below.refl _ _) (Nat.le_refl _) (by simp) ?_; (case hd => rfl); (case hg => rfl); (case hr => first | (go_simp; done) | (go_simp; rfl)); (case hp => exact (Reps.none _ _)); intro v384 w10 ho11 hb hg_ hnew_; clear hg_ hnew_; (first | rw [← Ny383.out] at ho11 | (simp only [Int.reduceToNat] at ho11; rw [← Ny383.out] at ho11)); have n0_ := Aside0.mk (Kd.R_lower ho11 (below_size (by repeat (first | (with_reducible first | exact HB.out | apply below_alloc | apply pw_below_drewN | apply below_drew1) | exact HB.out)))); have n1_ := Aside0.mk (below_step (by repeat (first | (with_reducible first | exact HB.out | apply below_alloc | apply pw_below_drewN | apply below_drew1) | exact HB.out)) hb); clear HB; have HO385 := n0_; have HB := n1_; clear n0_ n1_; clear hb ho11) | ((with_reducible refine gate_builtin (b := .append) (xs := #[.tmp 14, .tmp 15]) rfl ?_); at_builtin; refine Kd.R_append_rows k65 (w0 := w) w.heap.size rfl (.tmp 14) (.tmp 15) 39 65 (.agg #[(.int .u8 0), (.int .u32 0), (.int .u32 0)]) 12 rfl Tryd.underlying39 info65 rfl (by decide) (by omega) v384 y383 l0 _ _ _ (fun _ => True) (fun _ => False) rfl rfl ?aO ?aR (fun _ _ h => h) (fun _ h => h.elim) ?aF ?aB ?aS ?aL ?_; (case aR => repeat (first | exact (Kd.C_below HR0.out HB.out) | (with_reducible refine Kd.C_alloc ?_ _) | (with_reducible refine Kd.C_drewN ?_ _) | (with_reducible refine Kd.C_drew ?_))); (case aB => exact (by repeat (first | (with_reducible first | exact HB.out | apply below_alloc | apply pw_below_drewN | apply below_drew1) | exact HB.out))); (case aF => exact (fun _ _ => trivial)); (case aO => exact (by (with_reducible repeat (first | apply Kd.R_alloc | apply Kd.R_drewN | apply Kd.R_drew)); exact HO385.out)); (case aS => exact (below_size (by repeat (first | (with_reducible first | exact HB.out | apply below_alloc | apply pw_below_drewN | apply below_drew1) | exact HB.out)))); (case aL => have := LMc7.out; omega); intro v387 w12 ho hb hg hat; rw [← Ny386.out] at ho; have n0_ := Aside0.mk (hb); have n1_ := Aside0.mk (ho); clear HB; clear HO385; have HB := n0_; have HO388 := n1_; clear n0_ n1_; clear ho hb hg hat) | ((with_reducible refine gate_builtin (b := .append) (xs := #[.tmp 16, .tmp 17]) rfl ?_); at_builtin; refine Kd.R_append_rows k65 (w0 := w) w.heap.size rfl (.tmp 16) (.tmp 17) 39 65 (.agg #[(.int .u8 0), (.int .u32 0), (.int .u32 0)]) 12 rfl Tryd.underlying39 info65 rfl (by decide) (by omega) v387 y386 l1 _ _ _ (fun _ => True) (fun _ => False) rfl rfl ?aO ?aR (fun _ _ h => h) (fun _ h => h.elim) ?aF ?aB ?aS ?aL ?_; (case aR => repeat (first | exact (Kd.C_below HR1.out HB.out) | (with_reducible refine Kd.C_alloc ?_ _) | (with_reducible refine Kd.C_drewN ?_ _) | (with_reducible refine Kd.C_drew ?_))); (case aB => exact (by repeat (first | (with_reducible first | exact HB.out | apply below_alloc | apply pw_below_drewN | apply below_drew1) | exact HB.out))); (case aF => exact (fun _ _ => trivial)); (case aO => exact (by (with_reducible repeat (first | apply Kd.R_alloc | apply Kd.R_drewN | apply Kd.R_drew)); exact HO388.out)); (case aS => exact (below_size (by repeat (first | (with_reducible first | exact HB.out | apply below_alloc | apply pw_below_drewN | apply below_drew1) | exact HB.out)))); (case aL => have := LMc8.out; omega); intro v390 w13 ho hb hg hat; rw [← Ny389.out] at ho; have n0_ := Aside0.mk (hb); have n1_ := Aside0.mk (ho); clear HB; clear HO388; have HB := n0_; have HO391 := n1_; clear n0_ n1_; clear ho hb hg hat; obtain ⟨Ao14, co14, eo14⟩ := Kd.R_slice HO391.out; subst eo14) | ((with_reducible refine gate_callee (f := 42) rfl ?_); refine goesL_ (some 19) rfl rfl Tryd.func42 (by kernel_rfl) rfl #[.slice Ao14 y389.length co14, .int .u8 0, .int .u32 0] rfl (by (try simp only [List.map_toArray, List.map_cons, List.map_nil]); first | done | rfl | (simp only [List.length_drop, List.length_take]; rfl)) ?_; (with_reducible refine (tidingsref01_told.calls k _ _ y389 0 0 t392 t393 _ ?side1 ?side2 A9.out).mono ?_); (case side1 => repeat (first | exact (Kd.R_reads' HO391.out).2.2 | (with_reducible refine Kd.C_alloc ?_ _) | (with_reducible refine Kd.C_drewN ?_ _) | (with_reducible refine Kd.C_drew ?_))); (case side2 => exact (Kd.R_reads' HO391.out).2.1); rintro e w15 ⟨v394, rfl, ho0, hb⟩; refine ⟨_, rfl, ?_⟩; have n0_ := Aside0.mk (Kd.R_elder' (by (with_reducible repeat (first | apply Kd.R_alloc | apply Kd.R_drewN | apply Kd.R_drew)); exact HO391.out) (Kd.R_base ho0) hb); have n1_ := Aside0.mk (Kd.R_lower (Kd.R_new' ho0 (Kd.R_lt (by (with_reducible repeat (first | apply Kd.R_alloc | apply Kd.R_drewN | apply Kd.R_drew)); exact HO391.out))) (below_size (by repeat (first | (with_reducible first | exact HB.out | apply below_alloc | apply pw_below_drewN | apply below_drew1) | exact HB.out)))); have n2_ := Aside0.mk (below_step (by repeat (first | (with_reducible first | exact HB.out | apply below_alloc | apply pw_below_drewN | apply below_drew1) | exact HB.out)) hb); clear HO391; clear HB; have HO391 := n0_; have HO395 := n1_; have HB := n2_; clear n0_ n1_ n2_; (try clear hb); (try clear hb2); (try clear hk); (try clear hi); (try clear ho0)))
          go_ret2
          exact ⟨_, by first | rfl | (simp [errW_none, errW_some] <;> rfl) | (simp [*, errW_none, errW_some] <;> rfl), by (with_reducible repeat (first | apply Kd.R_alloc | apply Kd.R_drewN | apply Kd.R_drew)); exact Kd.R_mono HO395.out (fun _ hk => trivial), by repeat (first | (with_reducible first | exact HB.out | apply below_alloc | apply pw_below_drewN | apply below_drew1) | exact HB.out)⟩
        · rw [if_neg c8] at H
          exact absurd H (by simp)
      · rw [if_neg c7] at H
        exact absurd H (by simp)
    · replace c6 := Bool.eq_false_iff.mpr c6
      subst c6
      have H1 : (some (([] : List (S65)), 9)) = some (r1, r2) := by rw [if_neg (show ¬ (false = true) by decide)] at H; exact H
      clear H
      have H := H1
      clear H1
      simp only [Option.some.injEq, Prod.mk.injEq] at H
      obtain ⟨rfl, rfl⟩ := H
      go_enter Tryd.func26, Tryd.ntmps26
      go_wp2_with (first | ((with_reducible refine gate_callee (f := 21) rfl ?_); refine goesL_ (some 7) rfl rfl Tryd.func21 (by kernel_rfl) rfl #[.slice A0 l0.length c0] rfl (by (try simp only [List.map_toArray, List.map_cons, List.map_nil]); first | done | rfl | (simp only [List.length_drop, List.length_take]; rfl)) ?_; (with_reducible refine (tidingsref01_Right.calls k _ _ l0 true _ ?side1 ?side2 A3.out).mono ?_); (case side1 => repeat (first | exact HR0.out | (with_reducible refine Kd.C_alloc ?_ _) | (with_reducible refine Kd.C_drewN ?_ _) | (with_reducible refine Kd.C_drew ?_))); (case side2 => exact HC0.out); rintro e w' ⟨rfl, ⟨nd, rfl⟩⟩; refine ⟨_, rfl, ?_⟩) | (go_at_call 21; (with_reducible refine (tidingsref01_Right.calls k _ _ l1 false _ ?side1 ?side2 A5.out).mono ?_); (case side1 => repeat (first | exact HR1.out | (with_reducible refine Kd.C_alloc ?_ _) | (with_reducible refine Kd.C_drewN ?_ _) | (with_reducible refine Kd.C_drew ?_))); (case side2 => exact HC1.out); rintro e w' ⟨rfl, ⟨nd, rfl⟩⟩))
      go_ret2
      exact ⟨_, by first | rfl | (simp [errW_none, errW_some] <;> rfl) | (simp [*, errW_none, errW_some] <;> rfl), by first | exact Kd.R_nil _ _ _ _ _ | exact Kd.N_nil _ _ _ _ _ | exact Kd.V_nil _ _ _ _ _ | exact Kd.Q_nil _ _ _ _ _ | exact Kd.S_nil _ _ _ _ _, by repeat (first | (with_reducible first | exact HB.out | apply below_alloc | apply pw_below_drewN | apply below_drew1) | exact HB.out)⟩
  · replace c4 := Bool.eq_false_iff.mpr c4
    subst c4
    have H1 : (some (([] : List (S65)), 9)) = some (r1, r2) := by rw [if_neg (show ¬ (false = true) by decide)] at H; exact H
    clear H
    have H := H1
    clear H1
    simp only [Option.some.injEq, Prod.mk.injEq] at H
    obtain ⟨rfl, rfl⟩ := H
    go_enter Tryd.func26, Tryd.ntmps26
    go_wp2_with (first | ((with_reducible refine gate_callee (f := 21) rfl ?_); refine goesL_ (some 7) rfl rfl Tryd.func21 (by kernel_rfl) rfl #[.slice A0 l0.length c0] rfl (by (try simp only [List.map_toArray, List.map_cons, List.map_nil]); first | done | rfl | (simp only [List.length_drop, List.length_take]; rfl)) ?_; (with_reducible refine (tidingsref01_Right.calls k _ _ l0 false _ ?side1 ?side2 A3.out).mono ?_); (case side1 => repeat (first | exact HR0.out | (with_reducible refine Kd.C_alloc ?_ _) | (with_reducible refine Kd.C_drewN ?_ _) | (with_reducible refine Kd.C_drew ?_))); (case side2 => exact HC0.out); rintro e w' ⟨rfl, ⟨nd, rfl⟩⟩; refine ⟨_, rfl, ?_⟩))
    go_ret2
    exact ⟨_, by first | rfl | (simp [errW_none, errW_some] <;> rfl) | (simp [*, errW_none, errW_some] <;> rfl), by first | exact Kd.R_nil _ _ _ _ _ | exact Kd.N_nil _ _ _ _ _ | exact Kd.V_nil _ _ _ _ _ | exact Kd.Q_nil _ _ _ _ _ | exact Kd.S_nil _ _ _ _ _, by repeat (first | (with_reducible first | exact HB.out | apply below_alloc | apply pw_below_drewN | apply below_drew1) | exact HB.out)⟩
/-! ### tidingsref01_Has: function 23 -/
def tidingsref01_Has.l0 : Nat → List (S65) → Int → Int → Int → Option (Bool)
  | 0, _, _, _, _ => none
  | k + 1, x0, x1, x2, x7 => if x7 < (x0.length : Int) then (if 0 ≤ x7 then (if ((rd_T65 x0 x7).f0) = x1 then (if x2 ≥ ((rd_T65 x0 x7).f1) then (if x2 ≤ ((rd_T65 x0 x7).f2) then (some true) else (tidingsref01_Has.l0 k x0 x1 x2 (wrap64 (x7 + 1)))) else (tidingsref01_Has.l0 k x0 x1 x2 (wrap64 (x7 + 1)))) else (tidingsref01_Has.l0 k x0 x1 x2 (wrap64 (x7 + 1)))) else (none)) else (some false)
def tidingsref01_Has.f (k : Nat) (l0 : List (S65)) (a1 : Int) (a2 : Int) : Option (Bool) := (tidingsref01_Right.f k l0).bind fun t396 => (if t396 = true then (tidingsref01_Has.l0 k l0 a1 a2 0) else (some false))
set_option maxHeartbeats 8000000 in
set_option maxRecDepth 100000 in
theorem tidingsref01_Has.calls (k : Nat) (A0 : Option Addr) (c0 : Nat) (l0 : List (S65)) (a1 : Int) (a2 : Int) (r : Bool) (w : World) (hr0 : Kd.C k65 w A0 l0.length l0) (hc0 : l0.length ≤ c0) (h : tidingsref01_Has.f k l0 a1 a2 = some r) :
    Calls Tryd.prog 23 #[.slice A0 l0.length c0, .int .u8 a1, .int .u32 a2] w fun e w' => e = .returned (.bool r) ∧ Drawn0 w w' := by
  have HR0 := Aside0.mk hr0
  have HC0 := Aside0.mk hc0
  clear hr0 hc0
  have H : ((tidingsref01_Right.f k l0).bind fun t396 => (if t396 = true then (tidingsref01_Has.l0 k l0 a1 a2 0) else (some false))) = some r := h
  clear h
  replace H := Option.bind_eq_some_iff.mp H
  obtain ⟨t396, A40, H⟩ := H
  replace H : (if t396 = true then (tidingsref01_Has.l0 k l0 a1 a2 0) else (some false)) = some r := H
  have A4 := Aside0.mk A40
  clear A40
  by_cases c5 : t396 = true
  · subst c5
    have H1 : (tidingsref01_Has.l0 k l0 a1 a2 0) = some r := by rw [if_pos rfl] at H; exact H
    clear H
    have H := H1
    clear H1
    have H' := Aside0.mk H
    clear H
    go_enter Tryd.func23, Tryd.ntmps23
    go_wp2_with (first | ((with_reducible refine gate_callee (f := 21) rfl ?_); refine goesL_ (some 9) rfl rfl Tryd.func21 (by kernel_rfl) rfl #[.slice A0 l0.length c0] rfl (by (try simp only [List.map_toArray, List.map_cons, List.map_nil]); first | done | rfl | (simp only [List.length_drop, List.length_take]; rfl)) ?_; (with_reducible refine (tidingsref01_Right.calls k _ _ l0 true _ ?side1 ?side2 A4.out).mono ?_); (case side1 => repeat (first | exact HR0.out | (with_reducible refine Kd.C_alloc ?_ _) | (with_reducible refine Kd.C_drewN ?_ _) | (with_reducible refine Kd.C_drew ?_))); (case side2 => exact HC0.out); rintro e w' ⟨rfl, ⟨nd, rfl⟩⟩; refine ⟨_, rfl, ?_⟩))
    go_loopg [7] k (fun kq v7 w' => ∃ (x7_1 : Int), v7 = .int .i64 x7_1 ∧ Aside0 (tidingsref01_Has.l0 kq l0 a1 a2 x7_1 = some r) ∧ Aside0 (kq ≤ k) ∧ Drawn0 w w')
    case atStart => exact ⟨(0), (by first | rfl | (simp; done) | (simp [*]; done)), H', ⟨Nat.le_refl _⟩, by repeat (first | exact Drawn0.refl _ | apply Drawn0.step)⟩
    case round =>
      clear H'
      try clear c2
      try clear p2
      try clear c5
      obtain ⟨x7_1, rfl, HA, HK1, ⟨m1, rfl⟩⟩ := hrel
      cases gk with
      | zero => exact absurd HA.out (by simp [tidingsref01_Has.l0])
      | succ k1 =>
        have H := HA.out
        clear HA
        simp only [tidingsref01_Has.l0] at H
        by_cases c6 : x7_1 < (l0.length : Int)
        · rw [if_pos c6] at H
          have c6b0 : decide (x7_1 < (l0.length : Int)) = true := decide_eq_true c6
          clear c6
          by_cases c7 : 0 ≤ x7_1
          · rw [if_pos c7] at H
            have c7b0 : decide (0 ≤ x7_1) = true := decide_eq_true c7
            clear c7
            by_cases c8 : ((rd_T65 l0 x7_1).f0) = a1
            · rw [if_pos c8] at H
              have c8b0 : (((rd_T65 l0 x7_1).f0) == a1) = true := beq_iff_eq.mpr c8
              have c8b1 : (((rd_T65 l0 x7_1).f0) != a1) = false := bne_eq_false_iff_eq.mpr c8
              clear c8
              by_cases c9 : a2 ≥ ((rd_T65 l0 x7_1).f1)
              · rw [if_pos c9] at H
                have c9b0 : decide (((rd_T65 l0 x7_1).f1) ≤ a2) = true := decide_eq_true c9
                clear c9
                by_cases c10 : a2 ≤ ((rd_T65 l0 x7_1).f2)
                · rw [if_pos c10] at H
                  have c10b0 : decide (a2 ≤ ((rd_T65 l0 x7_1).f2)) = true := decide_eq_true c10
                  clear c10
                  obtain rfl := Option.some.inj H
                  have p397 : 0 ≤ (x7_1 : Int) := of_decide_eq_true (by first | (with_reducible assumption) | assumption)
                  have q397 : x7_1 < (l0.length : Int) := of_decide_eq_true (by first | (with_reducible assumption) | assumption)
                  obtain ⟨ad397, e397, hx397_0, hx397_1, hx397_2⟩ := at_T65 HR0.out x7_1 p397 q397
                  cases e397
                  replace p397 := eq_true p397
                  replace q397 := eq_true q397
                  have p398 : 0 ≤ (x7_1 : Int) := of_decide_eq_true (by first | (with_reducible assumption) | assumption)
                  have q398 : x7_1 < (l0.length : Int) := of_decide_eq_true (by first | (with_reducible assumption) | assumption)
                  obtain ⟨ad398, e398, hx398_0, hx398_1, hx398_2⟩ := at_T65 HR0.out x7_1 p398 q398
                  obtain rfl : ad397 = ad398 := (by injection e398)
                  replace p398 := eq_true p398
                  replace q398 := eq_true q398
                  have p399 : 0 ≤ (x7_1 : Int) := of_decide_eq_true (by first | (with_reducible assumption) | assumption)
                  have q399 : x7_1 < (l0.length : Int) := of_decide_eq_true (by first | (with_reducible assumption) | assumption)
                  obtain ⟨ad399, e399, hx399_0, hx399_1, hx399_2⟩ := at_T65 HR0.out x7_1 p399 q399
                  obtain rfl : ad397 = ad399 := (by injection e399)
                  replace p399 := eq_true p399
                  replace q399 := eq_true q399
                  go_wp2
                  go_ret
                  exact ⟨by first | rfl | (simp; done) | (simp [*]; done), by repeat (first | exact Drawn0.refl _ | apply Drawn0.step)⟩
                · rw [if_neg c10] at H
                  have c10b0 : decide (a2 ≤ ((rd_T65 l0 x7_1).f2)) = false := decide_eq_false c10
                  clear c10
                  have H' := Aside0.mk H
                  clear H
                  have p397 : 0 ≤ (x7_1 : Int) := of_decide_eq_true (by first | (with_reducible assumption) | assumption)
                  have q397 : x7_1 < (l0.length : Int) := of_decide_eq_true (by first | (with_reducible assumption) | assumption)
                  obtain ⟨ad397, e397, hx397_0, hx397_1, hx397_2⟩ := at_T65 HR0.out x7_1 p397 q397
                  cases e397
                  replace p397 := eq_true p397
                  replace q397 := eq_true q397
                  have p398 : 0 ≤ (x7_1 : Int) := of_decide_eq_true (by first | (with_reducible assumption) | assumption)
                  have q398 : x7_1 < (l0.length : Int) := of_decide_eq_true (by first | (with_reducible assumption) | assumption)
                  obtain ⟨ad398, e398, hx398_0, hx398_1, hx398_2⟩ := at_T65 HR0.out x7_1 p398 q398
                  obtain rfl : ad397 = ad398 := (by injection e398)
                  replace p398 := eq_true p398
                  replace q398 := eq_true q398
                  have p399 : 0 ≤ (x7_1 : Int) := of_decide_eq_true (by first | (with_reducible assumption) | assumption)
                  have q399 : x7_1 < (l0.length : Int) := of_decide_eq_true (by first | (with_reducible assumption) | assumption)
                  obtain ⟨ad399, e399, hx399_0, hx399_1, hx399_2⟩ := at_T65 HR0.out x7_1 p399 q399
                  obtain rfl : ad397 = ad399 := (by injection e399)
                  replace p399 := eq_true p399
                  replace q399 := eq_true q399
                  go_wp2
                  go_roundg k1
                  case measure => have := HK1.out; omega
                  case rel => exact ⟨(wrap64 (x7_1 + 1)), (by first | rfl | (simp; done) | (simp [*]; done)), H', ⟨by have := HK1.out; omega⟩, by repeat (first | exact Drawn0.refl _ | apply Drawn0.step)⟩
              · rw [if_neg c9] at H
                have c9b0 : decide (((rd_T65 l0 x7_1).f1) ≤ a2) = false := decide_eq_false c9
                clear c9
                have H' := Aside0.mk H
                clear H
                have p397 : 0 ≤ (x7_1 : Int) := of_decide_eq_true (by first | (with_reducible assumption) | assumption)
                have q397 : x7_1 < (l0.length : Int) := of_decide_eq_true (by first | (with_reducible assumption) | assumption)
                obtain ⟨ad397, e397, hx397_0, hx397_1, hx397_2⟩ := at_T65 HR0.out x7_1 p397 q397
                cases e397
                replace p397 := eq_true p397
                replace q397 := eq_true q397
                have p398 : 0 ≤ (x7_1 : Int) := of_decide_eq_true (by first | (with_reducible assumption) | assumption)
                have q398 : x7_1 < (l0.length : Int) := of_decide_eq_true (by first | (with_reducible assumption) | assumption)
                obtain ⟨ad398, e398, hx398_0, hx398_1, hx398_2⟩ := at_T65 HR0.out x7_1 p398 q398
                obtain rfl : ad397 = ad398 := (by injection e398)
                replace p398 := eq_true p398
                replace q398 := eq_true q398
                go_wp2
                go_roundg k1
                case measure => have := HK1.out; omega
                case rel => exact ⟨(wrap64 (x7_1 + 1)), (by first | rfl | (simp; done) | (simp [*]; done)), H', ⟨by have := HK1.out; omega⟩, by repeat (first | exact Drawn0.refl _ | apply Drawn0.step)⟩
            · rw [if_neg c8] at H
              have c8b0 : (((rd_T65 l0 x7_1).f0) == a1) = false := beq_eq_false_iff_ne.mpr c8
              have c8b1 : (((rd_T65 l0 x7_1).f0) != a1) = true := bne_iff_ne.mpr c8
              have H' := Aside0.mk H
              clear H
              have p397 : 0 ≤ (x7_1 : Int) := of_decide_eq_true (by first | (with_reducible assumption) | assumption)
              have q397 : x7_1 < (l0.length : Int) := of_decide_eq_true (by first | (with_reducible assumption) | assumption)
              obtain ⟨ad397, e397, hx397_0, hx397_1, hx397_2⟩ := at_T65 HR0.out x7_1 p397 q397
              cases e397
              replace p397 := eq_true p397
              replace q397 := eq_true q397
              go_wp2
              go_roundg k1
              case measure => have := HK1.out; omega
              case rel => exact ⟨(wrap64 (x7_1 + 1)), (by first | rfl | (simp; done) | (simp [*]; done)), H', ⟨by have := HK1.out; omega⟩, by repeat (first | exact Drawn0.refl _ | apply Drawn0.step)⟩
          · rw [if_neg c7] at H
            exact absurd H (by simp)
        · rw [if_neg c6] at H
          have c6b0 : decide (x7_1 < (l0.length : Int)) = false := decide_eq_false c6
          clear c6
          obtain rfl := Option.some.inj H
          go_wp2
          go_ret
          exact ⟨by first | rfl | (simp; done) | (simp [*]; done), by repeat (first | exact Drawn0.refl _ | apply Drawn0.step)⟩
  · replace c5 := Bool.eq_false_iff.mpr c5
    subst c5
    have H1 : (some false) = some r := by rw [if_neg (show ¬ (false = true) by decide)] at H; exact H
    clear H
    have H := H1
    clear H1
    obtain rfl := Option.some.inj H
    go_enter Tryd.func23, Tryd.ntmps23
    go_wp2_with (first | ((with_reducible refine gate_callee (f := 21) rfl ?_); refine goesL_ (some 9) rfl rfl Tryd.func21 (by kernel_rfl) rfl #[.slice A0 l0.length c0] rfl (by (try simp only [List.map_toArray, List.map_cons, List.map_nil]); first | done | rfl | (simp only [List.length_drop, List.length_take]; rfl)) ?_; (with_reducible refine (tidingsref01_Right.calls k _ _ l0 false _ ?side1 ?side2 A4.out).mono ?_); (case side1 => repeat (first | exact HR0.out | (with_reducible refine Kd.C_alloc ?_ _) | (with_reducible refine Kd.C_drewN ?_ _) | (with_reducible refine Kd.C_drew ?_))); (case side2 => exact HC0.out); rintro e w' ⟨rfl, ⟨nd, rfl⟩⟩; refine ⟨_, rfl, ?_⟩))
    go_ret
    exact ⟨by first | rfl | (simp; done) | (simp [*]; done), by repeat (first | exact Drawn0.refl _ | apply Drawn0.step)⟩
/-! ### tidingsref01_Same: function 24 -/
def tidingsref01_Same.l0 : Nat → List (S65) → List (S65) → Int → Option (Bool)
  | 0, _, _, _ => none
  | k + 1, x0, x1, x5 => if x5 < (x0.length : Int) then (if 0 ≤ x5 then (if x5 < (x1.length : Int) then (if (!(((rd_T65 x0 x5).f0) == ((rd_T65 x1 x5).f0)) || (!(((rd_T65 x0 x5).f1) == ((rd_T65 x1 x5).f1)) || (!(((rd_T65 x0 x5).f2) == ((rd_T65 x1 x5).f2))))) = true then (some false) else (tidingsref01_Same.l0 k x0 x1 (wrap64 (x5 + 1)))) else (none)) else (none)) else (some true)
def tidingsref01_Same.f (k : Nat) (l0 : List (S65)) (l1 : List (S65)) : Option (Bool) := if (l0.length : Int) = (l1.length : Int) then (tidingsref01_Same.l0 k l0 l1 0) else (some false)
set_option maxHeartbeats 8000000 in
set_option maxRecDepth 100000 in
theorem tidingsref01_Same.calls (k : Nat) (A0 : Option Addr) (c0 : Nat) (l0 : List (S65)) (A1 : Option Addr) (c1 : Nat) (l1 : List (S65)) (r : Bool) (w : World) (hr0 : Kd.C k65 w A0 l0.length l0) (hc0 : l0.length ≤ c0) (hr1 : Kd.C k65 w A1 l1.length l1) (hc1 : l1.length ≤ c1) (h : tidingsref01_Same.f k l0 l1 = some r) :
    Calls Tryd.prog 24 #[.slice A0 l0.length c0, .slice A1 l1.length c1] w fun e w' => e = .returned (.bool r) ∧ Drawn0 w w' := by
  have hu65 := Tryd.underlying65
  have HR0 := Aside0.mk hr0
  have HC0 := Aside0.mk hc0
  clear hr0 hc0
  have HR1 := Aside0.mk hr1
  have HC1 := Aside0.mk hc1
  clear hr1 hc1
  have H : (if (l0.length : Int) = (l1.length : Int) then (tidingsref01_Same.l0 k l0 l1 0) else (some false)) = some r := h
  clear h
  by_cases c3 : (l0.length : Int) = (l1.length : Int)
  · rw [if_pos c3] at H
    have c3b0 : ((l0.length : Int) == (l1.length : Int)) = true := beq_iff_eq.mpr c3
    have c3b1 : ((l0.length : Int) != (l1.length : Int)) = false := bne_eq_false_iff_eq.mpr c3
    have c3b2 : (l0.length == l1.length) = true := by first | simpa using c3 | (simp at c3 ⊢; omega)
    clear c3
    have H' := Aside0.mk H
    clear H
    go_enter Tryd.func24, Tryd.ntmps24
    go_wp2
    repeat (go_quiet (fail); try go_wp2)
    go_loopg [5] k (fun kq v5 w' => ∃ (x5_1 : Int), v5 = .int .i64 x5_1 ∧ Aside0 (tidingsref01_Same.l0 kq l0 l1 x5_1 = some r) ∧ Aside0 (kq ≤ k) ∧ Drawn0 w w')
    case atStart => exact ⟨(0), (by first | rfl | (simp; done) | (simp [*]; done)), H', ⟨Nat.le_refl _⟩, by repeat (first | exact Drawn0.refl _ | apply Drawn0.step)⟩
    case round =>
      clear H'
      try clear c1
      try clear c2
      try clear p2
      try clear c3
      try clear c3b0
      try clear c3b1
      try clear c3b2
      obtain ⟨x5_1, rfl, HA, HK1, ⟨m1, rfl⟩⟩ := hrel
      cases gk with
      | zero => exact absurd HA.out (by simp [tidingsref01_Same.l0])
      | succ k1 =>
        have H := HA.out
        clear HA
        simp only [tidingsref01_Same.l0] at H
        by_cases c4 : x5_1 < (l0.length : Int)
        · rw [if_pos c4] at H
          have c4b0 : decide (x5_1 < (l0.length : Int)) = true := decide_eq_true c4
          clear c4
          by_cases c5 : 0 ≤ x5_1
          · rw [if_pos c5] at H
            have c5b0 : decide (0 ≤ x5_1) = true := decide_eq_true c5
            clear c5
            by_cases c6 : x5_1 < (l1.length : Int)
            · rw [if_pos c6] at H
              have c6b0 : decide (x5_1 < (l1.length : Int)) = true := decide_eq_true c6
              clear c6
              by_cases c7 : (!(((rd_T65 l0 x5_1).f0) == ((rd_T65 l1 x5_1).f0)) || (!(((rd_T65 l0 x5_1).f1) == ((rd_T65 l1 x5_1).f1)) || (!(((rd_T65 l0 x5_1).f2) == ((rd_T65 l1 x5_1).f2))))) = true
              · rw [if_pos c7] at H
                have c7b0 : (!(((rd_T65 l0 x5_1).f0) == ((rd_T65 l1 x5_1).f0)) || (!(((rd_T65 l0 x5_1).f1) == ((rd_T65 l1 x5_1).f1)) || (!(((rd_T65 l0 x5_1).f2) == ((rd_T65 l1 x5_1).f2))))) = true := c7
                clear c7
                obtain rfl := Option.some.inj H
                have p400 : 0 ≤ (x5_1 : Int) := of_decide_eq_true (by first | (with_reducible assumption) | assumption)
                have q400 : x5_1 < (l0.length : Int) := of_decide_eq_true (by first | (with_reducible assumption) | assumption)
                obtain ⟨ad400, e400, hx400_0, hx400_1, hx400_2⟩ := at_T65 HR0.out x5_1 p400 q400
                cases e400
                replace p400 := eq_true p400
                replace q400 := eq_true q400
                have p401 : 0 ≤ (x5_1 : Int) := of_decide_eq_true (by first | (with_reducible assumption) | assumption)
                have q401 : x5_1 < (l1.length : Int) := of_decide_eq_true (by first | (with_reducible assumption) | assumption)
                obtain ⟨ad401, e401, hx401_0, hx401_1, hx401_2⟩ := at_T65 HR1.out x5_1 p401 q401
                cases e401
                replace p401 := eq_true p401
                replace q401 := eq_true q401
                go_wp2
                repeat (go_quiet (fail); try go_wp2)
                go_ret
                exact ⟨by first | rfl | (simp; done) | (simp [*]; done), by repeat (first | exact Drawn0.refl _ | apply Drawn0.step)⟩
              · rw [if_neg c7] at H
                have c7b0 : (!(((rd_T65 l0 x5_1).f0) == ((rd_T65 l1 x5_1).f0)) || (!(((rd_T65 l0 x5_1).f1) == ((rd_T65 l1 x5_1).f1)) || (!(((rd_T65 l0 x5_1).f2) == ((rd_T65 l1 x5_1).f2))))) = false := by simpa using c7
                clear c7
                have H' := Aside0.mk H
                clear H
                have p400 : 0 ≤ (x5_1 : Int) := of_decide_eq_true (by first | (with_reducible assumption) | assumption)
                have q400 : x5_1 < (l0.length : Int) := of_decide_eq_true (by first | (with_reducible assumption) | assumption)
                obtain ⟨ad400, e400, hx400_0, hx400_1, hx400_2⟩ := at_T65 HR0.out x5_1 p400 q400
                cases e400
                replace p400 := eq_true p400
                replace q400 := eq_true q400
                have p401 : 0 ≤ (x5_1 : Int) := of_decide_eq_true (by first | (with_reducible assumption) | assumption)
                have q401 : x5_1 < (l1.length : Int) := of_decide_eq_true (by first | (with_reducible assumption) | assumption)
                obtain ⟨ad401, e401, hx401_0, hx401_1, hx401_2⟩ := at_T65 HR1.out x5_1 p401 q401
                cases e401
                replace p401 := eq_true p401
                replace q401 := eq_true q401
                go_wp2
                repeat (go_quiet (fail); try go_wp2)
                go_roundg k1
                case measure => have := HK1.out; omega
                case rel => exact ⟨(wrap64 (x5_1 + 1)), (by first | rfl | (simp; done) | (simp [*]; done)), H', ⟨by have := HK1.out; omega⟩, by repeat (first | exact Drawn0.refl _ | apply Drawn0.step)⟩
            · rw [if_neg c6] at H
              exact absurd H (by simp)
          · rw [if_neg c5] at H
            exact absurd H (by simp)
        · rw [if_neg c4] at H
          have c4b0 : decide (x5_1 < (l0.length : Int)) = false := decide_eq_false c4
          clear c4
          obtain rfl := Option.some.inj H
          go_wp2
          repeat (go_quiet (fail); try go_wp2)
          go_ret
          exact ⟨by first | rfl | (simp; done) | (simp [*]; done), by repeat (first | exact Drawn0.refl _ | apply Drawn0.step)⟩
  · rw [if_neg c3] at H
    have c3b0 : ((l0.length : Int) == (l1.length : Int)) = false := beq_eq_false_iff_ne.mpr c3
    have c3b1 : ((l0.length : Int) != (l1.length : Int)) = true := bne_iff_ne.mpr c3
    have c3b2 : (l0.length == l1.length) = false := by first | simpa using c3 | (simp at c3 ⊢; omega)
    obtain rfl := Option.some.inj H
    go_enter Tryd.func24, Tryd.ntmps24
    go_wp2
    repeat (go_quiet (fail); try go_wp2)
    go_ret
    exact ⟨by first | rfl | (simp; done) | (simp [*]; done), by repeat (first | exact Drawn0.refl _ | apply Drawn0.step)⟩
end Go.Proofs.YtiminjibcafkaaaDoor.X
