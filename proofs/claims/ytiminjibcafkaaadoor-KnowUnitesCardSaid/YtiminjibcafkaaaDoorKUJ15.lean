/- Texts that this claim's law comes to, joined by wip/slim.py: X17, X3. -/
import Derived.Test.YtiminjibcafkaaaDoorKUJ7
import Derived.Test.YtiminjibcafkaaaDoorKUX15
import Derived.Test.YtiminjibcafkaaaDoorKUJ11
import Derived.Test.YtiminjibcafkaaaDoorKUX16
section
-- MADE BY wip/prx.py (the kit's printer, with contracts proved by hand). Not trusted: Lean checks it.
namespace Go.Proofs.YtiminjibcafkaaaDoor.X
open Go.RowKit Go.Proofs.YtiminjibcafkaaaDoorW.PrintWords Go.Proofs.YtiminjibcafkaaaDoorW.PrintLast Go.Proofs.YtiminjibcafkaaaDoorW.PrintMore
attribute [local go_sem] max2_int min2_int max_two min_two max_three min_three max_four min_four   -- for this text's walks alone
set_option linter.unusedVariables false
set_option linter.unusedSimpArgs false
/-! ### know_Add: function 16 -/
def know_Add.j0 : Nat → List (S65) → Bool → Int → Int → Int → Option ((List (S65)) × Option Int)
  | 0, _, _, _, _, _ => none
  | k + 1, x0, x20, x245000, x245001, x245002 => if x20 = true then (some (([] : List (S65)), some 9)) else ((slices_Clone_Run.f x0).bind fun t247 => ((some (([(⟨x245000, x245001, x245002⟩ : S65)] : List (S65)) : List (S65))).bind fun y250 => (if t247.length + y250.length < 11728124029610 then ((know_merged.f k (t247 ++ y250)).bind fun bt256 => (some (bt256.1, bt256.2))) else (none))))
def know_Add.f (k : Nat) (l0 : List (S65)) (a1 : Int) (a2 : Int) : Option ((List (S65)) × Option Int) := (know_Right.f k l0).bind fun t245 => (if t245 = true then ((know_run.f a1 a2 a2).bind fun t246 => (know_Add.j0 k l0 (!t246) a1 a2 a2)) else (know_Add.j0 k l0 true a1 a2 a2))
theorem know_Add.mono_l : ∀ k, (∀ y0 y1 y2 y3 y4, LeO (know_Add.j0 k y0 y1 y2 y3 y4) (know_Add.j0 (k + 1) y0 y1 y2 y3 y4))
  | 0 => fun _ _ _ _ _ r h => by simp [know_Add.j0] at h
  | k + 1 => by
    have ih0 := know_Add.mono_l k
    · intro y0 y1 y2 y3 y4
      unfold know_Add.j0
      repeat' first
      | (with_reducible exact ih0 _ _ _ _ _)
      | (with_reducible exact know_Right.mono _ _)
      | (with_reducible exact know_merged.mono _ _)
      | (with_reducible exact LeO.refl _)
      | (with_reducible exact LeO.none _)
      | (with_reducible refine LeO.ite ?_ ?_)
      | (with_reducible refine LeO.bind ?_ (fun _ => ?_))
      | exact ih0 _ _ _ _ _
      | exact know_Right.mono _ _
      | exact know_merged.mono _ _
      | exact LeO.none _
      | refine LeO.ite ?_ ?_
      | refine LeO.bind ?_ (fun _ => ?_)
theorem know_Add.mono : ∀ a0 a1 a2 k, LeO (know_Add.f k a0 a1 a2) (know_Add.f (k + 1) a0 a1 a2) := by
  intro a0 a1 a2 k
  have ih0 := know_Add.mono_l k
  unfold know_Add.f
  repeat' first
      | (with_reducible exact ih0 _ _ _ _ _)
      | (with_reducible exact know_Right.mono _ _)
      | (with_reducible exact know_merged.mono _ _)
      | (with_reducible exact LeO.refl _)
      | (with_reducible exact LeO.none _)
      | (with_reducible refine LeO.ite ?_ ?_)
      | (with_reducible refine LeO.bind ?_ (fun _ => ?_))
      | exact ih0 _ _ _ _ _
      | exact know_Right.mono _ _
      | exact know_merged.mono _ _
      | exact LeO.none _
      | refine LeO.ite ?_ ?_
      | refine LeO.bind ?_ (fun _ => ?_)
def know_Add.T4 : Bool × List (List Nat × List Nat) := (true, [([], []), ([0], [0]), ([], []), ([2], [2]), ([1, 3, 1], [1, 3]), ([4, 4], [4]), ([5], [5]), ([5], [5]), ([6, 5, 0, 1, 2, 3, 4, 5, 6, 7], [6]), ([7, 8, 0, 1, 2, 3, 4, 5, 6, 7, 8], [7])])
def know_Add.B4 : List Nat := [0, 1, 0, 4, 15, 31, 63, 63, 255, 511]
theorem know_Add.tab4 : rtab .any (opsOf Tryd.f16 4) = know_Add.T4 := by kernel_rfl
theorem know_Add.bits4 : waitsOk know_Add.T4.2 know_Add.B4 = true := by kernel_rfl
set_option maxHeartbeats 8000000 in
set_option maxRecDepth 100000 in
theorem know_Add.calls (k : Nat) (A0 : Option Addr) (c0 : Nat) (l0 : List (S65)) (a1 : Int) (a2 : Int) (r1 : List (S65)) (r2 : Option Int) (w : World) (hr0 : Kd.C k65 w A0 l0.length l0) (hc0 : l0.length ≤ c0) (h : know_Add.f k l0 a1 a2 = some (r1, r2)) :
    Calls Tryd.prog 16 #[.slice A0 l0.length c0, .int .u8 a1, .int .u32 a2] w fun e w' => ∃ v0_ : Value, e = .returned (.tuple #[v0_, errW r2]) ∧ Kd.R k65 65 w' w.heap.size (fun _ => True) v0_ r1 ∧ Below w.heap.size w w' := by
  have hu65 := Tryd.underlying65
  have hu30 := Tryd.underlying30
  have hu52 := Tryd.underlying52
  have HR0 := Aside0.mk hr0
  have HC0 := Aside0.mk hc0
  clear hr0 hc0
  have HB := Aside0.mk (Below.refl w.heap.size w)
  have H : ((know_Right.f k l0).bind fun t245 => (if t245 = true then ((know_run.f a1 a2 a2).bind fun t246 => (know_Add.j0 k l0 (!t246) a1 a2 a2)) else (know_Add.j0 k l0 true a1 a2 a2))) = some (r1, r2) := h
  clear h
  have HC4 := Aside0.mk H
  clear H
  go_enter Tryd.func16, Tryd.ntmps16
  go_upto_region 2 with (first | ((with_reducible refine gate_dst (N := 8) rfl ?_); refine box_event ?hg (N := 8) ?hd (cs := #[.int .u8 0, .int .u32 0, .int .u32 0]) (t := 65) ?hr ?_; (case hd => rfl); (case hg => rfl); (case hr => first | (go_simp; done) | (go_simp; rfl)); intro gb244 hg w5 hbox hb; have n0_ := Aside0.mk (below_step (by repeat (first | (with_reducible first | exact HB.out | apply below_alloc | apply pw_below_drewN | apply below_drew1) | exact HB.out)) hb); have n1_ := Aside0.mk (hbox); have n2_ := Aside0.mk ((by rw [hg]; exact (below_size (by repeat (first | (with_reducible first | exact HB.out | apply below_alloc | apply pw_below_drewN | apply below_drew1) | exact HB.out))) : w.heap.size ≤ gb244)); have n3_ := Aside0.mk ((by rw [hg]; exact (below_size (by repeat (first | (with_reducible first | exact HB.out | apply below_alloc | apply pw_below_drewN | apply below_drew1) | exact HB.out))) : w.heap.size ≤ gb244)); clear HB; have HB := n0_; have BK244 := n1_; have GW244 := n2_; have GE244 := n3_; clear n0_ n1_ n2_ n3_; clear hb hbox hg; have hcz6_0 : w5.cell? ⟨gb244, 0, none⟩ = some (.int .u8 0) := (blk_cell BK244.out 0).trans rfl; have hcz6_1 : w5.cell? ⟨gb244, 1, none⟩ = some (.int .u32 0) := (blk_cell BK244.out 1).trans rfl; have hcz6_2 : w5.cell? ⟨gb244, 2, none⟩ = some (.int .u32 0) := (blk_cell BK244.out 2).trans rfl; have hfz6_0 := blk_frozen BK244.out 0; have hfz6_1 := blk_frozen BK244.out 1; have hfz6_2 := blk_frozen BK244.out 2))
  (try simp only [Act.put, List.setIfInBounds_toArray, List.set_cons_zero, List.set_cons_succ])
  go_cut [20] (fun v20 wc => ∃ (kq : Nat) (x20_3 : Bool), v20 = .bool x20_3 ∧ Aside0 (know_Add.j0 kq l0 x20_3 a1 a2 a2 = some (r1, r2)) ∧ Aside0 (kq ≤ k) ∧ Aside0 (wc.heap[gb244]? = some (.cells #[.int .u8 a1, .int .u32 a2, .int .u32 a2] 65 (0, 0))) ∧ Aside0 (Below w.heap.size w wc))
  case first =>
    have H := HC4.out
    clear HC4
    replace H := Option.bind_eq_some_iff.mp H
    obtain ⟨t245, A70, H⟩ := H
    replace H : (if t245 = true then ((know_run.f a1 a2 a2).bind fun t246 => (know_Add.j0 k l0 (!t246) a1 a2 a2)) else (know_Add.j0 k l0 true a1 a2 a2)) = some (r1, r2) := H
    have A7 := Aside0.mk A70
    clear A70
    by_cases c8 : t245 = true
    · subst c8
      have H1 : ((know_run.f a1 a2 a2).bind fun t246 => (know_Add.j0 k l0 (!t246) a1 a2 a2)) = some (r1, r2) := by rw [if_pos rfl] at H; exact H
      clear H
      have H := H1
      clear H1
      replace H := Option.bind_eq_some_iff.mp H
      obtain ⟨t246, A90, H⟩ := H
      replace H : (know_Add.j0 k l0 (!t246) a1 a2 a2) = some (r1, r2) := H
      have A9 := Aside0.mk A90
      clear A90
      have H' := Aside0.mk H
      clear H
      go_wp2_with (first | ((with_reducible refine gate_callee (f := 20) rfl ?_); refine goesL_ (some 14) rfl rfl Tryd.func20 (by kernel_rfl) rfl #[.slice A0 l0.length c0] rfl (by (try simp only [List.map_toArray, List.map_cons, List.map_nil]); first | done | rfl | (simp only [List.length_drop, List.length_take]; rfl)) ?_; (with_reducible refine (know_Right.calls k _ _ l0 true _ ?side1 ?side2 A7.out).mono ?_); (case side1 => exact Kd.C_below HR0.out (by repeat (first | (with_reducible first | exact HB.out | apply below_alloc | apply pw_below_drewN | apply below_drew1 | refine below_set ?_ GE244.out) | exact HB.out))); (case side2 => exact HC0.out); rintro e w10 ⟨rfl, hb⟩; refine ⟨_, rfl, ?_⟩; have n0_ := Aside0.mk (blk_below (g := gb244) (o := .cells #[.int .u8 a1, .int .u32 a2, .int .u32 a2] 65 (0, 0)) (by (with_reducible repeat (first | refine blk_drewN ?_ _ | refine blk_drew ?_ | refine blk_alloc ?_ _)); refine blk_put (cs := #[.int .u8 a1, .int .u32 a2, .int .u32 0]) ?_ 2 _ rfl; (with_reducible repeat (first | refine blk_drewN ?_ _ | refine blk_drew ?_ | refine blk_alloc ?_ _)); refine blk_put (cs := #[.int .u8 a1, .int .u32 0, .int .u32 0]) ?_ 1 _ rfl; (with_reducible repeat (first | refine blk_drewN ?_ _ | refine blk_drew ?_ | refine blk_alloc ?_ _)); refine blk_put (cs := #[.int .u8 0, .int .u32 0, .int .u32 0]) ?_ 0 _ rfl; (with_reducible repeat (first | refine blk_drewN ?_ _ | refine blk_drew ?_ | refine blk_alloc ?_ _)); exact BK244.out) hb); have n1_ := Aside0.mk (below_step (by repeat (first | (with_reducible first | exact HB.out | apply below_alloc | apply pw_below_drewN | apply below_drew1 | refine below_set ?_ GE244.out) | exact HB.out)) hb); clear BK244; clear HB; have BK244 := n0_; have HB := n1_; clear n0_ n1_; (try clear hb); (try clear hb2); (try clear hk); (try clear hi); have hcz11_0 : w10.cell? ⟨gb244, 0, none⟩ = some (.int .u8 a1) := (blk_cell BK244.out 0).trans rfl; have hcz11_1 : w10.cell? ⟨gb244, 1, none⟩ = some (.int .u32 a2) := (blk_cell BK244.out 1).trans rfl; have hcz11_2 : w10.cell? ⟨gb244, 2, none⟩ = some (.int .u32 a2) := (blk_cell BK244.out 2).trans rfl; have hfz11_0 := blk_frozen BK244.out 0; have hfz11_1 := blk_frozen BK244.out 1; have hfz11_2 := blk_frozen BK244.out 2) | (go_at_call 39; (with_reducible refine (know_run.calls a1 a2 a2 t246 _ A9.out).mono ?_); rintro e w12 ⟨rfl, hb⟩; have n0_ := Aside0.mk (blk_below (g := gb244) (o := .cells #[.int .u8 a1, .int .u32 a2, .int .u32 a2] 65 (0, 0)) (by (with_reducible repeat (first | refine blk_drewN ?_ _ | refine blk_drew ?_ | refine blk_alloc ?_ _)); exact BK244.out) hb); have n1_ := Aside0.mk (below_step (by repeat (first | (with_reducible first | exact HB.out | apply below_alloc | apply pw_below_drewN | apply below_drew1 | refine below_set ?_ GE244.out) | exact HB.out)) hb); clear BK244; clear HB; have BK244 := n0_; have HB := n1_; clear n0_ n1_; (try clear hb); (try clear hb2); (try clear hk); (try clear hi)))
      go_meet
      case rel => exact ⟨_, (!t246), (by first | rfl | (simp; done) | (simp [*]; done)), H', ⟨by first | omega | exact Nat.le_refl _⟩, ⟨by (with_reducible repeat (first | refine blk_drewN ?_ _ | refine blk_drew ?_ | refine blk_alloc ?_ _)); exact BK244.out⟩, ⟨by repeat (first | (with_reducible first | exact HB.out | apply below_alloc | apply pw_below_drewN | apply below_drew1 | refine below_set ?_ GE244.out) | exact HB.out)⟩⟩
    · replace c8 := Bool.eq_false_iff.mpr c8
      subst c8
      have H1 : (know_Add.j0 k l0 true a1 a2 a2) = some (r1, r2) := by rw [if_neg (show ¬ (false = true) by decide)] at H; exact H
      clear H
      have H := H1
      clear H1
      have H' := Aside0.mk H
      clear H
      go_wp2_with (first | ((with_reducible refine gate_callee (f := 20) rfl ?_); refine goesL_ (some 14) rfl rfl Tryd.func20 (by kernel_rfl) rfl #[.slice A0 l0.length c0] rfl (by (try simp only [List.map_toArray, List.map_cons, List.map_nil]); first | done | rfl | (simp only [List.length_drop, List.length_take]; rfl)) ?_; (with_reducible refine (know_Right.calls k _ _ l0 false _ ?side1 ?side2 A7.out).mono ?_); (case side1 => exact Kd.C_below HR0.out (by repeat (first | (with_reducible first | exact HB.out | apply below_alloc | apply pw_below_drewN | apply below_drew1 | refine below_set ?_ GE244.out) | exact HB.out))); (case side2 => exact HC0.out); rintro e w13 ⟨rfl, hb⟩; refine ⟨_, rfl, ?_⟩; have n0_ := Aside0.mk (blk_below (g := gb244) (o := .cells #[.int .u8 a1, .int .u32 a2, .int .u32 a2] 65 (0, 0)) (by (with_reducible repeat (first | refine blk_drewN ?_ _ | refine blk_drew ?_ | refine blk_alloc ?_ _)); refine blk_put (cs := #[.int .u8 a1, .int .u32 a2, .int .u32 0]) ?_ 2 _ rfl; (with_reducible repeat (first | refine blk_drewN ?_ _ | refine blk_drew ?_ | refine blk_alloc ?_ _)); refine blk_put (cs := #[.int .u8 a1, .int .u32 0, .int .u32 0]) ?_ 1 _ rfl; (with_reducible repeat (first | refine blk_drewN ?_ _ | refine blk_drew ?_ | refine blk_alloc ?_ _)); refine blk_put (cs := #[.int .u8 0, .int .u32 0, .int .u32 0]) ?_ 0 _ rfl; (with_reducible repeat (first | refine blk_drewN ?_ _ | refine blk_drew ?_ | refine blk_alloc ?_ _)); exact BK244.out) hb); have n1_ := Aside0.mk (below_step (by repeat (first | (with_reducible first | exact HB.out | apply below_alloc | apply pw_below_drewN | apply below_drew1 | refine below_set ?_ GE244.out) | exact HB.out)) hb); clear BK244; clear HB; have BK244 := n0_; have HB := n1_; clear n0_ n1_; (try clear hb); (try clear hb2); (try clear hk); (try clear hi)))
      go_meet
      case rel => exact ⟨_, (true), (by first | rfl | (simp; done) | (simp [*]; done)), H', ⟨by first | omega | exact Nat.le_refl _⟩, ⟨by (with_reducible repeat (first | refine blk_drewN ?_ _ | refine blk_drew ?_ | refine blk_alloc ?_ _)); exact BK244.out⟩, ⟨by repeat (first | (with_reducible first | exact HB.out | apply below_alloc | apply pw_below_drewN | apply below_drew1 | refine below_set ?_ GE244.out) | exact HB.out)⟩⟩
  case rest =>
    clear HC4
    try clear c1
    try clear c2
    try clear p2
    try clear c8
    try clear hcz11_0
    try clear hcz11_1
    try clear hcz11_2
    try clear hcz6_0
    try clear hcz6_1
    try clear hcz6_2
    try clear hfz11_0
    try clear hfz11_1
    try clear hfz11_2
    try clear hfz6_0
    try clear hfz6_1
    try clear hfz6_2
    obtain ⟨kq, x20_3, rfl, HA, HJ3, BK244, HB⟩ := hcut
    cases kq with
    | zero => exact absurd HA.out (by simp [know_Add.j0])
    | succ kj3 =>
      have H := HA.out
      clear HA
      simp only [know_Add.j0] at H
      by_cases c14 : x20_3 = true
      · subst c14
        have H1 : (some (([] : List (S65)), some 9)) = some (r1, r2) := by rw [if_pos rfl] at H; exact H
        clear H
        have H := H1
        clear H1
        simp only [Option.some.injEq, Prod.mk.injEq] at H
        obtain ⟨rfl, rfl⟩ := H
        go_wp2
        go_ret2
        exact ⟨_, by first | rfl | (simp [errW_none, errW_some] <;> rfl) | (simp [*, errW_none, errW_some] <;> rfl), by first | exact Kd.R_nil _ _ _ _ _ | exact Kd.N_nil _ _ _ _ _ | exact Kd.V_nil _ _ _ _ _ | exact Kd.Q_nil _ _ _ _ _ | exact Kd.S_nil _ _ _ _ _, by repeat (first | (with_reducible first | exact HB.out | apply below_alloc | apply pw_below_drewN | apply below_drew1 | refine below_set ?_ GE244.out) | exact HB.out)⟩
      · replace c14 := Bool.eq_false_iff.mpr c14
        subst c14
        have H1 : ((slices_Clone_Run.f l0).bind fun t247 => ((some (([(⟨a1, a2, a2⟩ : S65)] : List (S65)) : List (S65))).bind fun y250 => (if t247.length + y250.length < 11728124029610 then ((know_merged.f kj3 (t247 ++ y250)).bind fun bt256 => (some (bt256.1, bt256.2))) else (none)))) = some (r1, r2) := by rw [if_neg (show ¬ (false = true) by decide)] at H; exact H
        clear H
        have H := H1
        clear H1
        replace H := Option.bind_eq_some_iff.mp H
        obtain ⟨t247, A150, H⟩ := H
        replace H : ((some (([(⟨a1, a2, a2⟩ : S65)] : List (S65)) : List (S65))).bind fun y250 => (if t247.length + y250.length < 11728124029610 then ((know_merged.f kj3 (t247 ++ y250)).bind fun bt256 => (some (bt256.1, bt256.2))) else (none))) = some (r1, r2) := H
        have A15 := Aside0.mk A150
        clear A150
        obtain ⟨y250, hy250⟩ : ∃ y_ : List (S65), y_ = (([(⟨a1, a2, a2⟩ : S65)] : List (S65))) := ⟨_, rfl⟩
        replace H : (if t247.length + y250.length < 11728124029610 then ((know_merged.f kj3 (t247 ++ y250)).bind fun bt256 => (some (bt256.1, bt256.2))) else (none)) = some (r1, r2) := by first | (rw [hy250]; with_reducible exact H) | (have H2_ := (Option.bind_some _ _).symm.trans H; rw [hy250]; with_reducible exact H2_) | (have H2_ := (Option.bind_some _ _).symm.trans H; with_reducible exact H2_) | with_reducible exact H | (rw [hy250]; exact H) | exact H
        have Ny250 := Aside0.mk hy250
        clear hy250
        by_cases c16 : t247.length + y250.length < 11728124029610
        · rw [if_pos c16] at H
          have LMc16 := Aside0.mk c16
          clear c16
          obtain ⟨y253, hy253⟩ : ∃ y_ : List (S65), y_ = (t247 ++ y250) := ⟨_, rfl⟩
          replace H : ((know_merged.f kj3 y253).bind fun bt256 => (some (bt256.1, bt256.2))) = some (r1, r2) := by first | (rw [hy253]; with_reducible exact H) | (have H2_ := (Option.bind_some _ _).symm.trans H; rw [hy253]; with_reducible exact H2_) | (have H2_ := (Option.bind_some _ _).symm.trans H; with_reducible exact H2_) | with_reducible exact H | (rw [hy253]; exact H) | exact H
          have Ny253 := Aside0.mk hy253
          clear hy253
          replace H := Option.bind_eq_some_iff.mp H
          obtain ⟨⟨t256, t257⟩, A170, H⟩ := H
          replace H : (some (t256, t257)) = some (r1, r2) := H
          have A17 := Aside0.mk A170
          clear A170
          simp only [Option.some.injEq, Prod.mk.injEq] at H
          obtain ⟨rfl, rfl⟩ := H
          try go_wp2
          have n0_ := Aside0.mk (blk_drew BK244.out)
          have n1_ := Aside0.mk (below_drew1 HB.out)
          clear BK244
          clear HB
          have BK244 := n0_
          have HB := n1_
          clear n0_ n1_
          refine start_ (n := 10) (S := fun w' => w'.cell? ⟨gb244, 0, none⟩ = some (.int .u8 a1) ∧ w'.cell? ⟨gb244, 1, none⟩ = some (.int .u32 a2) ∧ w'.cell? ⟨gb244, 2, none⟩ = some (.int .u32 a2)) (ds := []) #[false, false, false, false, false, false, false, false, false, false] (by kernel_rfl) rfl rfl ⟨(blk_cell BK244.out 0).trans rfl, (blk_cell BK244.out 1).trans rfl, (blk_cell BK244.out 2).trans rfl⟩ (fun hHeld => ?_); refine with_tabW know_Add.tab4 know_Add.bits4 (fun HT_ HW_ => ?_)
          generalize wc.drew = w18 at BK244 HB hHeld ⊢
          refine pure_ (i := 0) (N := some 22) (v := ?_) (a' := ?_) #[true, false, false, false, false, false, false, false, false, false] rfl rfl (any_of HT_.out (by kernel_rfl)) (fun _ _ _ h => h) (Or.inl ⟨by rfl, ?_⟩) ?_ ?_
          rotate_left
          · intro w'
            go_simp
            with_reducible rfl
          rotate_left
          · simp only [Act.put, List.setIfInBounds_toArray, List.set_cons_zero, List.set_cons_succ, i64_w, i32_w]
            rfl
          refine take_ (i := 2) (N := some 24) (v := ?_) (a' := ?_) #[true, false, true, false, false, false, false, false, false, false] rfl rfl (take_ofW HT_.out HW_.out (by kernel_rfl)) (fun _ _ _ h => h) (Or.inl ⟨by rfl, ?_⟩) hHeld ?_ ?_
          rotate_left
          · rintro w' ⟨s0, s1, s2⟩
            go_simp
            with_reducible rfl
          rotate_left
          · simp only [Act.put, List.setIfInBounds_toArray, List.set_cons_zero, List.set_cons_succ, i64_w, i32_w]
            rfl
          refine join_ (σ := Value × Value) 6 #[true, true, true, true, false, false, false, false, false, false] (fun s_ => [(23, s_.1), (25, s_.2)]) (fun s_ w' => (w'.cell? ⟨gb244, 0, none⟩ = some (.int .u8 a1) ∧ w'.cell? ⟨gb244, 1, none⟩ = some (.int .u32 a2) ∧ w'.cell? ⟨gb244, 2, none⟩ = some (.int .u32 a2)) ∧ (Kd.R k65 65 w' w.heap.size (fun k_ => some k_ ≠ (s_.2 : Value).ownBlock ∧ k_ ≠ gb244) s_.1 t247) ∧ (Kd.R k65 65 w' w.heap.size (fun k_ => some k_ ≠ (s_.1 : Value).ownBlock ∧ k_ ≠ gb244) s_.2 y250) ∧ (w'.heap[gb244]? = some (.cells #[.int .u8 a1, .int .u32 a2, .int .u32 a2] 65 (0, 0))) ∧ (Below w.heap.size w w')) ?_ ?_
          rotate_left
          · intro hCont
            refine two_ (i := 1) (j := 3) (Ni := some 23) (Nj := some 25) #[true, true, true, false, false, false, false, false, false, false] #[true, false, true, true, false, false, false, false, false, false] rfl rfl rfl rfl (two_of HT_.out (by kernel_rfl)) (by decide) (by decide) (fun K hK => ?_) (fun K hK => ?_)
            · skip
              refine goes_ Tryd.func41 (by kernel_rfl) rfl #[.slice A0 l0.length c0] (by rfl) rfl rfl (by (try simp only [List.map_toArray, List.map_cons, List.map_nil]); first | done | rfl | (simp only [List.length_drop, List.length_take]; rfl)) ?_
              with_reducible refine (slices_Clone_Run.calls _ _ l0 t247 _ ?side1 ?side2 A15.out).mono ?_
              (case side1 => repeat (first | exact (Kd.C_below HR0.out HB.out) | (with_reducible refine Kd.C_alloc ?_ _) | (with_reducible refine Kd.C_drewN ?_ _) | (with_reducible refine Kd.C_drew ?_)))
              (case side2 => exact HC0.out)
              rintro e w19 ⟨v248, rfl, ho0, hb⟩
              refine ⟨_, rfl, ?_⟩
              have n0_ := Aside0.mk (Kd.R_lower (Kd.R_newB ho0 (g := gb244) (o := .cells #[.int .u8 a1, .int .u32 a2, .int .u32 a2] 65 (0, 0)) (by (with_reducible repeat (first | refine blk_drewN ?_ _ | refine blk_drew ?_ | refine blk_alloc ?_ _)); exact BK244.out)) (below_size (by repeat (first | (with_reducible first | exact HB.out | apply below_alloc | apply pw_below_drewN | apply below_drew1 | refine below_set ?_ GE244.out) | exact HB.out))))
              have n1_ := Aside0.mk (blk_below (g := gb244) (o := .cells #[.int .u8 a1, .int .u32 a2, .int .u32 a2] 65 (0, 0)) (by (with_reducible repeat (first | refine blk_drewN ?_ _ | refine blk_drew ?_ | refine blk_alloc ?_ _)); exact BK244.out) hb)
              have n2_ := Aside0.mk (below_step (by repeat (first | (with_reducible first | exact HB.out | apply below_alloc | apply pw_below_drewN | apply below_drew1 | refine below_set ?_ GE244.out) | exact HB.out)) hb)
              clear BK244
              clear HB
              have HO249 := n0_
              have BK244 := n1_
              have HB := n2_
              clear n0_ n1_ n2_
              (try clear hb)
              (try clear hb2)
              (try clear hk)
              (try clear hi)
              (try clear ho0)
              refine hK.out _ _ ⟨(blk_cell BK244.out 0).trans rfl, (blk_cell BK244.out 1).trans rfl, (blk_cell BK244.out 2).trans rfl⟩ (fun hHeld => ?_)
              clear hK K
              refine norm_ (a' := ?_) ?_ ?_
              rotate_left
              · show Act.put _ (some 23) _ = _
                simp only [Act.put, List.setIfInBounds_toArray, List.set_cons_zero, List.set_cons_succ, i64_w, i32_w]
                rfl
              refine one_ (i := 3) (N := some 25) #[true, true, true, true, false, false, false, false, false, false] rfl rfl (one_of HT_.out (by kernel_rfl)) (by decide) (fun K hK => ?_)
              refine Kd.R_lit_step k65 _ 65 ?hg (N := 25) ?hd (xs := ([(⟨a1, a2, a2⟩ : S65)] : List (S65))) (inner := [.int .u8 a1, .int .u32 a2, .int .u32 a2]) (ok := fun _ => True) (okp := fun _ => True) ?hr ?hp (fun _ hk => hk) trivial (Below.refl _ _) (Nat.le_refl _) (by simp) ?_; (case hd => rfl); (case hg => rfl); (case hr => first | (go_simp; done) | (go_simp; rfl)); (case hp => exact (Reps.c3 (show Kd.M k65 _ _ _ (⟨a1, a2, a2⟩ : S65) [.int .u8 a1, .int .u32 a2, .int .u32 a2] from (k65_mkM _ _ _ (⟨a1, a2, a2⟩ : S65) )) (Reps.none _ _)))
              intro v251 w20 ho21 hb hg_ hnew_
              clear hg_ hnew_
              (first | rw [← Ny250.out] at ho21 | (simp only [Int.reduceToNat] at ho21; rw [← Ny250.out] at ho21))
              have n0_ := Aside0.mk (Kd.R_elder' (by (with_reducible repeat (first | apply Kd.R_alloc | apply Kd.R_drewN | apply Kd.R_drew)); exact HO249.out) (Kd.R_base ho21) hb)
              have n1_ := Aside0.mk (Kd.R_lower (Kd.R_newB (Kd.R_new' ho21 (Kd.R_lt (by (with_reducible repeat (first | apply Kd.R_alloc | apply Kd.R_drewN | apply Kd.R_drew)); exact HO249.out))) (g := gb244) (o := .cells #[.int .u8 a1, .int .u32 a2, .int .u32 a2] 65 (0, 0)) (by (with_reducible repeat (first | refine blk_drewN ?_ _ | refine blk_drew ?_ | refine blk_alloc ?_ _)); exact BK244.out)) (below_size (by repeat (first | (with_reducible first | exact HB.out | apply below_alloc | apply pw_below_drewN | apply below_drew1 | refine below_set ?_ GE244.out) | exact HB.out))))
              have n2_ := Aside0.mk (blk_below (g := gb244) (o := .cells #[.int .u8 a1, .int .u32 a2, .int .u32 a2] 65 (0, 0)) (by (with_reducible repeat (first | refine blk_drewN ?_ _ | refine blk_drew ?_ | refine blk_alloc ?_ _)); exact BK244.out) hb)
              have n3_ := Aside0.mk (below_step (by repeat (first | (with_reducible first | exact HB.out | apply below_alloc | apply pw_below_drewN | apply below_drew1 | refine below_set ?_ GE244.out) | exact HB.out)) hb)
              clear HO249
              clear BK244
              clear HB
              have HO249 := n0_
              have HO252 := n1_
              have BK244 := n2_
              have HB := n3_
              clear n0_ n1_ n2_ n3_
              clear hb ho21
              refine hK.out _ _ ⟨(blk_cell BK244.out 0).trans rfl, (blk_cell BK244.out 1).trans rfl, (blk_cell BK244.out 2).trans rfl⟩ (fun hHeld => ?_)
              clear hK K
              refine norm_ (a' := ?_) ?_ ?_
              rotate_left
              · show Act.put _ (some 25) _ = _
                simp only [Act.put, List.setIfInBounds_toArray, List.set_cons_zero, List.set_cons_succ, i64_w, i32_w]
                rfl
              exact norm_ (by simp only [putAll, Act.put, List.setIfInBounds_toArray, List.set_cons_zero, List.set_cons_succ]) (hCont (v248, v251) _ ⟨hHeld, (by (with_reducible repeat (first | apply Kd.R_alloc | apply Kd.R_drewN | apply Kd.R_drew)); exact Kd.R_mono HO249.out (fun _ hk => ⟨hk.2, hk.1.2⟩)), (by (with_reducible repeat (first | apply Kd.R_alloc | apply Kd.R_drewN | apply Kd.R_drew)); exact Kd.R_mono HO252.out (fun _ hk => ⟨hk.1.2, hk.2⟩)), (by (with_reducible repeat (first | refine blk_drewN ?_ _ | refine blk_drew ?_ | refine blk_alloc ?_ _)); exact BK244.out), (by repeat (first | (with_reducible first | exact HB.out | apply below_alloc | apply pw_below_drewN | apply below_drew1 | refine below_set ?_ GE244.out) | exact HB.out))⟩)
            · skip
              refine Kd.R_lit_step k65 _ 65 ?hg (N := 25) ?hd (xs := ([(⟨a1, a2, a2⟩ : S65)] : List (S65))) (inner := [.int .u8 a1, .int .u32 a2, .int .u32 a2]) (ok := fun _ => True) (okp := fun _ => True) ?hr ?hp (fun _ hk => hk) trivial (Below.refl _ _) (Nat.le_refl _) (by simp) ?_; (case hd => rfl); (case hg => rfl); (case hr => first | (go_simp; done) | (go_simp; rfl)); (case hp => exact (Reps.c3 (show Kd.M k65 _ _ _ (⟨a1, a2, a2⟩ : S65) [.int .u8 a1, .int .u32 a2, .int .u32 a2] from (k65_mkM _ _ _ (⟨a1, a2, a2⟩ : S65) )) (Reps.none _ _)))
              intro v251 w19 ho20 hb hg_ hnew_
              clear hg_ hnew_
              (first | rw [← Ny250.out] at ho20 | (simp only [Int.reduceToNat] at ho20; rw [← Ny250.out] at ho20))
              have n0_ := Aside0.mk (Kd.R_lower (Kd.R_newB ho20 (g := gb244) (o := .cells #[.int .u8 a1, .int .u32 a2, .int .u32 a2] 65 (0, 0)) (by (with_reducible repeat (first | refine blk_drewN ?_ _ | refine blk_drew ?_ | refine blk_alloc ?_ _)); exact BK244.out)) (below_size (by repeat (first | (with_reducible first | exact HB.out | apply below_alloc | apply pw_below_drewN | apply below_drew1 | refine below_set ?_ GE244.out) | exact HB.out))))
              have n1_ := Aside0.mk (blk_below (g := gb244) (o := .cells #[.int .u8 a1, .int .u32 a2, .int .u32 a2] 65 (0, 0)) (by (with_reducible repeat (first | refine blk_drewN ?_ _ | refine blk_drew ?_ | refine blk_alloc ?_ _)); exact BK244.out) hb)
              have n2_ := Aside0.mk (below_step (by repeat (first | (with_reducible first | exact HB.out | apply below_alloc | apply pw_below_drewN | apply below_drew1 | refine below_set ?_ GE244.out) | exact HB.out)) hb)
              clear BK244
              clear HB
              have HO252 := n0_
              have BK244 := n1_
              have HB := n2_
              clear n0_ n1_ n2_
              clear hb ho20
              refine hK.out _ _ ⟨(blk_cell BK244.out 0).trans rfl, (blk_cell BK244.out 1).trans rfl, (blk_cell BK244.out 2).trans rfl⟩ (fun hHeld => ?_)
              clear hK K
              refine norm_ (a' := ?_) ?_ ?_
              rotate_left
              · show Act.put _ (some 25) _ = _
                simp only [Act.put, List.setIfInBounds_toArray, List.set_cons_zero, List.set_cons_succ, i64_w, i32_w]
                rfl
              refine one_ (i := 1) (N := some 23) #[true, true, true, true, false, false, false, false, false, false] rfl rfl (one_of HT_.out (by kernel_rfl)) (by decide) (fun K hK => ?_)
              refine goes_ Tryd.func41 (by kernel_rfl) rfl #[.slice A0 l0.length c0] (by rfl) rfl rfl (by (try simp only [List.map_toArray, List.map_cons, List.map_nil]); first | done | rfl | (simp only [List.length_drop, List.length_take]; rfl)) ?_
              with_reducible refine (slices_Clone_Run.calls _ _ l0 t247 _ ?side1 ?side2 A15.out).mono ?_
              (case side1 => repeat (first | exact (Kd.C_below HR0.out HB.out) | (with_reducible refine Kd.C_alloc ?_ _) | (with_reducible refine Kd.C_drewN ?_ _) | (with_reducible refine Kd.C_drew ?_)))
              (case side2 => exact HC0.out)
              rintro e w21 ⟨v248, rfl, ho0, hb⟩
              refine ⟨_, rfl, ?_⟩
              have n0_ := Aside0.mk (Kd.R_elder' (by (with_reducible repeat (first | apply Kd.R_alloc | apply Kd.R_drewN | apply Kd.R_drew)); exact HO252.out) (Kd.R_base ho0) hb)
              have n1_ := Aside0.mk (Kd.R_lower (Kd.R_newB (Kd.R_new' ho0 (Kd.R_lt (by (with_reducible repeat (first | apply Kd.R_alloc | apply Kd.R_drewN | apply Kd.R_drew)); exact HO252.out))) (g := gb244) (o := .cells #[.int .u8 a1, .int .u32 a2, .int .u32 a2] 65 (0, 0)) (by (with_reducible repeat (first | refine blk_drewN ?_ _ | refine blk_drew ?_ | refine blk_alloc ?_ _)); exact BK244.out)) (below_size (by repeat (first | (with_reducible first | exact HB.out | apply below_alloc | apply pw_below_drewN | apply below_drew1 | refine below_set ?_ GE244.out) | exact HB.out))))
              have n2_ := Aside0.mk (blk_below (g := gb244) (o := .cells #[.int .u8 a1, .int .u32 a2, .int .u32 a2] 65 (0, 0)) (by (with_reducible repeat (first | refine blk_drewN ?_ _ | refine blk_drew ?_ | refine blk_alloc ?_ _)); exact BK244.out) hb)
              have n3_ := Aside0.mk (below_step (by repeat (first | (with_reducible first | exact HB.out | apply below_alloc | apply pw_below_drewN | apply below_drew1 | refine below_set ?_ GE244.out) | exact HB.out)) hb)
              clear HO252
              clear BK244
              clear HB
              have HO252 := n0_
              have HO249 := n1_
              have BK244 := n2_
              have HB := n3_
              clear n0_ n1_ n2_ n3_
              (try clear hb)
              (try clear hb2)
              (try clear hk)
              (try clear hi)
              (try clear ho0)
              refine hK.out _ _ ⟨(blk_cell BK244.out 0).trans rfl, (blk_cell BK244.out 1).trans rfl, (blk_cell BK244.out 2).trans rfl⟩ (fun hHeld => ?_)
              clear hK K
              refine norm_ (a' := ?_) ?_ ?_
              rotate_left
              · show Act.put _ (some 23) _ = _
                simp only [Act.put, List.setIfInBounds_toArray, List.set_cons_zero, List.set_cons_succ, i64_w, i32_w]
                rfl
              exact norm_ (by simp only [putAll, Act.put, List.setIfInBounds_toArray, List.set_cons_zero, List.set_cons_succ]) (hCont (v248, v251) _ ⟨hHeld, (by (with_reducible repeat (first | apply Kd.R_alloc | apply Kd.R_drewN | apply Kd.R_drew)); exact Kd.R_mono HO249.out (fun _ hk => ⟨hk.1.2, hk.2⟩)), (by (with_reducible repeat (first | apply Kd.R_alloc | apply Kd.R_drewN | apply Kd.R_drew)); exact Kd.R_mono HO252.out (fun _ hk => ⟨hk.2, hk.1.2⟩)), (by (with_reducible repeat (first | refine blk_drewN ?_ _ | refine blk_drew ?_ | refine blk_alloc ?_ _)); exact BK244.out), (by repeat (first | (with_reducible first | exact HB.out | apply below_alloc | apply pw_below_drewN | apply below_drew1 | refine below_set ?_ GE244.out) | exact HB.out))⟩)
          rintro ⟨v248, v251⟩ w22 ⟨hS_, h0_, h1_, h2_, h3_⟩
          have n0_ : Aside0 (Kd.R k65 65 w22 w.heap.size (fun k_ => some k_ ≠ (v251 : Value).ownBlock ∧ k_ ≠ gb244) v248 t247) := ⟨h0_⟩
          have n1_ : Aside0 (Kd.R k65 65 w22 w.heap.size (fun k_ => some k_ ≠ (v248 : Value).ownBlock ∧ k_ ≠ gb244) v251 y250) := ⟨h1_⟩
          have n2_ : Aside0 (w22.heap[gb244]? = some (.cells #[.int .u8 a1, .int .u32 a2, .int .u32 a2] 65 (0, 0))) := ⟨h2_⟩
          have n3_ : Aside0 (Below w.heap.size w w22) := ⟨h3_⟩
          clear BK244
          clear HB
          clear h0_ h1_ h2_ h3_
          have HO249 := n0_
          have HO252 := n1_
          have BK244 := n2_
          have HB := n3_
          clear n0_ n1_ n2_ n3_
          have hHeld : w22.cell? ⟨gb244, 0, none⟩ = some (.int .u8 a1) ∧ w22.cell? ⟨gb244, 1, none⟩ = some (.int .u32 a2) ∧ w22.cell? ⟨gb244, 2, none⟩ = some (.int .u32 a2) := hS_
          obtain ⟨Ao24, co24, eo24⟩ := Kd.R_slice HO252.out
          (first | subst eo24 | (injection eo24 with f1_ f2_ f3_; have f4_ := f1_.symm; have f5_ := f3_.symm; clear f1_ f2_ f3_; subst f4_; subst f5_))
          refine norm_ (a' := ?_) ?_ ?_
          rotate_left
          · simp only [putAll, Act.put, List.setIfInBounds_toArray, List.set_cons_zero, List.set_cons_succ]
            rfl
          refine one_ (i := 4) (N := some 26) #[true, true, true, true, true, false, false, false, false, false] rfl rfl (one_of HT_.out (by kernel_rfl)) (by decide) (fun K hK => ?_)
          refine Kd.R_append_rows_step k65 (w0 := w) w.heap.size (by rfl) (.tmp 23) (.tmp 25) 39 65 (.agg #[(.int .u8 0), (.int .u32 0), (.int .u32 0)]) 12 rfl Tryd.underlying39 info65 rfl (by decide) (by omega) v248 t247 y250 _ _ _ (fun k_ => some k_ ≠ (.slice Ao24 y250.length co24 : Value).ownBlock ∧ k_ ≠ gb244) (fun _ => False) rfl rfl ?aO ?aR (fun _ _ h => h) (fun _ h => h.elim) ?aF ?aB ?aS ?aL ?_
          (case aR => repeat (first | exact (Kd.R_reads' HO252.out).2.2 | (with_reducible refine Kd.C_alloc ?_ _) | (with_reducible refine Kd.C_drewN ?_ _) | (with_reducible refine Kd.C_drew ?_)))
          (case aB => exact (by repeat (first | (with_reducible first | exact HB.out | apply below_alloc | apply pw_below_drewN | apply below_drew1 | refine below_set ?_ GE244.out) | exact HB.out)))
          (case aF => exact (fun k_ hk => ⟨Kd.fresh' (Kd.R_lt (by (with_reducible repeat (first | apply Kd.R_alloc | apply Kd.R_drewN | apply Kd.R_drew)); exact HO252.out)) k_ hk, Kd.freshB (g := gb244) (o := .cells #[.int .u8 a1, .int .u32 a2, .int .u32 a2] 65 (0, 0)) (by (with_reducible repeat (first | refine blk_drewN ?_ _ | refine blk_drew ?_ | refine blk_alloc ?_ _)); exact BK244.out) k_ hk⟩))
          (case aO => exact (by (with_reducible repeat (first | apply Kd.R_alloc | apply Kd.R_drewN | apply Kd.R_drew)); exact HO249.out))
          (case aS => exact (below_size (by repeat (first | (with_reducible first | exact HB.out | apply below_alloc | apply pw_below_drewN | apply below_drew1 | refine below_set ?_ GE244.out) | exact HB.out))))
          (case aL => have := LMc16.out; omega)
          intro v254 w23 ho hb hg hat
          rw [← Ny253.out] at ho
          have n0_ := Aside0.mk (blk_grown (g := gb244) (o := .cells #[.int .u8 a1, .int .u32 a2, .int .u32 a2] 65 (0, 0)) (by (with_reducible repeat (first | refine blk_drewN ?_ _ | refine blk_drew ?_ | refine blk_alloc ?_ _)); exact BK244.out) hg (Kd.R_away HO249.out (fun _ hk => hk.2)))
          have n1_ := Aside0.mk (Kd.R_after (ok := (fun k_ => k_ ≠ gb244)) (by (with_reducible repeat (first | apply Kd.R_alloc | apply Kd.R_drewN | apply Kd.R_drew)); exact Kd.R_mono HO252.out (fun _ hk => ⟨hk.2, hk.1⟩)) hg hat)
          have n2_ := Aside0.mk (hb)
          have n3_ := Aside0.mk (ho)
          clear BK244
          clear HO252
          clear HB
          clear HO249
          have BK244 := n0_
          have HO252 := n1_
          have HB := n2_
          have HO255 := n3_
          clear n0_ n1_ n2_ n3_
          clear ho hb hg hat
          obtain ⟨Ao25, co25, eo25⟩ := Kd.R_slice HO255.out
          (first | subst eo25 | (injection eo25 with f1_ f2_ f3_; have f4_ := f1_.symm; have f5_ := f3_.symm; clear f1_ f2_ f3_; subst f4_; subst f5_))
          refine hK.out _ _ ⟨(blk_cell BK244.out 0).trans rfl, (blk_cell BK244.out 1).trans rfl, (blk_cell BK244.out 2).trans rfl⟩ (fun hHeld => ?_)
          clear hK K
          refine norm_ (a' := ?_) ?_ ?_
          rotate_left
          · show Act.put _ (some 26) _ = _
            simp only [Act.put, List.setIfInBounds_toArray, List.set_cons_zero, List.set_cons_succ, i64_w, i32_w]
            rfl
          refine one_ (i := 5) (N := some 27) #[true, true, true, true, true, true, false, false, false, false] rfl rfl (one_of HT_.out (by kernel_rfl)) (by decide) (fun K hK => ?_)
          refine goes_ Tryd.func40 (by kernel_rfl) rfl #[.slice Ao25 y253.length co25] (by rfl) rfl rfl (by (try simp only [List.map_toArray, List.map_cons, List.map_nil]); first | done | rfl | (simp only [List.length_drop, List.length_take]; rfl)) ?_
          with_reducible refine (know_merged.calls kj3 _ _ y253 t256 t257 _ ?side1 ?side2 A17.out).mono ?_
          (case side1 => repeat (first | exact (Kd.R_reads' HO255.out).2.2 | (with_reducible refine Kd.C_alloc ?_ _) | (with_reducible refine Kd.C_drewN ?_ _) | (with_reducible refine Kd.C_drew ?_)))
          (case side2 => exact (Kd.R_reads' HO255.out).2.1)
          rintro e w26 ⟨v258, rfl, ho0, hb⟩
          refine ⟨_, rfl, ?_⟩
          have n0_ := Aside0.mk (Kd.R_elder' (by (with_reducible repeat (first | apply Kd.R_alloc | apply Kd.R_drewN | apply Kd.R_drew)); exact HO252.out) (Kd.R_base ho0) hb)
          have n1_ := Aside0.mk (Kd.R_elder' (by (with_reducible repeat (first | apply Kd.R_alloc | apply Kd.R_drewN | apply Kd.R_drew)); exact HO255.out) (Kd.R_base ho0) hb)
          have n2_ := Aside0.mk (Kd.R_lower (Kd.R_newB (Kd.R_new' (Kd.R_new' ho0 (Kd.R_lt (by (with_reducible repeat (first | apply Kd.R_alloc | apply Kd.R_drewN | apply Kd.R_drew)); exact HO252.out))) (Kd.R_lt (by (with_reducible repeat (first | apply Kd.R_alloc | apply Kd.R_drewN | apply Kd.R_drew)); exact HO255.out))) (g := gb244) (o := .cells #[.int .u8 a1, .int .u32 a2, .int .u32 a2] 65 (0, 0)) (by (with_reducible repeat (first | refine blk_drewN ?_ _ | refine blk_drew ?_ | refine blk_alloc ?_ _)); exact BK244.out)) (below_size (by repeat (first | (with_reducible first | exact HB.out | apply below_alloc | apply pw_below_drewN | apply below_drew1 | refine below_set ?_ GE244.out) | exact HB.out))))
          have n3_ := Aside0.mk (blk_below (g := gb244) (o := .cells #[.int .u8 a1, .int .u32 a2, .int .u32 a2] 65 (0, 0)) (by (with_reducible repeat (first | refine blk_drewN ?_ _ | refine blk_drew ?_ | refine blk_alloc ?_ _)); exact BK244.out) hb)
          have n4_ := Aside0.mk (below_step (by repeat (first | (with_reducible first | exact HB.out | apply below_alloc | apply pw_below_drewN | apply below_drew1 | refine below_set ?_ GE244.out) | exact HB.out)) hb)
          clear HO252
          clear HO255
          clear BK244
          clear HB
          have HO252 := n0_
          have HO255 := n1_
          have HO259 := n2_
          have BK244 := n3_
          have HB := n4_
          clear n0_ n1_ n2_ n3_ n4_
          (try clear hb)
          (try clear hb2)
          (try clear hk)
          (try clear hi)
          (try clear ho0)
          (try simp only [errW_none, errW_some])
          refine hK.out _ _ ⟨(blk_cell BK244.out 0).trans rfl, (blk_cell BK244.out 1).trans rfl, (blk_cell BK244.out 2).trans rfl⟩ (fun hHeld => ?_)
          clear hK K
          refine norm_ (a' := ?_) ?_ ?_
          rotate_left
          · show Act.put _ (some 27) _ = _
            simp only [Act.put, List.setIfInBounds_toArray, List.set_cons_zero, List.set_cons_succ, i64_w, i32_w]
            rfl
          refine pure_ (i := 6) (N := some 28) (v := ?_) (a' := ?_) #[true, true, true, true, true, true, true, false, false, false] rfl rfl (any_of HT_.out (by kernel_rfl)) (fun _ _ _ h => h) (Or.inl ⟨by rfl, ?_⟩) ?_ ?_
          rotate_left
          · intro w'
            go_simp
            with_reducible rfl
          rotate_left
          · simp only [Act.put, List.setIfInBounds_toArray, List.set_cons_zero, List.set_cons_succ, i64_w, i32_w]
            rfl
          refine pure_ (i := 7) (N := some 29) (v := ?_) (a' := ?_) #[true, true, true, true, true, true, true, true, false, false] rfl rfl (any_of HT_.out (by kernel_rfl)) (fun _ _ _ h => h) (Or.inl ⟨by rfl, ?_⟩) ?_ ?_
          rotate_left
          · intro w'
            go_simp
            with_reducible rfl
          rotate_left
          · simp only [Act.put, List.setIfInBounds_toArray, List.set_cons_zero, List.set_cons_succ, i64_w, i32_w]
            rfl
          refine pure_ (i := 8) (N := some 6) (v := ?_) (a' := ?_) #[true, true, true, true, true, true, true, true, true, false] rfl rfl (any_of HT_.out (by kernel_rfl)) (fun _ _ _ h => h) (Or.inl ⟨by rfl, ?_⟩) ?_ ?_
          rotate_left
          · intro w'
            go_simp
            with_reducible rfl
          rotate_left
          · simp only [Act.put, List.setIfInBounds_toArray, List.set_cons_zero, List.set_cons_succ, i64_w, i32_w]
            rfl
          refine pure_ (i := 9) (N := some 7) (v := ?_) (a' := ?_) #[true, true, true, true, true, true, true, true, true, true] rfl rfl (any_of HT_.out (by kernel_rfl)) (fun _ _ _ h => h) (Or.inl ⟨by rfl, ?_⟩) ?_ ?_
          rotate_left
          · intro w'
            go_simp
            with_reducible rfl
          rotate_left
          · simp only [Act.put, List.setIfInBounds_toArray, List.set_cons_zero, List.set_cons_succ, i64_w, i32_w]
            rfl
          refine done_ (done_of HT_.out (by kernel_rfl)) ?_
          try go_wp2
          go_ret2
          exact ⟨_, by first | rfl | (simp [errW_none, errW_some] <;> rfl) | (simp [*, errW_none, errW_some] <;> rfl), by (with_reducible repeat (first | apply Kd.R_alloc | apply Kd.R_drewN | apply Kd.R_drew)); exact Kd.R_mono HO259.out (fun _ hk => trivial), by repeat (first | (with_reducible first | exact HB.out | apply below_alloc | apply pw_below_drewN | apply below_drew1 | refine below_set ?_ GE244.out) | exact HB.out)⟩
        · rw [if_neg c16] at H
          exact absurd H (by simp)
end Go.Proofs.YtiminjibcafkaaaDoor.X
end
section
-- MADE BY wip/prx.py (the kit's printer, with contracts proved by hand). Not trusted: Lean checks it.
namespace Go.Proofs.YtiminjibcafkaaaDoor.X
open Go.RowKit Go.Proofs.YtiminjibcafkaaaDoorW.PrintWords Go.Proofs.YtiminjibcafkaaaDoorW.PrintLast Go.Proofs.YtiminjibcafkaaaDoorW.PrintMore
attribute [local go_sem] max2_int min2_int max_two min_two max_three min_three max_four min_four   -- for this text's walks alone
set_option linter.unusedVariables false
set_option linter.unusedSimpArgs false
theorem eqA65 (d : Nat) (w : World) (x0 y0 : Int) (x1 y1 : Int) (x2 y2 : Int) :
    (Op.equalIn (d + 2) 65 (.agg #[.int .u8 x0, .int .u32 x1, .int .u32 x2]) (.agg #[.int .u8 y0, .int .u32 y1, .int .u32 y2])).run Tryd.prog w = .ok (x0 == y0 && (x1 == y1 && (x2 == y2))) w := by
  refine eqA_of Tryd.underlying65 (by kernel_rfl) ?_
  refine eqf_cons (by rfl) (by go_simp; rfl) (by go_simp; rfl) (by go_simp) ?_
  refine eqf_cons (by rfl) (by go_simp; rfl) (by go_simp; rfl) (by go_simp) ?_
  exact eqf_last (by rfl) (by go_simp; rfl) (by go_simp; rfl) (by go_simp)
end Go.Proofs.YtiminjibcafkaaaDoor.X
end
