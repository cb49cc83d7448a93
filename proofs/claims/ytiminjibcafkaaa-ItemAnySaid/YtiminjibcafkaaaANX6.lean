-- MADE BY wip/prx.py (the kit's printer, with contracts proved by hand). Not trusted: Lean checks it.
import Derived.Test.YtiminjibcafkaaaANX0
import Derived.Test.YtiminjibcafkaaaANX4
import Derived.Test.YtiminjibcafkaaaANX5
import Derived.Test.YtiminjibcafkaaaANXhslicesBinarySearchFuncEntryuint8
import Derived.Test.YtiminjibcafkaaaANXhslicesInsertEntry
import Derived.Test.YtiminjibcafkaaaANXhslicesCloneEntry
namespace Go.Proofs.Ytiminjibcafkaaa.X
open Go.RowKit Go.Proofs.YtiminjibcafkaaaW.PrintWords Go.Proofs.YtiminjibcafkaaaW.PrintLast Go.Proofs.YtiminjibcafkaaaW.PrintMore
attribute [local go_sem] max2_int min2_int max_two min_two max_three min_three max_four min_four   -- for this text's walks alone
set_option linter.unusedVariables false
set_option linter.unusedSimpArgs false
/-! ### item_Take: function 11 -/
def item_Take.j0 : Nat → List (S27) → Bool → Int → Int → Int → Int → Int → Int → Int → Option ((List (S27)) × Option Int)
  | 0, _, _, _, _, _, _, _, _, _ => none
  | k + 1, x0, x17, x125000, x125001, x125002, x125003, x125004, x125005, x125006 => if x17 = true then (some (([] : List (S27)), some 9)) else ((slices_BinarySearchFunc_Entry_uint8.f x0 x125000).bind fun bt127 => (if bt127.2 = true then ((slices_Clone_Entry.f x0).bind fun t138 => (if 0 ≤ bt127.1 then (if bt127.1 < (t138.length : Int) then ((item_Cmp.f k ((rd_T27 t138 bt127.1).f1.f0) ((rd_T27 t138 bt127.1).f1.f1) ((rd_T27 t138 bt127.1).f1.f2) x125001 x125002 x125003).bind fun t142 => (if t142 < 0 then (some ((t138.set (bt127.1 : Int).toNat (⟨x125000, (⟨x125001, x125002, x125003⟩ : S25), x125004, x125005, x125006⟩ : S27)), none)) else (if t142 = 0 then (if ((rd_T27 t138 bt127.1).f2) = 2 then (if x125004 = 2 then (some (t138, none)) else (some ((t138.set (bt127.1 : Int).toNat (⟨x125000, (⟨x125001, x125002, x125003⟩ : S25), x125004, x125005, x125006⟩ : S27)), none))) else (some (t138, none))) else (some (t138, none))))) else (none)) else (none))) else ((slices_Clone_Entry.f x0).bind fun t129 => ((slices_Insert_Entry.f t129 bt127.1 (([(⟨x125000, (⟨x125001, x125002, x125003⟩ : S25), x125004, x125005, x125006⟩ : S27)] : List (S27)))).bind fun t135 => (some (t135, none))))))
def item_Take.f (k : Nat) (l0 : List (S27)) (a1_0 : Int) (a1_1 : Int) (a1_2 : Int) (a1_3 : Int) (a1_4 : Int) (a1_5 : Int) (a1_6 : Int) : Option ((List (S27)) × Option Int) := (item_Right.f k l0).bind fun t125 => (if t125 = true then ((item_entry.f a1_0 a1_1 a1_2 a1_3 a1_4 a1_5 a1_6).bind fun t126 => (item_Take.j0 k l0 (!t126) a1_0 a1_1 a1_2 a1_3 a1_4 a1_5 a1_6)) else (item_Take.j0 k l0 true a1_0 a1_1 a1_2 a1_3 a1_4 a1_5 a1_6))
theorem item_Take.mono_l : ∀ k, (∀ y0 y1 y2 y3 y4 y5 y6 y7 y8, LeO (item_Take.j0 k y0 y1 y2 y3 y4 y5 y6 y7 y8) (item_Take.j0 (k + 1) y0 y1 y2 y3 y4 y5 y6 y7 y8))
  | 0 => fun _ _ _ _ _ _ _ _ _ r h => by simp [item_Take.j0] at h
  | k + 1 => by
    have ih0 := item_Take.mono_l k
    · intro y0 y1 y2 y3 y4 y5 y6 y7 y8
      unfold item_Take.j0
      repeat' first
      | (with_reducible exact ih0 _ _ _ _ _ _ _ _ _)
      | (with_reducible exact item_Cmp.mono _ _ _ _ _ _ _)
      | (with_reducible exact item_Right.mono _ _)
      | (with_reducible exact LeO.refl _)
      | (with_reducible exact LeO.none _)
      | (with_reducible refine LeO.ite ?_ ?_)
      | (with_reducible refine LeO.bind ?_ (fun _ => ?_))
      | exact ih0 _ _ _ _ _ _ _ _ _
      | exact item_Cmp.mono _ _ _ _ _ _ _
      | exact item_Right.mono _ _
      | exact LeO.none _
      | refine LeO.ite ?_ ?_
      | refine LeO.bind ?_ (fun _ => ?_)
theorem item_Take.mono : ∀ a0 a1 a2 a3 a4 a5 a6 a7 k, LeO (item_Take.f k a0 a1 a2 a3 a4 a5 a6 a7) (item_Take.f (k + 1) a0 a1 a2 a3 a4 a5 a6 a7) := by
  intro a0 a1 a2 a3 a4 a5 a6 a7 k
  have ih0 := item_Take.mono_l k
  unfold item_Take.f
  repeat' first
      | (with_reducible exact ih0 _ _ _ _ _ _ _ _ _)
      | (with_reducible exact item_Cmp.mono _ _ _ _ _ _ _)
      | (with_reducible exact item_Right.mono _ _)
      | (with_reducible exact LeO.refl _)
      | (with_reducible exact LeO.none _)
      | (with_reducible refine LeO.ite ?_ ?_)
      | (with_reducible refine LeO.bind ?_ (fun _ => ?_))
      | exact ih0 _ _ _ _ _ _ _ _ _
      | exact item_Cmp.mono _ _ _ _ _ _ _
      | exact item_Right.mono _ _
      | exact LeO.none _
      | refine LeO.ite ?_ ?_
      | refine LeO.bind ?_ (fun _ => ?_)
def item_Take.T5 : Bool × List (List Nat × List Nat) := (true, [([], []), ([0], [0]), ([], []), ([], []), ([3], [3]), ([1, 2, 4, 1], [1, 2, 4]), ([5, 5, 0, 1, 2, 3, 4, 5], [5]), ([6, 0, 1, 2, 3, 4, 5, 6], [])])
def item_Take.B5 : List Nat := [0, 1, 0, 0, 8, 31, 63, 127]
theorem item_Take.tab5 : rtab .any (opsOf Try.f11 5) = item_Take.T5 := by kernel_rfl
theorem item_Take.bits5 : waitsOk item_Take.T5.2 item_Take.B5 = true := by kernel_rfl
def item_Take.T7 : Bool × List (List Nat × List Nat) := (true, [([], []), ([], []), ([0, 1], [0, 1]), ([2], [2]), ([3], [3]), ([], []), ([5], [5]), ([4, 6], [4, 6]), ([7, 7, 0, 1, 2, 3, 4, 5, 6, 7], [7])])
def item_Take.B7 : List Nat := [0, 0, 3, 7, 15, 0, 32, 127, 255]
theorem item_Take.tab7 : rtab .any (opsOf Try.f11 7) = item_Take.T7 := by kernel_rfl
theorem item_Take.bits7 : waitsOk item_Take.T7.2 item_Take.B7 = true := by kernel_rfl
set_option maxHeartbeats 8000000 in
set_option maxRecDepth 100000 in
theorem item_Take.calls (k : Nat) (A0 : Option Addr) (c0 : Nat) (l0 : List (S27)) (a1_0 : Int) (a1_1 : Int) (a1_2 : Int) (a1_3 : Int) (a1_4 : Int) (a1_5 : Int) (a1_6 : Int) (r1 : List (S27)) (r2 : Option Int) (w : World) (hr0 : Kd.C k27 w A0 l0.length l0) (hc0 : l0.length ≤ c0) (h : item_Take.f k l0 a1_0 a1_1 a1_2 a1_3 a1_4 a1_5 a1_6 = some (r1, r2)) :
    Calls Try.prog 11 #[.slice A0 l0.length c0, .agg #[.int .u8 a1_0, .int .u8 a1_1, .int .u32 a1_2, .int .u32 a1_3, .int .i64 a1_4, .int .u8 a1_5, .int .u32 a1_6]] w fun e w' => ∃ v0_ : Value, e = .returned (.tuple #[v0_, errW r2]) ∧ Kd.R k27 27 w' w.heap.size (fun _ => True) v0_ r1 ∧ Below w.heap.size w w' := by
  have hu27 := Try.underlying27
  have hu25 := Try.underlying25
  have hu34 := Try.underlying34
  have hu67 := Try.underlying67
  have HR0 := Aside0.mk hr0
  have HC0 := Aside0.mk hc0
  clear hr0 hc0
  have HB := Aside0.mk (Below.refl w.heap.size w)
  have H : ((item_Right.f k l0).bind fun t125 => (if t125 = true then ((item_entry.f a1_0 a1_1 a1_2 a1_3 a1_4 a1_5 a1_6).bind fun t126 => (item_Take.j0 k l0 (!t126) a1_0 a1_1 a1_2 a1_3 a1_4 a1_5 a1_6)) else (item_Take.j0 k l0 true a1_0 a1_1 a1_2 a1_3 a1_4 a1_5 a1_6))) = some (r1, r2) := h
  clear h
  have HC3 := Aside0.mk H
  clear H
  go_enter Try.func11, Try.ntmps11
  go_upto_region 1 with (first | ((with_reducible refine gate_dst (N := 3) rfl ?_); refine box_event ?hg (N := 3) ?hd (cs := #[.int .u8 a1_0, .int .u8 a1_1, .int .u32 a1_2, .int .u32 a1_3, .int .i64 a1_4, .int .u8 a1_5, .int .u32 a1_6]) (t := 27) ?hr ?_; (case hd => rfl); (case hg => rfl); (case hr => first | (go_simp; done) | (go_simp; rfl)); intro gb124 hg w4 hbox hb; have n0_ := Aside0.mk (below_step (by repeat (first | (with_reducible first | exact HB.out | apply below_alloc | apply pw_below_drewN | apply below_drew1) | exact HB.out)) hb); have n1_ := Aside0.mk (hbox); have n2_ := Aside0.mk ((by rw [hg]; exact (below_size (by repeat (first | (with_reducible first | exact HB.out | apply below_alloc | apply pw_below_drewN | apply below_drew1) | exact HB.out))) : w.heap.size ≤ gb124)); have n3_ := Aside0.mk ((by rw [hg]; exact (below_size (by repeat (first | (with_reducible first | exact HB.out | apply below_alloc | apply pw_below_drewN | apply below_drew1) | exact HB.out))) : w.heap.size ≤ gb124)); clear HB; have HB := n0_; have BK124 := n1_; have GW124 := n2_; have GE124 := n3_; clear n0_ n1_ n2_ n3_; clear hb hbox hg))
  (try simp only [Act.put, List.setIfInBounds_toArray, List.set_cons_zero, List.set_cons_succ])
  go_cut [17] (fun v17 wc => ∃ (kq : Nat) (x17_2 : Bool), v17 = .bool x17_2 ∧ Aside0 (item_Take.j0 kq l0 x17_2 a1_0 a1_1 a1_2 a1_3 a1_4 a1_5 a1_6 = some (r1, r2)) ∧ Aside0 (kq ≤ k) ∧ Aside0 (wc.heap[gb124]? = some (.cells #[.int .u8 a1_0, .int .u8 a1_1, .int .u32 a1_2, .int .u32 a1_3, .int .i64 a1_4, .int .u8 a1_5, .int .u32 a1_6] 27 (0, 0))) ∧ Aside0 (Below w.heap.size w wc))
  case first =>
    have H := HC3.out
    clear HC3
    replace H := Option.bind_eq_some_iff.mp H
    obtain ⟨t125, A50, H⟩ := H
    replace H : (if t125 = true then ((item_entry.f a1_0 a1_1 a1_2 a1_3 a1_4 a1_5 a1_6).bind fun t126 => (item_Take.j0 k l0 (!t126) a1_0 a1_1 a1_2 a1_3 a1_4 a1_5 a1_6)) else (item_Take.j0 k l0 true a1_0 a1_1 a1_2 a1_3 a1_4 a1_5 a1_6)) = some (r1, r2) := H
    have A5 := Aside0.mk A50
    clear A50
    by_cases c6 : t125 = true
    · subst c6
      have H1 : ((item_entry.f a1_0 a1_1 a1_2 a1_3 a1_4 a1_5 a1_6).bind fun t126 => (item_Take.j0 k l0 (!t126) a1_0 a1_1 a1_2 a1_3 a1_4 a1_5 a1_6)) = some (r1, r2) := by rw [if_pos rfl] at H; exact H
      clear H
      have H := H1
      clear H1
      replace H := Option.bind_eq_some_iff.mp H
      obtain ⟨t126, A70, H⟩ := H
      replace H : (item_Take.j0 k l0 (!t126) a1_0 a1_1 a1_2 a1_3 a1_4 a1_5 a1_6) = some (r1, r2) := H
      have A7 := Aside0.mk A70
      clear A70
      have H' := Aside0.mk H
      clear H
      go_wp2_with (first | ((with_reducible refine gate_callee (f := 18) rfl ?_); refine goesL_ (some 11) rfl rfl Try.func18 (by kernel_rfl) rfl #[.slice A0 l0.length c0] rfl (by (try simp only [List.map_toArray, List.map_cons, List.map_nil]); first | done | rfl | (simp only [List.length_drop, List.length_take]; rfl)) ?_; (with_reducible refine (item_Right.calls k _ _ l0 true _ ?side1 ?side2 A5.out).mono ?_); (case side1 => repeat (first | exact (Kd.C_below HR0.out HB.out) | (with_reducible refine Kd.C_alloc ?_ _) | (with_reducible refine Kd.C_drewN ?_ _) | (with_reducible refine Kd.C_drew ?_))); (case side2 => exact HC0.out); rintro e w8 ⟨rfl, hb⟩; refine ⟨_, rfl, ?_⟩; have n0_ := Aside0.mk (blk_below (g := gb124) (o := .cells #[.int .u8 a1_0, .int .u8 a1_1, .int .u32 a1_2, .int .u32 a1_3, .int .i64 a1_4, .int .u8 a1_5, .int .u32 a1_6] 27 (0, 0)) (by (with_reducible repeat (first | refine blk_drewN ?_ _ | refine blk_drew ?_ | refine blk_alloc ?_ _)); exact BK124.out) hb); have n1_ := Aside0.mk (below_step (by repeat (first | (with_reducible first | exact HB.out | apply below_alloc | apply pw_below_drewN | apply below_drew1 | refine below_set ?_ GE124.out) | exact HB.out)) hb); clear BK124; clear HB; have BK124 := n0_; have HB := n1_; clear n0_ n1_; (try clear hb); (try clear hb2); (try clear hk); (try clear hi); have hcz9_0 : w8.cell? ⟨gb124, 0, none⟩ = some (.int .u8 a1_0) := (blk_cell BK124.out 0).trans rfl; have hcz9_1 : w8.cell? ⟨gb124, 1, none⟩ = some (.int .u8 a1_1) := (blk_cell BK124.out 1).trans rfl; have hcz9_2 : w8.cell? ⟨gb124, 2, none⟩ = some (.int .u32 a1_2) := (blk_cell BK124.out 2).trans rfl; have hcz9_3 : w8.cell? ⟨gb124, 3, none⟩ = some (.int .u32 a1_3) := (blk_cell BK124.out 3).trans rfl; have hcz9_4 : w8.cell? ⟨gb124, 4, none⟩ = some (.int .i64 a1_4) := (blk_cell BK124.out 4).trans rfl; have hcz9_5 : w8.cell? ⟨gb124, 5, none⟩ = some (.int .u8 a1_5) := (blk_cell BK124.out 5).trans rfl; have hcz9_6 : w8.cell? ⟨gb124, 6, none⟩ = some (.int .u32 a1_6) := (blk_cell BK124.out 6).trans rfl; have hfz9_0 := blk_frozen BK124.out 0; have hfz9_1 := blk_frozen BK124.out 1; have hfz9_2 := blk_frozen BK124.out 2; have hfz9_3 := blk_frozen BK124.out 3; have hfz9_4 := blk_frozen BK124.out 4; have hfz9_5 := blk_frozen BK124.out 5; have hfz9_6 := blk_frozen BK124.out 6) | (go_at_call 38; (with_reducible refine (item_entry.calls a1_0 a1_1 a1_2 a1_3 a1_4 a1_5 a1_6 t126 _ A7.out).mono ?_); rintro e w10 ⟨rfl, hb⟩; have n0_ := Aside0.mk (blk_below (g := gb124) (o := .cells #[.int .u8 a1_0, .int .u8 a1_1, .int .u32 a1_2, .int .u32 a1_3, .int .i64 a1_4, .int .u8 a1_5, .int .u32 a1_6] 27 (0, 0)) (by (with_reducible repeat (first | refine blk_drewN ?_ _ | refine blk_drew ?_ | refine blk_alloc ?_ _)); exact BK124.out) hb); have n1_ := Aside0.mk (below_step (by repeat (first | (with_reducible first | exact HB.out | apply below_alloc | apply pw_below_drewN | apply below_drew1 | refine below_set ?_ GE124.out) | exact HB.out)) hb); clear BK124; clear HB; have BK124 := n0_; have HB := n1_; clear n0_ n1_; (try clear hb); (try clear hb2); (try clear hk); (try clear hi)))
      go_meet
      case rel => exact ⟨_, (!t126), (by first | rfl | (simp; done) | (simp [*]; done)), H', ⟨by first | omega | exact Nat.le_refl _⟩, ⟨by (with_reducible repeat (first | refine blk_drewN ?_ _ | refine blk_drew ?_ | refine blk_alloc ?_ _)); exact BK124.out⟩, ⟨by repeat (first | (with_reducible first | exact HB.out | apply below_alloc | apply pw_below_drewN | apply below_drew1 | refine below_set ?_ GE124.out) | exact HB.out)⟩⟩
    · replace c6 := Bool.eq_false_iff.mpr c6
      subst c6
      have H1 : (item_Take.j0 k l0 true a1_0 a1_1 a1_2 a1_3 a1_4 a1_5 a1_6) = some (r1, r2) := by rw [if_neg (show ¬ (false = true) by decide)] at H; exact H
      clear H
      have H := H1
      clear H1
      have H' := Aside0.mk H
      clear H
      go_wp2_with (first | ((with_reducible refine gate_callee (f := 18) rfl ?_); refine goesL_ (some 11) rfl rfl Try.func18 (by kernel_rfl) rfl #[.slice A0 l0.length c0] rfl (by (try simp only [List.map_toArray, List.map_cons, List.map_nil]); first | done | rfl | (simp only [List.length_drop, List.length_take]; rfl)) ?_; (with_reducible refine (item_Right.calls k _ _ l0 false _ ?side1 ?side2 A5.out).mono ?_); (case side1 => repeat (first | exact (Kd.C_below HR0.out HB.out) | (with_reducible refine Kd.C_alloc ?_ _) | (with_reducible refine Kd.C_drewN ?_ _) | (with_reducible refine Kd.C_drew ?_))); (case side2 => exact HC0.out); rintro e w11 ⟨rfl, hb⟩; refine ⟨_, rfl, ?_⟩; have n0_ := Aside0.mk (blk_below (g := gb124) (o := .cells #[.int .u8 a1_0, .int .u8 a1_1, .int .u32 a1_2, .int .u32 a1_3, .int .i64 a1_4, .int .u8 a1_5, .int .u32 a1_6] 27 (0, 0)) (by (with_reducible repeat (first | refine blk_drewN ?_ _ | refine blk_drew ?_ | refine blk_alloc ?_ _)); exact BK124.out) hb); have n1_ := Aside0.mk (below_step (by repeat (first | (with_reducible first | exact HB.out | apply below_alloc | apply pw_below_drewN | apply below_drew1 | refine below_set ?_ GE124.out) | exact HB.out)) hb); clear BK124; clear HB; have BK124 := n0_; have HB := n1_; clear n0_ n1_; (try clear hb); (try clear hb2); (try clear hk); (try clear hi)))
      go_meet
      case rel => exact ⟨_, (true), (by first | rfl | (simp; done) | (simp [*]; done)), H', ⟨by first | omega | exact Nat.le_refl _⟩, ⟨by (with_reducible repeat (first | refine blk_drewN ?_ _ | refine blk_drew ?_ | refine blk_alloc ?_ _)); exact BK124.out⟩, ⟨by repeat (first | (with_reducible first | exact HB.out | apply below_alloc | apply pw_below_drewN | apply below_drew1 | refine below_set ?_ GE124.out) | exact HB.out)⟩⟩
  case rest =>
    clear HC3
    try clear c1
    try clear p2
    try clear c6
    try clear c11
    try clear hcz9_0
    try clear hcz9_1
    try clear hcz9_2
    try clear hcz9_3
    try clear hcz9_4
    try clear hcz9_5
    try clear hcz9_6
    try clear hfz9_0
    try clear hfz9_1
    try clear hfz9_2
    try clear hfz9_3
    try clear hfz9_4
    try clear hfz9_5
    try clear hfz9_6
    obtain ⟨kq, x17_2, rfl, HA, HJ2, BK124, HB⟩ := hcut
    cases kq with
    | zero => exact absurd HA.out (by simp [item_Take.j0])
    | succ kj2 =>
      have H := HA.out
      clear HA
      simp only [item_Take.j0] at H
      by_cases c12 : x17_2 = true
      · subst c12
        have H1 : (some (([] : List (S27)), some 9)) = some (r1, r2) := by rw [if_pos rfl] at H; exact H
        clear H
        have H := H1
        clear H1
        simp only [Option.some.injEq, Prod.mk.injEq] at H
        obtain ⟨rfl, rfl⟩ := H
        go_wp2
        go_ret2
        exact ⟨_, by first | rfl | (simp [errW_none, errW_some] <;> rfl) | (simp [*, errW_none, errW_some] <;> rfl), by first | exact Kd.R_nil _ _ _ _ _ | exact Kd.N_nil _ _ _ _ _ | exact Kd.V_nil _ _ _ _ _ | exact Kd.Q_nil _ _ _ _ _ | exact Kd.S_nil _ _ _ _ _, by repeat (first | (with_reducible first | exact HB.out | apply below_alloc | apply pw_below_drewN | apply below_drew1 | refine below_set ?_ GE124.out) | exact HB.out)⟩
      · replace c12 := Bool.eq_false_iff.mpr c12
        subst c12
        have H1 : ((slices_BinarySearchFunc_Entry_uint8.f l0 a1_0).bind fun bt127 => (if bt127.2 = true then ((slices_Clone_Entry.f l0).bind fun t138 => (if 0 ≤ bt127.1 then (if bt127.1 < (t138.length : Int) then ((item_Cmp.f kj2 ((rd_T27 t138 bt127.1).f1.f0) ((rd_T27 t138 bt127.1).f1.f1) ((rd_T27 t138 bt127.1).f1.f2) a1_1 a1_2 a1_3).bind fun t142 => (if t142 < 0 then (some ((t138.set (bt127.1 : Int).toNat (⟨a1_0, (⟨a1_1, a1_2, a1_3⟩ : S25), a1_4, a1_5, a1_6⟩ : S27)), none)) else (if t142 = 0 then (if ((rd_T27 t138 bt127.1).f2) = 2 then (if a1_4 = 2 then (some (t138, none)) else (some ((t138.set (bt127.1 : Int).toNat (⟨a1_0, (⟨a1_1, a1_2, a1_3⟩ : S25), a1_4, a1_5, a1_6⟩ : S27)), none))) else (some (t138, none))) else (some (t138, none))))) else (none)) else (none))) else ((slices_Clone_Entry.f l0).bind fun t129 => ((slices_Insert_Entry.f t129 bt127.1 (([(⟨a1_0, (⟨a1_1, a1_2, a1_3⟩ : S25), a1_4, a1_5, a1_6⟩ : S27)] : List (S27)))).bind fun t135 => (some (t135, none)))))) = some (r1, r2) := by rw [if_neg (show ¬ (false = true) by decide)] at H; exact H
        clear H
        have H := H1
        clear H1
        replace H := Option.bind_eq_some_iff.mp H
        obtain ⟨⟨t127, t128⟩, A130, H⟩ := H
        replace H : (if t128 = true then ((slices_Clone_Entry.f l0).bind fun t138 => (if 0 ≤ t127 then (if t127 < (t138.length : Int) then ((item_Cmp.f kj2 ((rd_T27 t138 t127).f1.f0) ((rd_T27 t138 t127).f1.f1) ((rd_T27 t138 t127).f1.f2) a1_1 a1_2 a1_3).bind fun t142 => (if t142 < 0 then (some ((t138.set (t127 : Int).toNat (⟨a1_0, (⟨a1_1, a1_2, a1_3⟩ : S25), a1_4, a1_5, a1_6⟩ : S27)), none)) else (if t142 = 0 then (if ((rd_T27 t138 t127).f2) = 2 then (if a1_4 = 2 then (some (t138, none)) else (some ((t138.set (t127 : Int).toNat (⟨a1_0, (⟨a1_1, a1_2, a1_3⟩ : S25), a1_4, a1_5, a1_6⟩ : S27)), none))) else (some (t138, none))) else (some (t138, none))))) else (none)) else (none))) else ((slices_Clone_Entry.f l0).bind fun t129 => ((slices_Insert_Entry.f t129 t127 (([(⟨a1_0, (⟨a1_1, a1_2, a1_3⟩ : S25), a1_4, a1_5, a1_6⟩ : S27)] : List (S27)))).bind fun t135 => (some (t135, none))))) = some (r1, r2) := H
        have A13 := Aside0.mk A130
        clear A130
        by_cases c14 : t128 = true
        · subst c14
          have H1 : ((slices_Clone_Entry.f l0).bind fun t138 => (if 0 ≤ t127 then (if t127 < (t138.length : Int) then ((item_Cmp.f kj2 ((rd_T27 t138 t127).f1.f0) ((rd_T27 t138 t127).f1.f1) ((rd_T27 t138 t127).f1.f2) a1_1 a1_2 a1_3).bind fun t142 => (if t142 < 0 then (some ((t138.set (t127 : Int).toNat (⟨a1_0, (⟨a1_1, a1_2, a1_3⟩ : S25), a1_4, a1_5, a1_6⟩ : S27)), none)) else (if t142 = 0 then (if ((rd_T27 t138 t127).f2) = 2 then (if a1_4 = 2 then (some (t138, none)) else (some ((t138.set (t127 : Int).toNat (⟨a1_0, (⟨a1_1, a1_2, a1_3⟩ : S25), a1_4, a1_5, a1_6⟩ : S27)), none))) else (some (t138, none))) else (some (t138, none))))) else (none)) else (none))) = some (r1, r2) := by rw [if_pos rfl] at H; exact H
          clear H
          have H := H1
          clear H1
          replace H := Option.bind_eq_some_iff.mp H
          obtain ⟨t138, A150, H⟩ := H
          replace H : (if 0 ≤ t127 then (if t127 < (t138.length : Int) then ((item_Cmp.f kj2 ((rd_T27 t138 t127).f1.f0) ((rd_T27 t138 t127).f1.f1) ((rd_T27 t138 t127).f1.f2) a1_1 a1_2 a1_3).bind fun t142 => (if t142 < 0 then (some ((t138.set (t127 : Int).toNat (⟨a1_0, (⟨a1_1, a1_2, a1_3⟩ : S25), a1_4, a1_5, a1_6⟩ : S27)), none)) else (if t142 = 0 then (if ((rd_T27 t138 t127).f2) = 2 then (if a1_4 = 2 then (some (t138, none)) else (some ((t138.set (t127 : Int).toNat (⟨a1_0, (⟨a1_1, a1_2, a1_3⟩ : S25), a1_4, a1_5, a1_6⟩ : S27)), none))) else (some (t138, none))) else (some (t138, none))))) else (none)) else (none)) = some (r1, r2) := H
          have A15 := Aside0.mk A150
          clear A150
          by_cases c16 : 0 ≤ t127
          · rw [if_pos c16] at H
            have c16b0 : decide (0 ≤ t127) = true := decide_eq_true c16
            clear c16
            by_cases c17 : t127 < (t138.length : Int)
            · rw [if_pos c17] at H
              have c17b0 : decide (t127 < (t138.length : Int)) = true := decide_eq_true c17
              clear c17
              replace H := Option.bind_eq_some_iff.mp H
              obtain ⟨t142, A180, H⟩ := H
              replace H : (if t142 < 0 then (some ((t138.set (t127 : Int).toNat (⟨a1_0, (⟨a1_1, a1_2, a1_3⟩ : S25), a1_4, a1_5, a1_6⟩ : S27)), none)) else (if t142 = 0 then (if ((rd_T27 t138 t127).f2) = 2 then (if a1_4 = 2 then (some (t138, none)) else (some ((t138.set (t127 : Int).toNat (⟨a1_0, (⟨a1_1, a1_2, a1_3⟩ : S25), a1_4, a1_5, a1_6⟩ : S27)), none))) else (some (t138, none))) else (some (t138, none)))) = some (r1, r2) := H
              have A18 := Aside0.mk A180
              clear A180
              by_cases c19 : t142 < 0
              · rw [if_pos c19] at H
                have c19b0 : decide (t142 < 0) = true := decide_eq_true c19
                clear c19
                obtain ⟨y143, hy143⟩ : ∃ y_ : List (S27), y_ = (t138.set (t127 : Int).toNat (⟨a1_0, (⟨a1_1, a1_2, a1_3⟩ : S25), a1_4, a1_5, a1_6⟩ : S27)) := ⟨_, rfl⟩
                replace H : (some (y143, none)) = some (r1, r2) := by first | (rw [hy143]; with_reducible exact H) | (have H2_ := (Option.bind_some _ _).symm.trans H; rw [hy143]; with_reducible exact H2_) | (have H2_ := (Option.bind_some _ _).symm.trans H; with_reducible exact H2_) | with_reducible exact H | (rw [hy143]; exact H) | exact H
                have Ny143 := Aside0.mk hy143
                clear hy143
                simp only [Option.some.injEq, Prod.mk.injEq] at H
                obtain ⟨rfl, rfl⟩ := H
                have hcz21_0 : wc.cell? ⟨gb124, 0, none⟩ = some (.int .u8 a1_0) := (blk_cell BK124.out 0).trans rfl
                have hcz21_1 : wc.cell? ⟨gb124, 1, none⟩ = some (.int .u8 a1_1) := (blk_cell BK124.out 1).trans rfl
                have hcz21_2 : wc.cell? ⟨gb124, 2, none⟩ = some (.int .u32 a1_2) := (blk_cell BK124.out 2).trans rfl
                have hcz21_3 : wc.cell? ⟨gb124, 3, none⟩ = some (.int .u32 a1_3) := (blk_cell BK124.out 3).trans rfl
                have hcz21_4 : wc.cell? ⟨gb124, 4, none⟩ = some (.int .i64 a1_4) := (blk_cell BK124.out 4).trans rfl
                have hcz21_5 : wc.cell? ⟨gb124, 5, none⟩ = some (.int .u8 a1_5) := (blk_cell BK124.out 5).trans rfl
                have hcz21_6 : wc.cell? ⟨gb124, 6, none⟩ = some (.int .u32 a1_6) := (blk_cell BK124.out 6).trans rfl
                have hfz21_0 := blk_frozen BK124.out 0
                have hfz21_1 := blk_frozen BK124.out 1
                have hfz21_2 := blk_frozen BK124.out 2
                have hfz21_3 := blk_frozen BK124.out 3
                have hfz21_4 := blk_frozen BK124.out 4
                have hfz21_5 := blk_frozen BK124.out 5
                have hfz21_6 := blk_frozen BK124.out 6
                try go_wp2_with (first | ((with_reducible refine gate_callee (f := 39) rfl ?_); refine goesL_ (some 23) rfl rfl Try.func39 (by kernel_rfl) rfl #[.slice A0 l0.length c0, .int .u8 a1_0, .func (.func 40) #[] #[]] rfl (by (try simp only [List.map_toArray, List.map_cons, List.map_nil]); first | done | rfl | (simp only [List.length_drop, List.length_take]; rfl)) ?_; (with_reducible refine (slices_BinarySearchFunc_Entry_uint8.calls _ _ l0 a1_0  t127 true _ ?side1 ?side2 A13.out).mono ?_); (case side1 => repeat (first | exact (Kd.C_below HR0.out HB.out) | (with_reducible refine Kd.C_alloc ?_ _) | (with_reducible refine Kd.C_drewN ?_ _) | (with_reducible refine Kd.C_drew ?_))); (case side2 => exact HC0.out); rintro e w22 ⟨rfl, hb⟩; refine ⟨_, rfl, ?_⟩; have n0_ := Aside0.mk (blk_below (g := gb124) (o := .cells #[.int .u8 a1_0, .int .u8 a1_1, .int .u32 a1_2, .int .u32 a1_3, .int .i64 a1_4, .int .u8 a1_5, .int .u32 a1_6] 27 (0, 0)) (by (with_reducible repeat (first | refine blk_drewN ?_ _ | refine blk_drew ?_ | refine blk_alloc ?_ _)); exact BK124.out) hb); have n1_ := Aside0.mk (below_step (by repeat (first | (with_reducible first | exact HB.out | apply below_alloc | apply pw_below_drewN | apply below_drew1 | refine below_set ?_ GE124.out) | exact HB.out)) hb); clear BK124; clear HB; have BK124 := n0_; have HB := n1_; clear n0_ n1_; (try clear hb); (try clear hb2); (try clear hk); (try clear hi)) | ((with_reducible refine gate_callee (f := 43) rfl ?_); refine goesL_ (some 35) rfl rfl Try.func43 (by kernel_rfl) rfl #[.slice A0 l0.length c0] rfl (by (try simp only [List.map_toArray, List.map_cons, List.map_nil]); first | done | rfl | (simp only [List.length_drop, List.length_take]; rfl)) ?_; (with_reducible refine (slices_Clone_Entry.calls _ _ l0 t138 _ ?side1 ?side2 A15.out).mono ?_); (case side1 => repeat (first | exact (Kd.C_below HR0.out HB.out) | (with_reducible refine Kd.C_alloc ?_ _) | (with_reducible refine Kd.C_drewN ?_ _) | (with_reducible refine Kd.C_drew ?_))); (case side2 => exact HC0.out); rintro e w23 ⟨v139, rfl, ho0, hb⟩; refine ⟨_, rfl, ?_⟩; have n0_ := Aside0.mk (Kd.R_lower (Kd.R_newB ho0 (g := gb124) (o := .cells #[.int .u8 a1_0, .int .u8 a1_1, .int .u32 a1_2, .int .u32 a1_3, .int .i64 a1_4, .int .u8 a1_5, .int .u32 a1_6] 27 (0, 0)) (by (with_reducible repeat (first | refine blk_drewN ?_ _ | refine blk_drew ?_ | refine blk_alloc ?_ _)); exact BK124.out)) (below_size (by repeat (first | (with_reducible first | exact HB.out | apply below_alloc | apply pw_below_drewN | apply below_drew1 | refine below_set ?_ GE124.out) | exact HB.out)))); have n1_ := Aside0.mk (blk_below (g := gb124) (o := .cells #[.int .u8 a1_0, .int .u8 a1_1, .int .u32 a1_2, .int .u32 a1_3, .int .i64 a1_4, .int .u8 a1_5, .int .u32 a1_6] 27 (0, 0)) (by (with_reducible repeat (first | refine blk_drewN ?_ _ | refine blk_drew ?_ | refine blk_alloc ?_ _)); exact BK124.out) hb); have n2_ := Aside0.mk (below_step (by repeat (first | (with_reducible first | exact HB.out | apply below_alloc | apply pw_below_drewN | apply below_drew1 | refine below_set ?_ GE124.out) | exact HB.out)) hb); clear BK124; clear HB; have HO140 := n0_; have BK124 := n1_; have HB := n2_; clear n0_ n1_ n2_; (try clear hb); (try clear hb2); (try clear hk); (try clear hi); (try clear ho0)))
                have n0_ := Aside0.mk (Kd.R_drew HO140.out)
                have n1_ := Aside0.mk (blk_drew BK124.out)
                have n2_ := Aside0.mk (below_drew1 HB.out)
                clear HO140
                clear BK124
                clear HB
                have HO140 := n0_
                have BK124 := n1_
                have HB := n2_
                clear n0_ n1_ n2_
                obtain ⟨Ao25, co25, eo25⟩ := Kd.R_slice HO140.out
                (first | subst eo25 | (injection eo25 with f1_ f2_ f3_; have f4_ := f1_.symm; have f5_ := f3_.symm; clear f1_ f2_ f3_; subst f4_; subst f5_))
                have p141 : 0 ≤ (t127 : Int) := of_decide_eq_true (by first | (with_reducible assumption) | assumption)
                have q141 : t127 < (t138.length : Int) := of_decide_eq_true (by first | (with_reducible assumption) | assumption)
                obtain ⟨ad141, e141, hx141_0, hx141_1, hx141_2, hx141_3, hx141_4, hx141_5, hx141_6⟩ := at_T27 (Kd.R_reads' HO140.out).2.2 t127 p141 q141
                cases e141
                replace p141 := eq_true p141
                replace q141 := eq_true q141
                refine start_ (n := 9) (S := fun w' => w'.cell? ⟨gb124, 0, none⟩ = some (.int .u8 a1_0) ∧ w'.cell? ⟨gb124, 1, none⟩ = some (.int .u8 a1_1) ∧ w'.cell? ⟨gb124, 2, none⟩ = some (.int .u32 a1_2) ∧ w'.cell? ⟨gb124, 3, none⟩ = some (.int .u32 a1_3) ∧ w'.cell? ⟨gb124, 4, none⟩ = some (.int .i64 a1_4) ∧ w'.cell? ⟨gb124, 5, none⟩ = some (.int .u8 a1_5) ∧ w'.cell? ⟨gb124, 6, none⟩ = some (.int .u32 a1_6) ∧ w'.cell? (ad141.add ((t127).toNat * 7)) = some (.int .u8 ((rd_T27 t138 t127).f0)) ∧ w'.cell? ⟨(ad141.add ((t127).toNat * 7)).block, (ad141.add ((t127).toNat * 7)).off + 1, none⟩ = some (.int .u8 ((rd_T27 t138 t127).f1.f0)) ∧ w'.cell? ⟨(ad141.add ((t127).toNat * 7)).block, (ad141.add ((t127).toNat * 7)).off + 2, none⟩ = some (.int .u32 ((rd_T27 t138 t127).f1.f1)) ∧ w'.cell? ⟨(ad141.add ((t127).toNat * 7)).block, (ad141.add ((t127).toNat * 7)).off + 3, none⟩ = some (.int .u32 ((rd_T27 t138 t127).f1.f2)) ∧ w'.cell? ⟨(ad141.add ((t127).toNat * 7)).block, (ad141.add ((t127).toNat * 7)).off + 4, none⟩ = some (.int .i64 ((rd_T27 t138 t127).f2)) ∧ w'.cell? ⟨(ad141.add ((t127).toNat * 7)).block, (ad141.add ((t127).toNat * 7)).off + 5, none⟩ = some (.int .u8 ((rd_T27 t138 t127).f3)) ∧ w'.cell? ⟨(ad141.add ((t127).toNat * 7)).block, (ad141.add ((t127).toNat * 7)).off + 6, none⟩ = some (.int .u32 ((rd_T27 t138 t127).f4))) (ds := []) #[false, false, false, false, false, false, false, false, false] (by kernel_rfl) rfl rfl ⟨(blk_cell BK124.out 0).trans rfl, (blk_cell BK124.out 1).trans rfl, (blk_cell BK124.out 2).trans rfl, (blk_cell BK124.out 3).trans rfl, (blk_cell BK124.out 4).trans rfl, (blk_cell BK124.out 5).trans rfl, (blk_cell BK124.out 6).trans rfl, hx141_0, hx141_1, hx141_2, hx141_3, hx141_4, hx141_5, hx141_6⟩ (fun hHeld => ?_); refine with_tabW item_Take.tab7 item_Take.bits7 (fun HT_ HW_ => ?_)
                generalize w23.drew = w24 at HO140 BK124 HB hx141_0 hx141_1 hx141_2 hx141_3 hx141_4 hx141_5 hx141_6 hHeld ⊢
                refine pure_ (i := 0) (N := some 36) (v := ?_) (a' := ?_) #[true, false, false, false, false, false, false, false, false] rfl rfl (any_of HT_.out (by kernel_rfl)) (fun _ _ _ h => h) (Or.inl ⟨by rfl, ?_⟩) ?_ ?_
                rotate_left
                · intro w'
                  go_simp
                  with_reducible rfl
                rotate_left
                · simp only [Act.put, List.setIfInBounds_toArray, List.set_cons_zero, List.set_cons_succ, i64_w, i32_w]
                  rfl
                refine pure_ (i := 1) (N := some 37) (v := ?_) (a' := ?_) #[true, true, false, false, false, false, false, false, false] rfl rfl (any_of HT_.out (by kernel_rfl)) (fun _ _ _ h => h) (Or.inl ⟨by rfl, ?_⟩) ?_ ?_
                rotate_left
                · intro w'
                  go_simp
                  with_reducible rfl
                rotate_left
                · simp only [Act.put, List.setIfInBounds_toArray, List.set_cons_zero, List.set_cons_succ, i64_w, i32_w]
                  rfl
                refine pure_ (i := 2) (N := some 38) (v := ?_) (a' := ?_) #[true, true, true, false, false, false, false, false, false] rfl rfl (any_of HT_.out (by kernel_rfl)) (fun _ _ _ h => h) (Or.inl ⟨by rfl, ?_⟩) ?_ ?_
                rotate_left
                · intro w'
                  go_simp
                  with_reducible rfl
                rotate_left
                · simp only [Act.put, List.setIfInBounds_toArray, List.set_cons_zero, List.set_cons_succ, i64_w, i32_w]
                  rfl
                refine pure_ (i := 3) (N := some 39) (v := ?_) (a' := ?_) #[true, true, true, true, false, false, false, false, false] rfl rfl (any_of HT_.out (by kernel_rfl)) (fun _ _ _ h => h) (Or.inl ⟨by rfl, ?_⟩) ?_ ?_
                rotate_left
                · intro w'
                  go_simp
                  with_reducible rfl
                rotate_left
                · simp only [Act.put, List.setIfInBounds_toArray, List.set_cons_zero, List.set_cons_succ, i64_w, i32_w]
                  rfl
                refine pure_ (i := 5) (N := some 41) (v := ?_) (a' := ?_) #[true, true, true, true, false, true, false, false, false] rfl rfl (any_of HT_.out (by kernel_rfl)) (fun _ _ _ h => h) (Or.inl ⟨by rfl, ?_⟩) ?_ ?_
                rotate_left
                · intro w'
                  go_simp
                  with_reducible rfl
                rotate_left
                · simp only [Act.put, List.setIfInBounds_toArray, List.set_cons_zero, List.set_cons_succ, i64_w, i32_w]
                  rfl
                refine take_ (i := 4) (N := some 40) (v := ?_) (a' := ?_) #[true, true, true, true, true, true, false, false, false] rfl rfl (take_ofW HT_.out HW_.out (by kernel_rfl)) (fun _ _ _ h => h) (Or.inl ⟨by rfl, ?_⟩) hHeld ?_ ?_
                rotate_left
                · rintro w' ⟨s0, s1, s2, s3, s4, s5, s6, s7, s8, s9, s10, s11, s12, s13⟩
                  go_simp
                  with_reducible rfl
                rotate_left
                · simp only [Act.put, List.setIfInBounds_toArray, List.set_cons_zero, List.set_cons_succ, i64_w, i32_w]
                  rfl
                refine take_ (i := 6) (N := some 42) (v := ?_) (a' := ?_) #[true, true, true, true, true, true, true, false, false] rfl rfl (take_ofW HT_.out HW_.out (by kernel_rfl)) (fun _ _ _ h => h) (Or.inl ⟨by rfl, ?_⟩) hHeld ?_ ?_
                rotate_left
                · rintro w' ⟨s0, s1, s2, s3, s4, s5, s6, s7, s8, s9, s10, s11, s12, s13⟩
                  go_simp
                  with_reducible rfl
                rotate_left
                · simp only [Act.put, List.setIfInBounds_toArray, List.set_cons_zero, List.set_cons_succ, i64_w, i32_w]
                  rfl
                refine one_ (i := 7) (N := some 43) #[true, true, true, true, true, true, true, true, false] rfl rfl (one_of HT_.out (by kernel_rfl)) (by decide) (fun K hK => ?_)
                refine goes_ Try.func14 (by kernel_rfl) rfl #[.agg #[.int .u8 ((rd_T27 t138 t127).f1.f0), .int .u32 ((rd_T27 t138 t127).f1.f1), .int .u32 ((rd_T27 t138 t127).f1.f2)], .agg #[.int .u8 a1_1, .int .u32 a1_2, .int .u32 a1_3]] (by rfl) rfl rfl (by (try simp only [List.map_toArray, List.map_cons, List.map_nil]); first | done | rfl | (simp only [List.length_drop, List.length_take]; rfl)) ?_
                with_reducible refine (item_Cmp.calls kj2 ((rd_T27 t138 t127).f1.f0) ((rd_T27 t138 t127).f1.f1) ((rd_T27 t138 t127).f1.f2) a1_1 a1_2 a1_3 t142 _ A18.out).mono ?_
                rintro e w26 ⟨rfl, hb⟩
                have HS7_ := (hb.cell (World.block_lt_of_cell? _ _ (hHeld.2.2.2.2.2.2.2.1))).trans (hHeld.2.2.2.2.2.2.2.1)
                have HS8_ := (hb.cell (World.block_lt_of_cell? _ _ (hHeld.2.2.2.2.2.2.2.2.1))).trans (hHeld.2.2.2.2.2.2.2.2.1)
                have HS9_ := (hb.cell (World.block_lt_of_cell? _ _ (hHeld.2.2.2.2.2.2.2.2.2.1))).trans (hHeld.2.2.2.2.2.2.2.2.2.1)
                have HS10_ := (hb.cell (World.block_lt_of_cell? _ _ (hHeld.2.2.2.2.2.2.2.2.2.2.1))).trans (hHeld.2.2.2.2.2.2.2.2.2.2.1)
                have HS11_ := (hb.cell (World.block_lt_of_cell? _ _ (hHeld.2.2.2.2.2.2.2.2.2.2.2.1))).trans (hHeld.2.2.2.2.2.2.2.2.2.2.2.1)
                have HS12_ := (hb.cell (World.block_lt_of_cell? _ _ (hHeld.2.2.2.2.2.2.2.2.2.2.2.2.1))).trans (hHeld.2.2.2.2.2.2.2.2.2.2.2.2.1)
                have HS13_ := (hb.cell (World.block_lt_of_cell? _ _ (hHeld.2.2.2.2.2.2.2.2.2.2.2.2.2))).trans (hHeld.2.2.2.2.2.2.2.2.2.2.2.2.2)
                refine ⟨_, rfl, ?_⟩
                have n0_ := Aside0.mk (Kd.R_below (by (with_reducible repeat (first | apply Kd.R_alloc | apply Kd.R_drewN | apply Kd.R_drew)); exact HO140.out) hb)
                have n1_ := Aside0.mk (blk_below (g := gb124) (o := .cells #[.int .u8 a1_0, .int .u8 a1_1, .int .u32 a1_2, .int .u32 a1_3, .int .i64 a1_4, .int .u8 a1_5, .int .u32 a1_6] 27 (0, 0)) (by (with_reducible repeat (first | refine blk_drewN ?_ _ | refine blk_drew ?_ | refine blk_alloc ?_ _)); exact BK124.out) hb)
                have n2_ := Aside0.mk (below_step (by repeat (first | (with_reducible first | exact HB.out | apply below_alloc | apply pw_below_drewN | apply below_drew1 | refine below_set ?_ GE124.out) | exact HB.out)) hb)
                clear HO140
                clear BK124
                clear HB
                have HO140 := n0_
                have BK124 := n1_
                have HB := n2_
                clear n0_ n1_ n2_
                (try clear hb)
                (try clear hb2)
                (try clear hk)
                (try clear hi)
                refine hK.out _ _ ⟨(blk_cell BK124.out 0).trans rfl, (blk_cell BK124.out 1).trans rfl, (blk_cell BK124.out 2).trans rfl, (blk_cell BK124.out 3).trans rfl, (blk_cell BK124.out 4).trans rfl, (blk_cell BK124.out 5).trans rfl, (blk_cell BK124.out 6).trans rfl, HS7_, HS8_, HS9_, HS10_, HS11_, HS12_, HS13_⟩ (fun hHeld => ?_)
                clear hK K
                refine norm_ (a' := ?_) ?_ ?_
                rotate_left
                · show Act.put _ (some 43) _ = _
                  simp only [Act.put, List.setIfInBounds_toArray, List.set_cons_zero, List.set_cons_succ, i64_w, i32_w]
                  rfl
                refine pure_ (i := 8) (N := some 9) (v := ?_) (a' := ?_) #[true, true, true, true, true, true, true, true, true] rfl rfl (any_of HT_.out (by kernel_rfl)) (fun _ _ _ h => h) (Or.inl ⟨by rfl, ?_⟩) ?_ ?_
                rotate_left
                · intro w'
                  go_simp
                  with_reducible rfl
                rotate_left
                · simp only [Act.put, List.setIfInBounds_toArray, List.set_cons_zero, List.set_cons_succ, i64_w, i32_w]
                  rfl
                refine done_ (done_of HT_.out (by kernel_rfl)) ?_
                have hcz27_0 : w26.cell? ⟨gb124, 0, none⟩ = some (.int .u8 a1_0) := (blk_cell BK124.out 0).trans rfl
                have hcz27_1 : w26.cell? ⟨gb124, 1, none⟩ = some (.int .u8 a1_1) := (blk_cell BK124.out 1).trans rfl
                have hcz27_2 : w26.cell? ⟨gb124, 2, none⟩ = some (.int .u32 a1_2) := (blk_cell BK124.out 2).trans rfl
                have hcz27_3 : w26.cell? ⟨gb124, 3, none⟩ = some (.int .u32 a1_3) := (blk_cell BK124.out 3).trans rfl
                have hcz27_4 : w26.cell? ⟨gb124, 4, none⟩ = some (.int .i64 a1_4) := (blk_cell BK124.out 4).trans rfl
                have hcz27_5 : w26.cell? ⟨gb124, 5, none⟩ = some (.int .u8 a1_5) := (blk_cell BK124.out 5).trans rfl
                have hcz27_6 : w26.cell? ⟨gb124, 6, none⟩ = some (.int .u32 a1_6) := (blk_cell BK124.out 6).trans rfl
                have hfz27_0 := blk_frozen BK124.out 0
                have hfz27_1 := blk_frozen BK124.out 1
                have hfz27_2 := blk_frozen BK124.out 2
                have hfz27_3 := blk_frozen BK124.out 3
                have hfz27_4 := blk_frozen BK124.out 4
                have hfz27_5 := blk_frozen BK124.out 5
                have hfz27_6 := blk_frozen BK124.out 6
                have p20 : 0 ≤ (t127 : Int) := of_decide_eq_true (by first | (with_reducible assumption) | assumption)
                have q20 : (t127 : Int) < ((t138.length : Int) : Int) := of_decide_eq_true (by first | (with_reducible assumption) | assumption)
                obtain ⟨go20, co20, eo20, gb20, gl20, cl20, HG20⟩ := Kd.R_form HO140.out (by omega)
                (first | cases eo20 | (injection eo20 with ea_ en_ ec_; (first | subst ea_ | (injection ea_ with ea_; subst ea_)); subst ec_; clear en_))
                have GB20 := Aside0.mk gb20
                have GG20 := Aside0.mk HG20
                clear gb20 gl20 HG20
                (first | simp only [add_plain] at hx141_0 | skip)
                (first | simp only [add_plain] at hx141_1 | skip)
                (first | simp only [add_plain] at hx141_2 | skip)
                (first | simp only [add_plain] at hx141_3 | skip)
                (first | simp only [add_plain] at hx141_4 | skip)
                (first | simp only [add_plain] at hx141_5 | skip)
                (first | simp only [add_plain] at hx141_6 | skip)
                obtain ⟨ce20, hcl20, hM20, hcc20, hfr20⟩ := Kd.R_elem HO140.out z27 (t127 : Int) p20 q20
                obtain rfl := k27_openM hM20
                have hx20_0 : w26.cell? ⟨go20, (t127 : Int).toNat * 7, none⟩ = some (.int .u8 ((rd_T27 t138 t127).f0)) := hcc20 0 _ rfl
                have hx20_1 : w26.cell? ⟨go20, (t127 : Int).toNat * 7 + 1, none⟩ = some (.int .u8 ((rd_T27 t138 t127).f1.f0)) := hcc20 1 _ rfl
                have hx20_2 : w26.cell? ⟨go20, (t127 : Int).toNat * 7 + 2, none⟩ = some (.int .u32 ((rd_T27 t138 t127).f1.f1)) := hcc20 2 _ rfl
                have hx20_3 : w26.cell? ⟨go20, (t127 : Int).toNat * 7 + 3, none⟩ = some (.int .u32 ((rd_T27 t138 t127).f1.f2)) := hcc20 3 _ rfl
                have hx20_4 : w26.cell? ⟨go20, (t127 : Int).toNat * 7 + 4, none⟩ = some (.int .i64 ((rd_T27 t138 t127).f2)) := hcc20 4 _ rfl
                have hx20_5 : w26.cell? ⟨go20, (t127 : Int).toNat * 7 + 5, none⟩ = some (.int .u8 ((rd_T27 t138 t127).f3)) := hcc20 5 _ rfl
                have hx20_6 : w26.cell? ⟨go20, (t127 : Int).toNat * 7 + 6, none⟩ = some (.int .u32 ((rd_T27 t138 t127).f4)) := hcc20 6 _ rfl
                have hf20_0 : w26.frozen? ⟨go20, (t127 : Int).toNat * 7, none⟩ = false := hfr20 0
                have hf20_1 : w26.frozen? ⟨go20, (t127 : Int).toNat * 7 + 1, none⟩ = false := hfr20 1
                have hf20_2 : w26.frozen? ⟨go20, (t127 : Int).toNat * 7 + 2, none⟩ = false := hfr20 2
                have hf20_3 : w26.frozen? ⟨go20, (t127 : Int).toNat * 7 + 3, none⟩ = false := hfr20 3
                have hf20_4 : w26.frozen? ⟨go20, (t127 : Int).toNat * 7 + 4, none⟩ = false := hfr20 4
                have hf20_5 : w26.frozen? ⟨go20, (t127 : Int).toNat * 7 + 5, none⟩ = false := hfr20 5
                have hf20_6 : w26.frozen? ⟨go20, (t127 : Int).toNat * 7 + 6, none⟩ = false := hfr20 6
                clear hcl20 hcc20 hfr20 hM20
                replace p20 := eq_true p20
                replace q20 := eq_true q20
                have n_ := Aside0.mk (Kd.R_mono (ok' := (fun k_ => k_ ≠ gb124)) HO140.out (fun k_ hk => hk.2))
                clear HO140
                have HO140 := n_
                clear n_
                have HX28 := Aside0.mk (show Kd.R k27 27 w26 w.heap.size (fun k_ => k_ ≠ gb124) (.slice (some ⟨go20, 0, none⟩) t138.length co25) t138 from (by (with_reducible repeat (first | apply Kd.R_alloc | apply Kd.R_drewN | apply Kd.R_drew)); exact HO140.out))
                obtain ⟨ce28, hcl28, hM28, hcc28, hfr28⟩ := Kd.R_elem HX28.out z27 (t127 : Int) (of_decide_eq_true (by first | (with_reducible assumption) | assumption)) (by have h_ : (t127 : Int) < ((t138.length : Int) : Int) := of_decide_eq_true (by first | (with_reducible assumption) | assumption); first | exact h_ | (have e_ := (Kd.R_reads' HO140.out).1; omega) | simpa using h_)
                obtain rfl := k27_openM hM28
                have HP28 := Kd.R_seg HX28.out (t127 : Int) (of_decide_eq_true (by first | (with_reducible assumption) | assumption)) (by have h_ : (t127 : Int) < ((t138.length : Int) : Int) := of_decide_eq_true (by first | (with_reducible assumption) | assumption); first | exact h_ | (have e_ := (Kd.R_reads' HO140.out).1; omega) | simpa using h_) (seg := [.int .u8 a1_0, .int .u8 a1_1, .int .u32 a1_2, .int .u32 a1_3, .int .i64 a1_4, .int .u8 a1_5, .int .u32 a1_6]) (j := 0) hcl28 hcc28 (show 7 ≤ 7 from by decide) (x' := (⟨a1_0, (⟨a1_1, a1_2, a1_3⟩ : S25), a1_4, a1_5, a1_6⟩ : S27)) (k27_mkM _ _ _ (⟨a1_0, (⟨a1_1, a1_2, a1_3⟩ : S25), a1_4, a1_5, a1_6⟩ : S27) ) (fun _ hk => hk)
                have hx28_0 := hcc28 0 _ rfl
                (try simp only [show (k27).sz = 7 from rfl, Nat.mul_one, Nat.add_zero] at hx28_0)
                have hf28_0 := hfr28 0
                (try simp only [show (k27).sz = 7 from rfl, Nat.mul_one, Nat.add_zero] at hf28_0)
                have hx28_1 := hcc28 1 _ rfl
                (try simp only [show (k27).sz = 7 from rfl, Nat.mul_one, Nat.add_zero] at hx28_1)
                have hf28_1 := hfr28 1
                (try simp only [show (k27).sz = 7 from rfl, Nat.mul_one, Nat.add_zero] at hf28_1)
                have hx28_2 := hcc28 2 _ rfl
                (try simp only [show (k27).sz = 7 from rfl, Nat.mul_one, Nat.add_zero] at hx28_2)
                have hf28_2 := hfr28 2
                (try simp only [show (k27).sz = 7 from rfl, Nat.mul_one, Nat.add_zero] at hf28_2)
                have hx28_3 := hcc28 3 _ rfl
                (try simp only [show (k27).sz = 7 from rfl, Nat.mul_one, Nat.add_zero] at hx28_3)
                have hf28_3 := hfr28 3
                (try simp only [show (k27).sz = 7 from rfl, Nat.mul_one, Nat.add_zero] at hf28_3)
                have hx28_4 := hcc28 4 _ rfl
                (try simp only [show (k27).sz = 7 from rfl, Nat.mul_one, Nat.add_zero] at hx28_4)
                have hf28_4 := hfr28 4
                (try simp only [show (k27).sz = 7 from rfl, Nat.mul_one, Nat.add_zero] at hf28_4)
                have hx28_5 := hcc28 5 _ rfl
                (try simp only [show (k27).sz = 7 from rfl, Nat.mul_one, Nat.add_zero] at hx28_5)
                have hf28_5 := hfr28 5
                (try simp only [show (k27).sz = 7 from rfl, Nat.mul_one, Nat.add_zero] at hf28_5)
                have hx28_6 := hcc28 6 _ rfl
                (try simp only [show (k27).sz = 7 from rfl, Nat.mul_one, Nat.add_zero] at hx28_6)
                have hf28_6 := hfr28 6
                (try simp only [show (k27).sz = 7 from rfl, Nat.mul_one, Nat.add_zero] at hf28_6)
                clear hcl28 hcc28 hfr28 hM28
                try go_wp2_with (first | ((with_reducible refine gate_store (t := 27) (p := 65) rfl ?_); refine store_event (t := 27) (p := 65) (v := ?vo_w29) (w1 := (((((((w26.setCell ⟨go20, (t127 : Int).toNat * 7, none⟩ (.int .u8 a1_0)).setCell ⟨go20, (t127 : Int).toNat * 7 + 1, none⟩ (.int .u8 a1_1)).setCell ⟨go20, (t127 : Int).toNat * 7 + 2, none⟩ (.int .u32 a1_2)).setCell ⟨go20, (t127 : Int).toNat * 7 + 3, none⟩ (.int .u32 a1_3)).setCell ⟨go20, (t127 : Int).toNat * 7 + 4, none⟩ (.int .i64 a1_4)).setCell ⟨go20, (t127 : Int).toNat * 7 + 5, none⟩ (.int .u8 a1_5)).setCell ⟨go20, (t127 : Int).toNat * 7 + 6, none⟩ (.int .u32 a1_6))) ?hg ?ho ?hn ?hr ?_; (case ho => rfl); (case hg => rfl); (case hn => rfl); (case hr => first | (go_simp; done) | (go_simp; rfl)); intro w29 hw; have hg : w26.grownBy w29 (some go20) := (by rw [hw]; exact HP28.2); have hp_ : Kd.R k27 27 w29 w.heap.size (fun k_ => k_ ≠ gb124) (.slice (some ⟨go20, 0, none⟩) t138.length co25) y143 := (by rw [hw, Ny143.out]; exact HP28.1); clear HP28; have n0_ := Aside0.mk (blk_grown (g := gb124) (o := .cells #[.int .u8 a1_0, .int .u8 a1_1, .int .u32 a1_2, .int .u32 a1_3, .int .i64 a1_4, .int .u8 a1_5, .int .u32 a1_6] 27 (0, 0)) (by (with_reducible repeat (first | refine blk_drewN ?_ _ | refine blk_drew ?_ | refine blk_alloc ?_ _)); exact BK124.out) hg (Kd.R_away HO140.out (fun _ hk => hk))); have n1_ := Aside0.mk (hp_); have n2_ := Aside0.mk ((by rw [hw]; exact below_set (below_set (below_set (below_set (below_set (below_set (below_set (HB.out) GB20.out) GB20.out) GB20.out) GB20.out) GB20.out) GB20.out) GB20.out : Below w.heap.size w w29)); clear BK124; clear HO140; clear HB; have BK124 := n0_; have HO140 := n1_; have HB := n2_; clear n0_ n1_ n2_; clear hg hw hp_))
                go_ret2
                exact ⟨_, by first | rfl | (simp [errW_none, errW_some] <;> rfl) | (simp [*, errW_none, errW_some] <;> rfl), by (with_reducible repeat (first | apply Kd.R_alloc | apply Kd.R_drewN | apply Kd.R_drew)); exact Kd.R_mono HO140.out (fun _ hk => trivial), by repeat (first | (with_reducible first | exact HB.out | apply below_alloc | apply pw_below_drewN | apply below_drew1 | refine below_set ?_ GE124.out) | exact HB.out)⟩
              · rw [if_neg c19] at H
                have c19b0 : decide (t142 < 0) = false := decide_eq_false c19
                clear c19
                by_cases c30 : t142 = 0
                · rw [if_pos c30] at H
                  have c30b0 : (t142 == 0) = true := beq_iff_eq.mpr c30
                  have c30b1 : (t142 != 0) = false := bne_eq_false_iff_eq.mpr c30
                  clear c30
                  by_cases c31 : ((rd_T27 t138 t127).f2) = 2
                  · rw [if_pos c31] at H
                    have c31b0 : (((rd_T27 t138 t127).f2) == 2) = true := beq_iff_eq.mpr c31
                    have c31b1 : (((rd_T27 t138 t127).f2) != 2) = false := bne_eq_false_iff_eq.mpr c31
                    clear c31
                    by_cases c32 : a1_4 = 2
                    · rw [if_pos c32] at H
                      have c32b0 : (a1_4 == 2) = true := beq_iff_eq.mpr c32
                      have c32b1 : (a1_4 != 2) = false := bne_eq_false_iff_eq.mpr c32
                      clear c32
                      simp only [Option.some.injEq, Prod.mk.injEq] at H
                      obtain ⟨rfl, rfl⟩ := H
                      have hcz33_0 : wc.cell? ⟨gb124, 0, none⟩ = some (.int .u8 a1_0) := (blk_cell BK124.out 0).trans rfl
                      have hcz33_1 : wc.cell? ⟨gb124, 1, none⟩ = some (.int .u8 a1_1) := (blk_cell BK124.out 1).trans rfl
                      have hcz33_2 : wc.cell? ⟨gb124, 2, none⟩ = some (.int .u32 a1_2) := (blk_cell BK124.out 2).trans rfl
                      have hcz33_3 : wc.cell? ⟨gb124, 3, none⟩ = some (.int .u32 a1_3) := (blk_cell BK124.out 3).trans rfl
                      have hcz33_4 : wc.cell? ⟨gb124, 4, none⟩ = some (.int .i64 a1_4) := (blk_cell BK124.out 4).trans rfl
                      have hcz33_5 : wc.cell? ⟨gb124, 5, none⟩ = some (.int .u8 a1_5) := (blk_cell BK124.out 5).trans rfl
                      have hcz33_6 : wc.cell? ⟨gb124, 6, none⟩ = some (.int .u32 a1_6) := (blk_cell BK124.out 6).trans rfl
                      have hfz33_0 := blk_frozen BK124.out 0
                      have hfz33_1 := blk_frozen BK124.out 1
                      have hfz33_2 := blk_frozen BK124.out 2
                      have hfz33_3 := blk_frozen BK124.out 3
                      have hfz33_4 := blk_frozen BK124.out 4
                      have hfz33_5 := blk_frozen BK124.out 5
                      have hfz33_6 := blk_frozen BK124.out 6
                      try go_wp2_with (first | ((with_reducible refine gate_callee (f := 39) rfl ?_); refine goesL_ (some 23) rfl rfl Try.func39 (by kernel_rfl) rfl #[.slice A0 l0.length c0, .int .u8 a1_0, .func (.func 40) #[] #[]] rfl (by (try simp only [List.map_toArray, List.map_cons, List.map_nil]); first | done | rfl | (simp only [List.length_drop, List.length_take]; rfl)) ?_; (with_reducible refine (slices_BinarySearchFunc_Entry_uint8.calls _ _ l0 a1_0  t127 true _ ?side1 ?side2 A13.out).mono ?_); (case side1 => repeat (first | exact (Kd.C_below HR0.out HB.out) | (with_reducible refine Kd.C_alloc ?_ _) | (with_reducible refine Kd.C_drewN ?_ _) | (with_reducible refine Kd.C_drew ?_))); (case side2 => exact HC0.out); rintro e w34 ⟨rfl, hb⟩; refine ⟨_, rfl, ?_⟩; have n0_ := Aside0.mk (blk_below (g := gb124) (o := .cells #[.int .u8 a1_0, .int .u8 a1_1, .int .u32 a1_2, .int .u32 a1_3, .int .i64 a1_4, .int .u8 a1_5, .int .u32 a1_6] 27 (0, 0)) (by (with_reducible repeat (first | refine blk_drewN ?_ _ | refine blk_drew ?_ | refine blk_alloc ?_ _)); exact BK124.out) hb); have n1_ := Aside0.mk (below_step (by repeat (first | (with_reducible first | exact HB.out | apply below_alloc | apply pw_below_drewN | apply below_drew1 | refine below_set ?_ GE124.out) | exact HB.out)) hb); clear BK124; clear HB; have BK124 := n0_; have HB := n1_; clear n0_ n1_; (try clear hb); (try clear hb2); (try clear hk); (try clear hi)) | ((with_reducible refine gate_callee (f := 43) rfl ?_); refine goesL_ (some 35) rfl rfl Try.func43 (by kernel_rfl) rfl #[.slice A0 l0.length c0] rfl (by (try simp only [List.map_toArray, List.map_cons, List.map_nil]); first | done | rfl | (simp only [List.length_drop, List.length_take]; rfl)) ?_; (with_reducible refine (slices_Clone_Entry.calls _ _ l0 t138 _ ?side1 ?side2 A15.out).mono ?_); (case side1 => repeat (first | exact (Kd.C_below HR0.out HB.out) | (with_reducible refine Kd.C_alloc ?_ _) | (with_reducible refine Kd.C_drewN ?_ _) | (with_reducible refine Kd.C_drew ?_))); (case side2 => exact HC0.out); rintro e w35 ⟨v139, rfl, ho0, hb⟩; refine ⟨_, rfl, ?_⟩; have n0_ := Aside0.mk (Kd.R_lower (Kd.R_newB ho0 (g := gb124) (o := .cells #[.int .u8 a1_0, .int .u8 a1_1, .int .u32 a1_2, .int .u32 a1_3, .int .i64 a1_4, .int .u8 a1_5, .int .u32 a1_6] 27 (0, 0)) (by (with_reducible repeat (first | refine blk_drewN ?_ _ | refine blk_drew ?_ | refine blk_alloc ?_ _)); exact BK124.out)) (below_size (by repeat (first | (with_reducible first | exact HB.out | apply below_alloc | apply pw_below_drewN | apply below_drew1 | refine below_set ?_ GE124.out) | exact HB.out)))); have n1_ := Aside0.mk (blk_below (g := gb124) (o := .cells #[.int .u8 a1_0, .int .u8 a1_1, .int .u32 a1_2, .int .u32 a1_3, .int .i64 a1_4, .int .u8 a1_5, .int .u32 a1_6] 27 (0, 0)) (by (with_reducible repeat (first | refine blk_drewN ?_ _ | refine blk_drew ?_ | refine blk_alloc ?_ _)); exact BK124.out) hb); have n2_ := Aside0.mk (below_step (by repeat (first | (with_reducible first | exact HB.out | apply below_alloc | apply pw_below_drewN | apply below_drew1 | refine below_set ?_ GE124.out) | exact HB.out)) hb); clear BK124; clear HB; have HO140 := n0_; have BK124 := n1_; have HB := n2_; clear n0_ n1_ n2_; (try clear hb); (try clear hb2); (try clear hk); (try clear hi); (try clear ho0)))
                      have n0_ := Aside0.mk (Kd.R_drew HO140.out)
                      have n1_ := Aside0.mk (blk_drew BK124.out)
                      have n2_ := Aside0.mk (below_drew1 HB.out)
                      clear HO140
                      clear BK124
                      clear HB
                      have HO140 := n0_
                      have BK124 := n1_
                      have HB := n2_
                      clear n0_ n1_ n2_
                      obtain ⟨Ao37, co37, eo37⟩ := Kd.R_slice HO140.out
                      (first | subst eo37 | (injection eo37 with f1_ f2_ f3_; have f4_ := f1_.symm; have f5_ := f3_.symm; clear f1_ f2_ f3_; subst f4_; subst f5_))
                      have p141 : 0 ≤ (t127 : Int) := of_decide_eq_true (by first | (with_reducible assumption) | assumption)
                      have q141 : t127 < (t138.length : Int) := of_decide_eq_true (by first | (with_reducible assumption) | assumption)
                      obtain ⟨ad141, e141, hx141_0, hx141_1, hx141_2, hx141_3, hx141_4, hx141_5, hx141_6⟩ := at_T27 (Kd.R_reads' HO140.out).2.2 t127 p141 q141
                      cases e141
                      replace p141 := eq_true p141
                      replace q141 := eq_true q141
                      refine start_ (n := 9) (S := fun w' => w'.cell? ⟨gb124, 0, none⟩ = some (.int .u8 a1_0) ∧ w'.cell? ⟨gb124, 1, none⟩ = some (.int .u8 a1_1) ∧ w'.cell? ⟨gb124, 2, none⟩ = some (.int .u32 a1_2) ∧ w'.cell? ⟨gb124, 3, none⟩ = some (.int .u32 a1_3) ∧ w'.cell? ⟨gb124, 4, none⟩ = some (.int .i64 a1_4) ∧ w'.cell? ⟨gb124, 5, none⟩ = some (.int .u8 a1_5) ∧ w'.cell? ⟨gb124, 6, none⟩ = some (.int .u32 a1_6) ∧ w'.cell? (ad141.add ((t127).toNat * 7)) = some (.int .u8 ((rd_T27 t138 t127).f0)) ∧ w'.cell? ⟨(ad141.add ((t127).toNat * 7)).block, (ad141.add ((t127).toNat * 7)).off + 1, none⟩ = some (.int .u8 ((rd_T27 t138 t127).f1.f0)) ∧ w'.cell? ⟨(ad141.add ((t127).toNat * 7)).block, (ad141.add ((t127).toNat * 7)).off + 2, none⟩ = some (.int .u32 ((rd_T27 t138 t127).f1.f1)) ∧ w'.cell? ⟨(ad141.add ((t127).toNat * 7)).block, (ad141.add ((t127).toNat * 7)).off + 3, none⟩ = some (.int .u32 ((rd_T27 t138 t127).f1.f2)) ∧ w'.cell? ⟨(ad141.add ((t127).toNat * 7)).block, (ad141.add ((t127).toNat * 7)).off + 4, none⟩ = some (.int .i64 ((rd_T27 t138 t127).f2)) ∧ w'.cell? ⟨(ad141.add ((t127).toNat * 7)).block, (ad141.add ((t127).toNat * 7)).off + 5, none⟩ = some (.int .u8 ((rd_T27 t138 t127).f3)) ∧ w'.cell? ⟨(ad141.add ((t127).toNat * 7)).block, (ad141.add ((t127).toNat * 7)).off + 6, none⟩ = some (.int .u32 ((rd_T27 t138 t127).f4))) (ds := []) #[false, false, false, false, false, false, false, false, false] (by kernel_rfl) rfl rfl ⟨(blk_cell BK124.out 0).trans rfl, (blk_cell BK124.out 1).trans rfl, (blk_cell BK124.out 2).trans rfl, (blk_cell BK124.out 3).trans rfl, (blk_cell BK124.out 4).trans rfl, (blk_cell BK124.out 5).trans rfl, (blk_cell BK124.out 6).trans rfl, hx141_0, hx141_1, hx141_2, hx141_3, hx141_4, hx141_5, hx141_6⟩ (fun hHeld => ?_); refine with_tabW item_Take.tab7 item_Take.bits7 (fun HT_ HW_ => ?_)
                      generalize w35.drew = w36 at HO140 BK124 HB hx141_0 hx141_1 hx141_2 hx141_3 hx141_4 hx141_5 hx141_6 hHeld ⊢
                      refine pure_ (i := 0) (N := some 36) (v := ?_) (a' := ?_) #[true, false, false, false, false, false, false, false, false] rfl rfl (any_of HT_.out (by kernel_rfl)) (fun _ _ _ h => h) (Or.inl ⟨by rfl, ?_⟩) ?_ ?_
                      rotate_left
                      · intro w'
                        go_simp
                        with_reducible rfl
                      rotate_left
                      · simp only [Act.put, List.setIfInBounds_toArray, List.set_cons_zero, List.set_cons_succ, i64_w, i32_w]
                        rfl
                      refine pure_ (i := 1) (N := some 37) (v := ?_) (a' := ?_) #[true, true, false, false, false, false, false, false, false] rfl rfl (any_of HT_.out (by kernel_rfl)) (fun _ _ _ h => h) (Or.inl ⟨by rfl, ?_⟩) ?_ ?_
                      rotate_left
                      · intro w'
                        go_simp
                        with_reducible rfl
                      rotate_left
                      · simp only [Act.put, List.setIfInBounds_toArray, List.set_cons_zero, List.set_cons_succ, i64_w, i32_w]
                        rfl
                      refine pure_ (i := 2) (N := some 38) (v := ?_) (a' := ?_) #[true, true, true, false, false, false, false, false, false] rfl rfl (any_of HT_.out (by kernel_rfl)) (fun _ _ _ h => h) (Or.inl ⟨by rfl, ?_⟩) ?_ ?_
                      rotate_left
                      · intro w'
                        go_simp
                        with_reducible rfl
                      rotate_left
                      · simp only [Act.put, List.setIfInBounds_toArray, List.set_cons_zero, List.set_cons_succ, i64_w, i32_w]
                        rfl
                      refine pure_ (i := 3) (N := some 39) (v := ?_) (a' := ?_) #[true, true, true, true, false, false, false, false, false] rfl rfl (any_of HT_.out (by kernel_rfl)) (fun _ _ _ h => h) (Or.inl ⟨by rfl, ?_⟩) ?_ ?_
                      rotate_left
                      · intro w'
                        go_simp
                        with_reducible rfl
                      rotate_left
                      · simp only [Act.put, List.setIfInBounds_toArray, List.set_cons_zero, List.set_cons_succ, i64_w, i32_w]
                        rfl
                      refine pure_ (i := 5) (N := some 41) (v := ?_) (a' := ?_) #[true, true, true, true, false, true, false, false, false] rfl rfl (any_of HT_.out (by kernel_rfl)) (fun _ _ _ h => h) (Or.inl ⟨by rfl, ?_⟩) ?_ ?_
                      rotate_left
                      · intro w'
                        go_simp
                        with_reducible rfl
                      rotate_left
                      · simp only [Act.put, List.setIfInBounds_toArray, List.set_cons_zero, List.set_cons_succ, i64_w, i32_w]
                        rfl
                      refine take_ (i := 4) (N := some 40) (v := ?_) (a' := ?_) #[true, true, true, true, true, true, false, false, false] rfl rfl (take_ofW HT_.out HW_.out (by kernel_rfl)) (fun _ _ _ h => h) (Or.inl ⟨by rfl, ?_⟩) hHeld ?_ ?_
                      rotate_left
                      · rintro w' ⟨s0, s1, s2, s3, s4, s5, s6, s7, s8, s9, s10, s11, s12, s13⟩
                        go_simp
                        with_reducible rfl
                      rotate_left
                      · simp only [Act.put, List.setIfInBounds_toArray, List.set_cons_zero, List.set_cons_succ, i64_w, i32_w]
                        rfl
                      refine take_ (i := 6) (N := some 42) (v := ?_) (a' := ?_) #[true, true, true, true, true, true, true, false, false] rfl rfl (take_ofW HT_.out HW_.out (by kernel_rfl)) (fun _ _ _ h => h) (Or.inl ⟨by rfl, ?_⟩) hHeld ?_ ?_
                      rotate_left
                      · rintro w' ⟨s0, s1, s2, s3, s4, s5, s6, s7, s8, s9, s10, s11, s12, s13⟩
                        go_simp
                        with_reducible rfl
                      rotate_left
                      · simp only [Act.put, List.setIfInBounds_toArray, List.set_cons_zero, List.set_cons_succ, i64_w, i32_w]
                        rfl
                      refine one_ (i := 7) (N := some 43) #[true, true, true, true, true, true, true, true, false] rfl rfl (one_of HT_.out (by kernel_rfl)) (by decide) (fun K hK => ?_)
                      refine goes_ Try.func14 (by kernel_rfl) rfl #[.agg #[.int .u8 ((rd_T27 t138 t127).f1.f0), .int .u32 ((rd_T27 t138 t127).f1.f1), .int .u32 ((rd_T27 t138 t127).f1.f2)], .agg #[.int .u8 a1_1, .int .u32 a1_2, .int .u32 a1_3]] (by rfl) rfl rfl (by (try simp only [List.map_toArray, List.map_cons, List.map_nil]); first | done | rfl | (simp only [List.length_drop, List.length_take]; rfl)) ?_
                      with_reducible refine (item_Cmp.calls kj2 ((rd_T27 t138 t127).f1.f0) ((rd_T27 t138 t127).f1.f1) ((rd_T27 t138 t127).f1.f2) a1_1 a1_2 a1_3 t142 _ A18.out).mono ?_
                      rintro e w38 ⟨rfl, hb⟩
                      have HS7_ := (hb.cell (World.block_lt_of_cell? _ _ (hHeld.2.2.2.2.2.2.2.1))).trans (hHeld.2.2.2.2.2.2.2.1)
                      have HS8_ := (hb.cell (World.block_lt_of_cell? _ _ (hHeld.2.2.2.2.2.2.2.2.1))).trans (hHeld.2.2.2.2.2.2.2.2.1)
                      have HS9_ := (hb.cell (World.block_lt_of_cell? _ _ (hHeld.2.2.2.2.2.2.2.2.2.1))).trans (hHeld.2.2.2.2.2.2.2.2.2.1)
                      have HS10_ := (hb.cell (World.block_lt_of_cell? _ _ (hHeld.2.2.2.2.2.2.2.2.2.2.1))).trans (hHeld.2.2.2.2.2.2.2.2.2.2.1)
                      have HS11_ := (hb.cell (World.block_lt_of_cell? _ _ (hHeld.2.2.2.2.2.2.2.2.2.2.2.1))).trans (hHeld.2.2.2.2.2.2.2.2.2.2.2.1)
                      have HS12_ := (hb.cell (World.block_lt_of_cell? _ _ (hHeld.2.2.2.2.2.2.2.2.2.2.2.2.1))).trans (hHeld.2.2.2.2.2.2.2.2.2.2.2.2.1)
                      have HS13_ := (hb.cell (World.block_lt_of_cell? _ _ (hHeld.2.2.2.2.2.2.2.2.2.2.2.2.2))).trans (hHeld.2.2.2.2.2.2.2.2.2.2.2.2.2)
                      refine ⟨_, rfl, ?_⟩
                      have n0_ := Aside0.mk (Kd.R_below (by (with_reducible repeat (first | apply Kd.R_alloc | apply Kd.R_drewN | apply Kd.R_drew)); exact HO140.out) hb)
                      have n1_ := Aside0.mk (blk_below (g := gb124) (o := .cells #[.int .u8 a1_0, .int .u8 a1_1, .int .u32 a1_2, .int .u32 a1_3, .int .i64 a1_4, .int .u8 a1_5, .int .u32 a1_6] 27 (0, 0)) (by (with_reducible repeat (first | refine blk_drewN ?_ _ | refine blk_drew ?_ | refine blk_alloc ?_ _)); exact BK124.out) hb)
                      have n2_ := Aside0.mk (below_step (by repeat (first | (with_reducible first | exact HB.out | apply below_alloc | apply pw_below_drewN | apply below_drew1 | refine below_set ?_ GE124.out) | exact HB.out)) hb)
                      clear HO140
                      clear BK124
                      clear HB
                      have HO140 := n0_
                      have BK124 := n1_
                      have HB := n2_
                      clear n0_ n1_ n2_
                      (try clear hb)
                      (try clear hb2)
                      (try clear hk)
                      (try clear hi)
                      refine hK.out _ _ ⟨(blk_cell BK124.out 0).trans rfl, (blk_cell BK124.out 1).trans rfl, (blk_cell BK124.out 2).trans rfl, (blk_cell BK124.out 3).trans rfl, (blk_cell BK124.out 4).trans rfl, (blk_cell BK124.out 5).trans rfl, (blk_cell BK124.out 6).trans rfl, HS7_, HS8_, HS9_, HS10_, HS11_, HS12_, HS13_⟩ (fun hHeld => ?_)
                      clear hK K
                      refine norm_ (a' := ?_) ?_ ?_
                      rotate_left
                      · show Act.put _ (some 43) _ = _
                        simp only [Act.put, List.setIfInBounds_toArray, List.set_cons_zero, List.set_cons_succ, i64_w, i32_w]
                        rfl
                      refine pure_ (i := 8) (N := some 9) (v := ?_) (a' := ?_) #[true, true, true, true, true, true, true, true, true] rfl rfl (any_of HT_.out (by kernel_rfl)) (fun _ _ _ h => h) (Or.inl ⟨by rfl, ?_⟩) ?_ ?_
                      rotate_left
                      · intro w'
                        go_simp
                        with_reducible rfl
                      rotate_left
                      · simp only [Act.put, List.setIfInBounds_toArray, List.set_cons_zero, List.set_cons_succ, i64_w, i32_w]
                        rfl
                      refine done_ (done_of HT_.out (by kernel_rfl)) ?_
                      have p144 : 0 ≤ (t127 : Int) := of_decide_eq_true (by first | (with_reducible assumption) | assumption)
                      have q144 : t127 < (t138.length : Int) := of_decide_eq_true (by first | (with_reducible assumption) | assumption)
                      obtain ⟨ad144, e144, hx144_0, hx144_1, hx144_2, hx144_3, hx144_4, hx144_5, hx144_6⟩ := at_T27 (Kd.R_reads' HO140.out).2.2 t127 p144 q144
                      obtain rfl : ad141 = ad144 := (by injection e144)
                      replace p144 := eq_true p144
                      replace q144 := eq_true q144
                      have hcz39_0 : w38.cell? ⟨gb124, 0, none⟩ = some (.int .u8 a1_0) := (blk_cell BK124.out 0).trans rfl
                      have hcz39_1 : w38.cell? ⟨gb124, 1, none⟩ = some (.int .u8 a1_1) := (blk_cell BK124.out 1).trans rfl
                      have hcz39_2 : w38.cell? ⟨gb124, 2, none⟩ = some (.int .u32 a1_2) := (blk_cell BK124.out 2).trans rfl
                      have hcz39_3 : w38.cell? ⟨gb124, 3, none⟩ = some (.int .u32 a1_3) := (blk_cell BK124.out 3).trans rfl
                      have hcz39_4 : w38.cell? ⟨gb124, 4, none⟩ = some (.int .i64 a1_4) := (blk_cell BK124.out 4).trans rfl
                      have hcz39_5 : w38.cell? ⟨gb124, 5, none⟩ = some (.int .u8 a1_5) := (blk_cell BK124.out 5).trans rfl
                      have hcz39_6 : w38.cell? ⟨gb124, 6, none⟩ = some (.int .u32 a1_6) := (blk_cell BK124.out 6).trans rfl
                      have hfz39_0 := blk_frozen BK124.out 0
                      have hfz39_1 := blk_frozen BK124.out 1
                      have hfz39_2 := blk_frozen BK124.out 2
                      have hfz39_3 := blk_frozen BK124.out 3
                      have hfz39_4 := blk_frozen BK124.out 4
                      have hfz39_5 := blk_frozen BK124.out 5
                      have hfz39_6 := blk_frozen BK124.out 6
                      try go_wp2
                      go_ret2
                      exact ⟨_, by first | rfl | (simp [errW_none, errW_some] <;> rfl) | (simp [*, errW_none, errW_some] <;> rfl), by (with_reducible repeat (first | apply Kd.R_alloc | apply Kd.R_drewN | apply Kd.R_drew)); exact Kd.R_mono HO140.out (fun _ hk => trivial), by repeat (first | (with_reducible first | exact HB.out | apply below_alloc | apply pw_below_drewN | apply below_drew1 | refine below_set ?_ GE124.out) | exact HB.out)⟩
                    · rw [if_neg c32] at H
                      have c32b0 : (a1_4 == 2) = false := beq_eq_false_iff_ne.mpr c32
                      have c32b1 : (a1_4 != 2) = true := bne_iff_ne.mpr c32
                      obtain ⟨y145, hy145⟩ : ∃ y_ : List (S27), y_ = (t138.set (t127 : Int).toNat (⟨a1_0, (⟨a1_1, a1_2, a1_3⟩ : S25), a1_4, a1_5, a1_6⟩ : S27)) := ⟨_, rfl⟩
                      replace H : (some (y145, none)) = some (r1, r2) := by first | (rw [hy145]; with_reducible exact H) | (have H2_ := (Option.bind_some _ _).symm.trans H; rw [hy145]; with_reducible exact H2_) | (have H2_ := (Option.bind_some _ _).symm.trans H; with_reducible exact H2_) | with_reducible exact H | (rw [hy145]; exact H) | exact H
                      have Ny145 := Aside0.mk hy145
                      clear hy145
                      simp only [Option.some.injEq, Prod.mk.injEq] at H
                      obtain ⟨rfl, rfl⟩ := H
                      have hcz41_0 : wc.cell? ⟨gb124, 0, none⟩ = some (.int .u8 a1_0) := (blk_cell BK124.out 0).trans rfl
                      have hcz41_1 : wc.cell? ⟨gb124, 1, none⟩ = some (.int .u8 a1_1) := (blk_cell BK124.out 1).trans rfl
                      have hcz41_2 : wc.cell? ⟨gb124, 2, none⟩ = some (.int .u32 a1_2) := (blk_cell BK124.out 2).trans rfl
                      have hcz41_3 : wc.cell? ⟨gb124, 3, none⟩ = some (.int .u32 a1_3) := (blk_cell BK124.out 3).trans rfl
                      have hcz41_4 : wc.cell? ⟨gb124, 4, none⟩ = some (.int .i64 a1_4) := (blk_cell BK124.out 4).trans rfl
                      have hcz41_5 : wc.cell? ⟨gb124, 5, none⟩ = some (.int .u8 a1_5) := (blk_cell BK124.out 5).trans rfl
                      have hcz41_6 : wc.cell? ⟨gb124, 6, none⟩ = some (.int .u32 a1_6) := (blk_cell BK124.out 6).trans rfl
                      have hfz41_0 := blk_frozen BK124.out 0
                      have hfz41_1 := blk_frozen BK124.out 1
                      have hfz41_2 := blk_frozen BK124.out 2
                      have hfz41_3 := blk_frozen BK124.out 3
                      have hfz41_4 := blk_frozen BK124.out 4
                      have hfz41_5 := blk_frozen BK124.out 5
                      have hfz41_6 := blk_frozen BK124.out 6
                      try go_wp2_with (first | ((with_reducible refine gate_callee (f := 39) rfl ?_); refine goesL_ (some 23) rfl rfl Try.func39 (by kernel_rfl) rfl #[.slice A0 l0.length c0, .int .u8 a1_0, .func (.func 40) #[] #[]] rfl (by (try simp only [List.map_toArray, List.map_cons, List.map_nil]); first | done | rfl | (simp only [List.length_drop, List.length_take]; rfl)) ?_; (with_reducible refine (slices_BinarySearchFunc_Entry_uint8.calls _ _ l0 a1_0  t127 true _ ?side1 ?side2 A13.out).mono ?_); (case side1 => repeat (first | exact (Kd.C_below HR0.out HB.out) | (with_reducible refine Kd.C_alloc ?_ _) | (with_reducible refine Kd.C_drewN ?_ _) | (with_reducible refine Kd.C_drew ?_))); (case side2 => exact HC0.out); rintro e w42 ⟨rfl, hb⟩; refine ⟨_, rfl, ?_⟩; have n0_ := Aside0.mk (blk_below (g := gb124) (o := .cells #[.int .u8 a1_0, .int .u8 a1_1, .int .u32 a1_2, .int .u32 a1_3, .int .i64 a1_4, .int .u8 a1_5, .int .u32 a1_6] 27 (0, 0)) (by (with_reducible repeat (first | refine blk_drewN ?_ _ | refine blk_drew ?_ | refine blk_alloc ?_ _)); exact BK124.out) hb); have n1_ := Aside0.mk (below_step (by repeat (first | (with_reducible first | exact HB.out | apply below_alloc | apply pw_below_drewN | apply below_drew1 | refine below_set ?_ GE124.out) | exact HB.out)) hb); clear BK124; clear HB; have BK124 := n0_; have HB := n1_; clear n0_ n1_; (try clear hb); (try clear hb2); (try clear hk); (try clear hi)) | ((with_reducible refine gate_callee (f := 43) rfl ?_); refine goesL_ (some 35) rfl rfl Try.func43 (by kernel_rfl) rfl #[.slice A0 l0.length c0] rfl (by (try simp only [List.map_toArray, List.map_cons, List.map_nil]); first | done | rfl | (simp only [List.length_drop, List.length_take]; rfl)) ?_; (with_reducible refine (slices_Clone_Entry.calls _ _ l0 t138 _ ?side1 ?side2 A15.out).mono ?_); (case side1 => repeat (first | exact (Kd.C_below HR0.out HB.out) | (with_reducible refine Kd.C_alloc ?_ _) | (with_reducible refine Kd.C_drewN ?_ _) | (with_reducible refine Kd.C_drew ?_))); (case side2 => exact HC0.out); rintro e w43 ⟨v139, rfl, ho0, hb⟩; refine ⟨_, rfl, ?_⟩; have n0_ := Aside0.mk (Kd.R_lower (Kd.R_newB ho0 (g := gb124) (o := .cells #[.int .u8 a1_0, .int .u8 a1_1, .int .u32 a1_2, .int .u32 a1_3, .int .i64 a1_4, .int .u8 a1_5, .int .u32 a1_6] 27 (0, 0)) (by (with_reducible repeat (first | refine blk_drewN ?_ _ | refine blk_drew ?_ | refine blk_alloc ?_ _)); exact BK124.out)) (below_size (by repeat (first | (with_reducible first | exact HB.out | apply below_alloc | apply pw_below_drewN | apply below_drew1 | refine below_set ?_ GE124.out) | exact HB.out)))); have n1_ := Aside0.mk (blk_below (g := gb124) (o := .cells #[.int .u8 a1_0, .int .u8 a1_1, .int .u32 a1_2, .int .u32 a1_3, .int .i64 a1_4, .int .u8 a1_5, .int .u32 a1_6] 27 (0, 0)) (by (with_reducible repeat (first | refine blk_drewN ?_ _ | refine blk_drew ?_ | refine blk_alloc ?_ _)); exact BK124.out) hb); have n2_ := Aside0.mk (below_step (by repeat (first | (with_reducible first | exact HB.out | apply below_alloc | apply pw_below_drewN | apply below_drew1 | refine below_set ?_ GE124.out) | exact HB.out)) hb); clear BK124; clear HB; have HO140 := n0_; have BK124 := n1_; have HB := n2_; clear n0_ n1_ n2_; (try clear hb); (try clear hb2); (try clear hk); (try clear hi); (try clear ho0)))
                      have n0_ := Aside0.mk (Kd.R_drew HO140.out)
                      have n1_ := Aside0.mk (blk_drew BK124.out)
                      have n2_ := Aside0.mk (below_drew1 HB.out)
                      clear HO140
                      clear BK124
                      clear HB
                      have HO140 := n0_
                      have BK124 := n1_
                      have HB := n2_
                      clear n0_ n1_ n2_
                      obtain ⟨Ao45, co45, eo45⟩ := Kd.R_slice HO140.out
                      (first | subst eo45 | (injection eo45 with f1_ f2_ f3_; have f4_ := f1_.symm; have f5_ := f3_.symm; clear f1_ f2_ f3_; subst f4_; subst f5_))
                      have p141 : 0 ≤ (t127 : Int) := of_decide_eq_true (by first | (with_reducible assumption) | assumption)
                      have q141 : t127 < (t138.length : Int) := of_decide_eq_true (by first | (with_reducible assumption) | assumption)
                      obtain ⟨ad141, e141, hx141_0, hx141_1, hx141_2, hx141_3, hx141_4, hx141_5, hx141_6⟩ := at_T27 (Kd.R_reads' HO140.out).2.2 t127 p141 q141
                      cases e141
                      replace p141 := eq_true p141
                      replace q141 := eq_true q141
                      refine start_ (n := 9) (S := fun w' => w'.cell? ⟨gb124, 0, none⟩ = some (.int .u8 a1_0) ∧ w'.cell? ⟨gb124, 1, none⟩ = some (.int .u8 a1_1) ∧ w'.cell? ⟨gb124, 2, none⟩ = some (.int .u32 a1_2) ∧ w'.cell? ⟨gb124, 3, none⟩ = some (.int .u32 a1_3) ∧ w'.cell? ⟨gb124, 4, none⟩ = some (.int .i64 a1_4) ∧ w'.cell? ⟨gb124, 5, none⟩ = some (.int .u8 a1_5) ∧ w'.cell? ⟨gb124, 6, none⟩ = some (.int .u32 a1_6) ∧ w'.cell? (ad141.add ((t127).toNat * 7)) = some (.int .u8 ((rd_T27 t138 t127).f0)) ∧ w'.cell? ⟨(ad141.add ((t127).toNat * 7)).block, (ad141.add ((t127).toNat * 7)).off + 1, none⟩ = some (.int .u8 ((rd_T27 t138 t127).f1.f0)) ∧ w'.cell? ⟨(ad141.add ((t127).toNat * 7)).block, (ad141.add ((t127).toNat * 7)).off + 2, none⟩ = some (.int .u32 ((rd_T27 t138 t127).f1.f1)) ∧ w'.cell? ⟨(ad141.add ((t127).toNat * 7)).block, (ad141.add ((t127).toNat * 7)).off + 3, none⟩ = some (.int .u32 ((rd_T27 t138 t127).f1.f2)) ∧ w'.cell? ⟨(ad141.add ((t127).toNat * 7)).block, (ad141.add ((t127).toNat * 7)).off + 4, none⟩ = some (.int .i64 ((rd_T27 t138 t127).f2)) ∧ w'.cell? ⟨(ad141.add ((t127).toNat * 7)).block, (ad141.add ((t127).toNat * 7)).off + 5, none⟩ = some (.int .u8 ((rd_T27 t138 t127).f3)) ∧ w'.cell? ⟨(ad141.add ((t127).toNat * 7)).block, (ad141.add ((t127).toNat * 7)).off + 6, none⟩ = some (.int .u32 ((rd_T27 t138 t127).f4))) (ds := []) #[false, false, false, false, false, false, false, false, false] (by kernel_rfl) rfl rfl ⟨(blk_cell BK124.out 0).trans rfl, (blk_cell BK124.out 1).trans rfl, (blk_cell BK124.out 2).trans rfl, (blk_cell BK124.out 3).trans rfl, (blk_cell BK124.out 4).trans rfl, (blk_cell BK124.out 5).trans rfl, (blk_cell BK124.out 6).trans rfl, hx141_0, hx141_1, hx141_2, hx141_3, hx141_4, hx141_5, hx141_6⟩ (fun hHeld => ?_); refine with_tabW item_Take.tab7 item_Take.bits7 (fun HT_ HW_ => ?_)
                      generalize w43.drew = w44 at HO140 BK124 HB hx141_0 hx141_1 hx141_2 hx141_3 hx141_4 hx141_5 hx141_6 hHeld ⊢
                      refine pure_ (i := 0) (N := some 36) (v := ?_) (a' := ?_) #[true, false, false, false, false, false, false, false, false] rfl rfl (any_of HT_.out (by kernel_rfl)) (fun _ _ _ h => h) (Or.inl ⟨by rfl, ?_⟩) ?_ ?_
                      rotate_left
                      · intro w'
                        go_simp
                        with_reducible rfl
                      rotate_left
                      · simp only [Act.put, List.setIfInBounds_toArray, List.set_cons_zero, List.set_cons_succ, i64_w, i32_w]
                        rfl
                      refine pure_ (i := 1) (N := some 37) (v := ?_) (a' := ?_) #[true, true, false, false, false, false, false, false, false] rfl rfl (any_of HT_.out (by kernel_rfl)) (fun _ _ _ h => h) (Or.inl ⟨by rfl, ?_⟩) ?_ ?_
                      rotate_left
                      · intro w'
                        go_simp
                        with_reducible rfl
                      rotate_left
                      · simp only [Act.put, List.setIfInBounds_toArray, List.set_cons_zero, List.set_cons_succ, i64_w, i32_w]
                        rfl
                      refine pure_ (i := 2) (N := some 38) (v := ?_) (a' := ?_) #[true, true, true, false, false, false, false, false, false] rfl rfl (any_of HT_.out (by kernel_rfl)) (fun _ _ _ h => h) (Or.inl ⟨by rfl, ?_⟩) ?_ ?_
                      rotate_left
                      · intro w'
                        go_simp
                        with_reducible rfl
                      rotate_left
                      · simp only [Act.put, List.setIfInBounds_toArray, List.set_cons_zero, List.set_cons_succ, i64_w, i32_w]
                        rfl
                      refine pure_ (i := 3) (N := some 39) (v := ?_) (a' := ?_) #[true, true, true, true, false, false, false, false, false] rfl rfl (any_of HT_.out (by kernel_rfl)) (fun _ _ _ h => h) (Or.inl ⟨by rfl, ?_⟩) ?_ ?_
                      rotate_left
                      · intro w'
                        go_simp
                        with_reducible rfl
                      rotate_left
                      · simp only [Act.put, List.setIfInBounds_toArray, List.set_cons_zero, List.set_cons_succ, i64_w, i32_w]
                        rfl
                      refine pure_ (i := 5) (N := some 41) (v := ?_) (a' := ?_) #[true, true, true, true, false, true, false, false, false] rfl rfl (any_of HT_.out (by kernel_rfl)) (fun _ _ _ h => h) (Or.inl ⟨by rfl, ?_⟩) ?_ ?_
                      rotate_left
                      · intro w'
                        go_simp
                        with_reducible rfl
                      rotate_left
                      · simp only [Act.put, List.setIfInBounds_toArray, List.set_cons_zero, List.set_cons_succ, i64_w, i32_w]
                        rfl
                      refine take_ (i := 4) (N := some 40) (v := ?_) (a' := ?_) #[true, true, true, true, true, true, false, false, false] rfl rfl (take_ofW HT_.out HW_.out (by kernel_rfl)) (fun _ _ _ h => h) (Or.inl ⟨by rfl, ?_⟩) hHeld ?_ ?_
                      rotate_left
                      · rintro w' ⟨s0, s1, s2, s3, s4, s5, s6, s7, s8, s9, s10, s11, s12, s13⟩
                        go_simp
                        with_reducible rfl
                      rotate_left
                      · simp only [Act.put, List.setIfInBounds_toArray, List.set_cons_zero, List.set_cons_succ, i64_w, i32_w]
                        rfl
                      refine take_ (i := 6) (N := some 42) (v := ?_) (a' := ?_) #[true, true, true, true, true, true, true, false, false] rfl rfl (take_ofW HT_.out HW_.out (by kernel_rfl)) (fun _ _ _ h => h) (Or.inl ⟨by rfl, ?_⟩) hHeld ?_ ?_
                      rotate_left
                      · rintro w' ⟨s0, s1, s2, s3, s4, s5, s6, s7, s8, s9, s10, s11, s12, s13⟩
                        go_simp
                        with_reducible rfl
                      rotate_left
                      · simp only [Act.put, List.setIfInBounds_toArray, List.set_cons_zero, List.set_cons_succ, i64_w, i32_w]
                        rfl
                      refine one_ (i := 7) (N := some 43) #[true, true, true, true, true, true, true, true, false] rfl rfl (one_of HT_.out (by kernel_rfl)) (by decide) (fun K hK => ?_)
                      refine goes_ Try.func14 (by kernel_rfl) rfl #[.agg #[.int .u8 ((rd_T27 t138 t127).f1.f0), .int .u32 ((rd_T27 t138 t127).f1.f1), .int .u32 ((rd_T27 t138 t127).f1.f2)], .agg #[.int .u8 a1_1, .int .u32 a1_2, .int .u32 a1_3]] (by rfl) rfl rfl (by (try simp only [List.map_toArray, List.map_cons, List.map_nil]); first | done | rfl | (simp only [List.length_drop, List.length_take]; rfl)) ?_
                      with_reducible refine (item_Cmp.calls kj2 ((rd_T27 t138 t127).f1.f0) ((rd_T27 t138 t127).f1.f1) ((rd_T27 t138 t127).f1.f2) a1_1 a1_2 a1_3 t142 _ A18.out).mono ?_
                      rintro e w46 ⟨rfl, hb⟩
                      have HS7_ := (hb.cell (World.block_lt_of_cell? _ _ (hHeld.2.2.2.2.2.2.2.1))).trans (hHeld.2.2.2.2.2.2.2.1)
                      have HS8_ := (hb.cell (World.block_lt_of_cell? _ _ (hHeld.2.2.2.2.2.2.2.2.1))).trans (hHeld.2.2.2.2.2.2.2.2.1)
                      have HS9_ := (hb.cell (World.block_lt_of_cell? _ _ (hHeld.2.2.2.2.2.2.2.2.2.1))).trans (hHeld.2.2.2.2.2.2.2.2.2.1)
                      have HS10_ := (hb.cell (World.block_lt_of_cell? _ _ (hHeld.2.2.2.2.2.2.2.2.2.2.1))).trans (hHeld.2.2.2.2.2.2.2.2.2.2.1)
                      have HS11_ := (hb.cell (World.block_lt_of_cell? _ _ (hHeld.2.2.2.2.2.2.2.2.2.2.2.1))).trans (hHeld.2.2.2.2.2.2.2.2.2.2.2.1)
                      have HS12_ := (hb.cell (World.block_lt_of_cell? _ _ (hHeld.2.2.2.2.2.2.2.2.2.2.2.2.1))).trans (hHeld.2.2.2.2.2.2.2.2.2.2.2.2.1)
                      have HS13_ := (hb.cell (World.block_lt_of_cell? _ _ (hHeld.2.2.2.2.2.2.2.2.2.2.2.2.2))).trans (hHeld.2.2.2.2.2.2.2.2.2.2.2.2.2)
                      refine ⟨_, rfl, ?_⟩
                      have n0_ := Aside0.mk (Kd.R_below (by (with_reducible repeat (first | apply Kd.R_alloc | apply Kd.R_drewN | apply Kd.R_drew)); exact HO140.out) hb)
                      have n1_ := Aside0.mk (blk_below (g := gb124) (o := .cells #[.int .u8 a1_0, .int .u8 a1_1, .int .u32 a1_2, .int .u32 a1_3, .int .i64 a1_4, .int .u8 a1_5, .int .u32 a1_6] 27 (0, 0)) (by (with_reducible repeat (first | refine blk_drewN ?_ _ | refine blk_drew ?_ | refine blk_alloc ?_ _)); exact BK124.out) hb)
                      have n2_ := Aside0.mk (below_step (by repeat (first | (with_reducible first | exact HB.out | apply below_alloc | apply pw_below_drewN | apply below_drew1 | refine below_set ?_ GE124.out) | exact HB.out)) hb)
                      clear HO140
                      clear BK124
                      clear HB
                      have HO140 := n0_
                      have BK124 := n1_
                      have HB := n2_
                      clear n0_ n1_ n2_
                      (try clear hb)
                      (try clear hb2)
                      (try clear hk)
                      (try clear hi)
                      refine hK.out _ _ ⟨(blk_cell BK124.out 0).trans rfl, (blk_cell BK124.out 1).trans rfl, (blk_cell BK124.out 2).trans rfl, (blk_cell BK124.out 3).trans rfl, (blk_cell BK124.out 4).trans rfl, (blk_cell BK124.out 5).trans rfl, (blk_cell BK124.out 6).trans rfl, HS7_, HS8_, HS9_, HS10_, HS11_, HS12_, HS13_⟩ (fun hHeld => ?_)
                      clear hK K
                      refine norm_ (a' := ?_) ?_ ?_
                      rotate_left
                      · show Act.put _ (some 43) _ = _
                        simp only [Act.put, List.setIfInBounds_toArray, List.set_cons_zero, List.set_cons_succ, i64_w, i32_w]
                        rfl
                      refine pure_ (i := 8) (N := some 9) (v := ?_) (a' := ?_) #[true, true, true, true, true, true, true, true, true] rfl rfl (any_of HT_.out (by kernel_rfl)) (fun _ _ _ h => h) (Or.inl ⟨by rfl, ?_⟩) ?_ ?_
                      rotate_left
                      · intro w'
                        go_simp
                        with_reducible rfl
                      rotate_left
                      · simp only [Act.put, List.setIfInBounds_toArray, List.set_cons_zero, List.set_cons_succ, i64_w, i32_w]
                        rfl
                      refine done_ (done_of HT_.out (by kernel_rfl)) ?_
                      have p144 : 0 ≤ (t127 : Int) := of_decide_eq_true (by first | (with_reducible assumption) | assumption)
                      have q144 : t127 < (t138.length : Int) := of_decide_eq_true (by first | (with_reducible assumption) | assumption)
                      obtain ⟨ad144, e144, hx144_0, hx144_1, hx144_2, hx144_3, hx144_4, hx144_5, hx144_6⟩ := at_T27 (Kd.R_reads' HO140.out).2.2 t127 p144 q144
                      obtain rfl : ad141 = ad144 := (by injection e144)
                      replace p144 := eq_true p144
                      replace q144 := eq_true q144
                      have hcz47_0 : w46.cell? ⟨gb124, 0, none⟩ = some (.int .u8 a1_0) := (blk_cell BK124.out 0).trans rfl
                      have hcz47_1 : w46.cell? ⟨gb124, 1, none⟩ = some (.int .u8 a1_1) := (blk_cell BK124.out 1).trans rfl
                      have hcz47_2 : w46.cell? ⟨gb124, 2, none⟩ = some (.int .u32 a1_2) := (blk_cell BK124.out 2).trans rfl
                      have hcz47_3 : w46.cell? ⟨gb124, 3, none⟩ = some (.int .u32 a1_3) := (blk_cell BK124.out 3).trans rfl
                      have hcz47_4 : w46.cell? ⟨gb124, 4, none⟩ = some (.int .i64 a1_4) := (blk_cell BK124.out 4).trans rfl
                      have hcz47_5 : w46.cell? ⟨gb124, 5, none⟩ = some (.int .u8 a1_5) := (blk_cell BK124.out 5).trans rfl
                      have hcz47_6 : w46.cell? ⟨gb124, 6, none⟩ = some (.int .u32 a1_6) := (blk_cell BK124.out 6).trans rfl
                      have hfz47_0 := blk_frozen BK124.out 0
                      have hfz47_1 := blk_frozen BK124.out 1
                      have hfz47_2 := blk_frozen BK124.out 2
                      have hfz47_3 := blk_frozen BK124.out 3
                      have hfz47_4 := blk_frozen BK124.out 4
                      have hfz47_5 := blk_frozen BK124.out 5
                      have hfz47_6 := blk_frozen BK124.out 6
                      have p40 : 0 ≤ (t127 : Int) := of_decide_eq_true (by first | (with_reducible assumption) | assumption)
                      have q40 : (t127 : Int) < ((t138.length : Int) : Int) := of_decide_eq_true (by first | (with_reducible assumption) | assumption)
                      obtain ⟨go40, co40, eo40, gb40, gl40, cl40, HG40⟩ := Kd.R_form HO140.out (by omega)
                      (first | cases eo40 | (injection eo40 with ea_ en_ ec_; (first | subst ea_ | (injection ea_ with ea_; subst ea_)); subst ec_; clear en_))
                      have GB40 := Aside0.mk gb40
                      have GG40 := Aside0.mk HG40
                      clear gb40 gl40 HG40
                      (first | simp only [add_plain] at hx141_0 | skip)
                      (first | simp only [add_plain] at hx141_1 | skip)
                      (first | simp only [add_plain] at hx141_2 | skip)
                      (first | simp only [add_plain] at hx141_3 | skip)
                      (first | simp only [add_plain] at hx141_4 | skip)
                      (first | simp only [add_plain] at hx141_5 | skip)
                      (first | simp only [add_plain] at hx141_6 | skip)
                      (first | simp only [add_plain] at hx144_0 | skip)
                      (first | simp only [add_plain] at hx144_1 | skip)
                      (first | simp only [add_plain] at hx144_2 | skip)
                      (first | simp only [add_plain] at hx144_3 | skip)
                      (first | simp only [add_plain] at hx144_4 | skip)
                      (first | simp only [add_plain] at hx144_5 | skip)
                      (first | simp only [add_plain] at hx144_6 | skip)
                      obtain ⟨ce40, hcl40, hM40, hcc40, hfr40⟩ := Kd.R_elem HO140.out z27 (t127 : Int) p40 q40
                      obtain rfl := k27_openM hM40
                      have hx40_0 : w46.cell? ⟨go40, (t127 : Int).toNat * 7, none⟩ = some (.int .u8 ((rd_T27 t138 t127).f0)) := hcc40 0 _ rfl
                      have hx40_1 : w46.cell? ⟨go40, (t127 : Int).toNat * 7 + 1, none⟩ = some (.int .u8 ((rd_T27 t138 t127).f1.f0)) := hcc40 1 _ rfl
                      have hx40_2 : w46.cell? ⟨go40, (t127 : Int).toNat * 7 + 2, none⟩ = some (.int .u32 ((rd_T27 t138 t127).f1.f1)) := hcc40 2 _ rfl
                      have hx40_3 : w46.cell? ⟨go40, (t127 : Int).toNat * 7 + 3, none⟩ = some (.int .u32 ((rd_T27 t138 t127).f1.f2)) := hcc40 3 _ rfl
                      have hx40_4 : w46.cell? ⟨go40, (t127 : Int).toNat * 7 + 4, none⟩ = some (.int .i64 ((rd_T27 t138 t127).f2)) := hcc40 4 _ rfl
                      have hx40_5 : w46.cell? ⟨go40, (t127 : Int).toNat * 7 + 5, none⟩ = some (.int .u8 ((rd_T27 t138 t127).f3)) := hcc40 5 _ rfl
                      have hx40_6 : w46.cell? ⟨go40, (t127 : Int).toNat * 7 + 6, none⟩ = some (.int .u32 ((rd_T27 t138 t127).f4)) := hcc40 6 _ rfl
                      have hf40_0 : w46.frozen? ⟨go40, (t127 : Int).toNat * 7, none⟩ = false := hfr40 0
                      have hf40_1 : w46.frozen? ⟨go40, (t127 : Int).toNat * 7 + 1, none⟩ = false := hfr40 1
                      have hf40_2 : w46.frozen? ⟨go40, (t127 : Int).toNat * 7 + 2, none⟩ = false := hfr40 2
                      have hf40_3 : w46.frozen? ⟨go40, (t127 : Int).toNat * 7 + 3, none⟩ = false := hfr40 3
                      have hf40_4 : w46.frozen? ⟨go40, (t127 : Int).toNat * 7 + 4, none⟩ = false := hfr40 4
                      have hf40_5 : w46.frozen? ⟨go40, (t127 : Int).toNat * 7 + 5, none⟩ = false := hfr40 5
                      have hf40_6 : w46.frozen? ⟨go40, (t127 : Int).toNat * 7 + 6, none⟩ = false := hfr40 6
                      clear hcl40 hcc40 hfr40 hM40
                      replace p40 := eq_true p40
                      replace q40 := eq_true q40
                      have n_ := Aside0.mk (Kd.R_mono (ok' := (fun k_ => k_ ≠ gb124)) HO140.out (fun k_ hk => hk.2))
                      clear HO140
                      have HO140 := n_
                      clear n_
                      have HX48 := Aside0.mk (show Kd.R k27 27 w46 w.heap.size (fun k_ => k_ ≠ gb124) (.slice (some ⟨go40, 0, none⟩) t138.length co45) t138 from (by (with_reducible repeat (first | apply Kd.R_alloc | apply Kd.R_drewN | apply Kd.R_drew)); exact HO140.out))
                      obtain ⟨ce48, hcl48, hM48, hcc48, hfr48⟩ := Kd.R_elem HX48.out z27 (t127 : Int) (of_decide_eq_true (by first | (with_reducible assumption) | assumption)) (by have h_ : (t127 : Int) < ((t138.length : Int) : Int) := of_decide_eq_true (by first | (with_reducible assumption) | assumption); first | exact h_ | (have e_ := (Kd.R_reads' HO140.out).1; omega) | simpa using h_)
                      obtain rfl := k27_openM hM48
                      have HP48 := Kd.R_seg HX48.out (t127 : Int) (of_decide_eq_true (by first | (with_reducible assumption) | assumption)) (by have h_ : (t127 : Int) < ((t138.length : Int) : Int) := of_decide_eq_true (by first | (with_reducible assumption) | assumption); first | exact h_ | (have e_ := (Kd.R_reads' HO140.out).1; omega) | simpa using h_) (seg := [.int .u8 a1_0, .int .u8 a1_1, .int .u32 a1_2, .int .u32 a1_3, .int .i64 a1_4, .int .u8 a1_5, .int .u32 a1_6]) (j := 0) hcl48 hcc48 (show 7 ≤ 7 from by decide) (x' := (⟨a1_0, (⟨a1_1, a1_2, a1_3⟩ : S25), a1_4, a1_5, a1_6⟩ : S27)) (k27_mkM _ _ _ (⟨a1_0, (⟨a1_1, a1_2, a1_3⟩ : S25), a1_4, a1_5, a1_6⟩ : S27) ) (fun _ hk => hk)
                      have hx48_0 := hcc48 0 _ rfl
                      (try simp only [show (k27).sz = 7 from rfl, Nat.mul_one, Nat.add_zero] at hx48_0)
                      have hf48_0 := hfr48 0
                      (try simp only [show (k27).sz = 7 from rfl, Nat.mul_one, Nat.add_zero] at hf48_0)
                      have hx48_1 := hcc48 1 _ rfl
                      (try simp only [show (k27).sz = 7 from rfl, Nat.mul_one, Nat.add_zero] at hx48_1)
                      have hf48_1 := hfr48 1
                      (try simp only [show (k27).sz = 7 from rfl, Nat.mul_one, Nat.add_zero] at hf48_1)
                      have hx48_2 := hcc48 2 _ rfl
                      (try simp only [show (k27).sz = 7 from rfl, Nat.mul_one, Nat.add_zero] at hx48_2)
                      have hf48_2 := hfr48 2
                      (try simp only [show (k27).sz = 7 from rfl, Nat.mul_one, Nat.add_zero] at hf48_2)
                      have hx48_3 := hcc48 3 _ rfl
                      (try simp only [show (k27).sz = 7 from rfl, Nat.mul_one, Nat.add_zero] at hx48_3)
                      have hf48_3 := hfr48 3
                      (try simp only [show (k27).sz = 7 from rfl, Nat.mul_one, Nat.add_zero] at hf48_3)
                      have hx48_4 := hcc48 4 _ rfl
                      (try simp only [show (k27).sz = 7 from rfl, Nat.mul_one, Nat.add_zero] at hx48_4)
                      have hf48_4 := hfr48 4
                      (try simp only [show (k27).sz = 7 from rfl, Nat.mul_one, Nat.add_zero] at hf48_4)
                      have hx48_5 := hcc48 5 _ rfl
                      (try simp only [show (k27).sz = 7 from rfl, Nat.mul_one, Nat.add_zero] at hx48_5)
                      have hf48_5 := hfr48 5
                      (try simp only [show (k27).sz = 7 from rfl, Nat.mul_one, Nat.add_zero] at hf48_5)
                      have hx48_6 := hcc48 6 _ rfl
                      (try simp only [show (k27).sz = 7 from rfl, Nat.mul_one, Nat.add_zero] at hx48_6)
                      have hf48_6 := hfr48 6
                      (try simp only [show (k27).sz = 7 from rfl, Nat.mul_one, Nat.add_zero] at hf48_6)
                      clear hcl48 hcc48 hfr48 hM48
                      try go_wp2_with (first | ((with_reducible refine gate_store (t := 27) (p := 65) rfl ?_); refine store_event (t := 27) (p := 65) (v := ?vo_w49) (w1 := (((((((w46.setCell ⟨go40, (t127 : Int).toNat * 7, none⟩ (.int .u8 a1_0)).setCell ⟨go40, (t127 : Int).toNat * 7 + 1, none⟩ (.int .u8 a1_1)).setCell ⟨go40, (t127 : Int).toNat * 7 + 2, none⟩ (.int .u32 a1_2)).setCell ⟨go40, (t127 : Int).toNat * 7 + 3, none⟩ (.int .u32 a1_3)).setCell ⟨go40, (t127 : Int).toNat * 7 + 4, none⟩ (.int .i64 a1_4)).setCell ⟨go40, (t127 : Int).toNat * 7 + 5, none⟩ (.int .u8 a1_5)).setCell ⟨go40, (t127 : Int).toNat * 7 + 6, none⟩ (.int .u32 a1_6))) ?hg ?ho ?hn ?hr ?_; (case ho => rfl); (case hg => rfl); (case hn => rfl); (case hr => first | (go_simp; done) | (go_simp; rfl)); intro w49 hw; have hg : w46.grownBy w49 (some go40) := (by rw [hw]; exact HP48.2); have hp_ : Kd.R k27 27 w49 w.heap.size (fun k_ => k_ ≠ gb124) (.slice (some ⟨go40, 0, none⟩) t138.length co45) y145 := (by rw [hw, Ny145.out]; exact HP48.1); clear HP48; have n0_ := Aside0.mk (blk_grown (g := gb124) (o := .cells #[.int .u8 a1_0, .int .u8 a1_1, .int .u32 a1_2, .int .u32 a1_3, .int .i64 a1_4, .int .u8 a1_5, .int .u32 a1_6] 27 (0, 0)) (by (with_reducible repeat (first | refine blk_drewN ?_ _ | refine blk_drew ?_ | refine blk_alloc ?_ _)); exact BK124.out) hg (Kd.R_away HO140.out (fun _ hk => hk))); have n1_ := Aside0.mk (hp_); have n2_ := Aside0.mk ((by rw [hw]; exact below_set (below_set (below_set (below_set (below_set (below_set (below_set (HB.out) GB40.out) GB40.out) GB40.out) GB40.out) GB40.out) GB40.out) GB40.out : Below w.heap.size w w49)); clear BK124; clear HO140; clear HB; have BK124 := n0_; have HO140 := n1_; have HB := n2_; clear n0_ n1_ n2_; clear hg hw hp_))
                      go_ret2
                      exact ⟨_, by first | rfl | (simp [errW_none, errW_some] <;> rfl) | (simp [*, errW_none, errW_some] <;> rfl), by (with_reducible repeat (first | apply Kd.R_alloc | apply Kd.R_drewN | apply Kd.R_drew)); exact Kd.R_mono HO140.out (fun _ hk => trivial), by repeat (first | (with_reducible first | exact HB.out | apply below_alloc | apply pw_below_drewN | apply below_drew1 | refine below_set ?_ GE124.out) | exact HB.out)⟩
                  · rw [if_neg c31] at H
                    have c31b0 : (((rd_T27 t138 t127).f2) == 2) = false := beq_eq_false_iff_ne.mpr c31
                    have c31b1 : (((rd_T27 t138 t127).f2) != 2) = true := bne_iff_ne.mpr c31
                    simp only [Option.some.injEq, Prod.mk.injEq] at H
                    obtain ⟨rfl, rfl⟩ := H
                    have hcz50_0 : wc.cell? ⟨gb124, 0, none⟩ = some (.int .u8 a1_0) := (blk_cell BK124.out 0).trans rfl
                    have hcz50_1 : wc.cell? ⟨gb124, 1, none⟩ = some (.int .u8 a1_1) := (blk_cell BK124.out 1).trans rfl
                    have hcz50_2 : wc.cell? ⟨gb124, 2, none⟩ = some (.int .u32 a1_2) := (blk_cell BK124.out 2).trans rfl
                    have hcz50_3 : wc.cell? ⟨gb124, 3, none⟩ = some (.int .u32 a1_3) := (blk_cell BK124.out 3).trans rfl
                    have hcz50_4 : wc.cell? ⟨gb124, 4, none⟩ = some (.int .i64 a1_4) := (blk_cell BK124.out 4).trans rfl
                    have hcz50_5 : wc.cell? ⟨gb124, 5, none⟩ = some (.int .u8 a1_5) := (blk_cell BK124.out 5).trans rfl
                    have hcz50_6 : wc.cell? ⟨gb124, 6, none⟩ = some (.int .u32 a1_6) := (blk_cell BK124.out 6).trans rfl
                    have hfz50_0 := blk_frozen BK124.out 0
                    have hfz50_1 := blk_frozen BK124.out 1
                    have hfz50_2 := blk_frozen BK124.out 2
                    have hfz50_3 := blk_frozen BK124.out 3
                    have hfz50_4 := blk_frozen BK124.out 4
                    have hfz50_5 := blk_frozen BK124.out 5
                    have hfz50_6 := blk_frozen BK124.out 6
                    try go_wp2_with (first | ((with_reducible refine gate_callee (f := 39) rfl ?_); refine goesL_ (some 23) rfl rfl Try.func39 (by kernel_rfl) rfl #[.slice A0 l0.length c0, .int .u8 a1_0, .func (.func 40) #[] #[]] rfl (by (try simp only [List.map_toArray, List.map_cons, List.map_nil]); first | done | rfl | (simp only [List.length_drop, List.length_take]; rfl)) ?_; (with_reducible refine (slices_BinarySearchFunc_Entry_uint8.calls _ _ l0 a1_0  t127 true _ ?side1 ?side2 A13.out).mono ?_); (case side1 => repeat (first | exact (Kd.C_below HR0.out HB.out) | (with_reducible refine Kd.C_alloc ?_ _) | (with_reducible refine Kd.C_drewN ?_ _) | (with_reducible refine Kd.C_drew ?_))); (case side2 => exact HC0.out); rintro e w51 ⟨rfl, hb⟩; refine ⟨_, rfl, ?_⟩; have n0_ := Aside0.mk (blk_below (g := gb124) (o := .cells #[.int .u8 a1_0, .int .u8 a1_1, .int .u32 a1_2, .int .u32 a1_3, .int .i64 a1_4, .int .u8 a1_5, .int .u32 a1_6] 27 (0, 0)) (by (with_reducible repeat (first | refine blk_drewN ?_ _ | refine blk_drew ?_ | refine blk_alloc ?_ _)); exact BK124.out) hb); have n1_ := Aside0.mk (below_step (by repeat (first | (with_reducible first | exact HB.out | apply below_alloc | apply pw_below_drewN | apply below_drew1 | refine below_set ?_ GE124.out) | exact HB.out)) hb); clear BK124; clear HB; have BK124 := n0_; have HB := n1_; clear n0_ n1_; (try clear hb); (try clear hb2); (try clear hk); (try clear hi)) | ((with_reducible refine gate_callee (f := 43) rfl ?_); refine goesL_ (some 35) rfl rfl Try.func43 (by kernel_rfl) rfl #[.slice A0 l0.length c0] rfl (by (try simp only [List.map_toArray, List.map_cons, List.map_nil]); first | done | rfl | (simp only [List.length_drop, List.length_take]; rfl)) ?_; (with_reducible refine (slices_Clone_Entry.calls _ _ l0 t138 _ ?side1 ?side2 A15.out).mono ?_); (case side1 => repeat (first | exact (Kd.C_below HR0.out HB.out) | (with_reducible refine Kd.C_alloc ?_ _) | (with_reducible refine Kd.C_drewN ?_ _) | (with_reducible refine Kd.C_drew ?_))); (case side2 => exact HC0.out); rintro e w52 ⟨v139, rfl, ho0, hb⟩; refine ⟨_, rfl, ?_⟩; have n0_ := Aside0.mk (Kd.R_lower (Kd.R_newB ho0 (g := gb124) (o := .cells #[.int .u8 a1_0, .int .u8 a1_1, .int .u32 a1_2, .int .u32 a1_3, .int .i64 a1_4, .int .u8 a1_5, .int .u32 a1_6] 27 (0, 0)) (by (with_reducible repeat (first | refine blk_drewN ?_ _ | refine blk_drew ?_ | refine blk_alloc ?_ _)); exact BK124.out)) (below_size (by repeat (first | (with_reducible first | exact HB.out | apply below_alloc | apply pw_below_drewN | apply below_drew1 | refine below_set ?_ GE124.out) | exact HB.out)))); have n1_ := Aside0.mk (blk_below (g := gb124) (o := .cells #[.int .u8 a1_0, .int .u8 a1_1, .int .u32 a1_2, .int .u32 a1_3, .int .i64 a1_4, .int .u8 a1_5, .int .u32 a1_6] 27 (0, 0)) (by (with_reducible repeat (first | refine blk_drewN ?_ _ | refine blk_drew ?_ | refine blk_alloc ?_ _)); exact BK124.out) hb); have n2_ := Aside0.mk (below_step (by repeat (first | (with_reducible first | exact HB.out | apply below_alloc | apply pw_below_drewN | apply below_drew1 | refine below_set ?_ GE124.out) | exact HB.out)) hb); clear BK124; clear HB; have HO140 := n0_; have BK124 := n1_; have HB := n2_; clear n0_ n1_ n2_; (try clear hb); (try clear hb2); (try clear hk); (try clear hi); (try clear ho0)))
                    have n0_ := Aside0.mk (Kd.R_drew HO140.out)
                    have n1_ := Aside0.mk (blk_drew BK124.out)
                    have n2_ := Aside0.mk (below_drew1 HB.out)
                    clear HO140
                    clear BK124
                    clear HB
                    have HO140 := n0_
                    have BK124 := n1_
                    have HB := n2_
                    clear n0_ n1_ n2_
                    obtain ⟨Ao54, co54, eo54⟩ := Kd.R_slice HO140.out
                    (first | subst eo54 | (injection eo54 with f1_ f2_ f3_; have f4_ := f1_.symm; have f5_ := f3_.symm; clear f1_ f2_ f3_; subst f4_; subst f5_))
                    have p141 : 0 ≤ (t127 : Int) := of_decide_eq_true (by first | (with_reducible assumption) | assumption)
                    have q141 : t127 < (t138.length : Int) := of_decide_eq_true (by first | (with_reducible assumption) | assumption)
                    obtain ⟨ad141, e141, hx141_0, hx141_1, hx141_2, hx141_3, hx141_4, hx141_5, hx141_6⟩ := at_T27 (Kd.R_reads' HO140.out).2.2 t127 p141 q141
                    cases e141
                    replace p141 := eq_true p141
                    replace q141 := eq_true q141
                    refine start_ (n := 9) (S := fun w' => w'.cell? ⟨gb124, 0, none⟩ = some (.int .u8 a1_0) ∧ w'.cell? ⟨gb124, 1, none⟩ = some (.int .u8 a1_1) ∧ w'.cell? ⟨gb124, 2, none⟩ = some (.int .u32 a1_2) ∧ w'.cell? ⟨gb124, 3, none⟩ = some (.int .u32 a1_3) ∧ w'.cell? ⟨gb124, 4, none⟩ = some (.int .i64 a1_4) ∧ w'.cell? ⟨gb124, 5, none⟩ = some (.int .u8 a1_5) ∧ w'.cell? ⟨gb124, 6, none⟩ = some (.int .u32 a1_6) ∧ w'.cell? (ad141.add ((t127).toNat * 7)) = some (.int .u8 ((rd_T27 t138 t127).f0)) ∧ w'.cell? ⟨(ad141.add ((t127).toNat * 7)).block, (ad141.add ((t127).toNat * 7)).off + 1, none⟩ = some (.int .u8 ((rd_T27 t138 t127).f1.f0)) ∧ w'.cell? ⟨(ad141.add ((t127).toNat * 7)).block, (ad141.add ((t127).toNat * 7)).off + 2, none⟩ = some (.int .u32 ((rd_T27 t138 t127).f1.f1)) ∧ w'.cell? ⟨(ad141.add ((t127).toNat * 7)).block, (ad141.add ((t127).toNat * 7)).off + 3, none⟩ = some (.int .u32 ((rd_T27 t138 t127).f1.f2)) ∧ w'.cell? ⟨(ad141.add ((t127).toNat * 7)).block, (ad141.add ((t127).toNat * 7)).off + 4, none⟩ = some (.int .i64 ((rd_T27 t138 t127).f2)) ∧ w'.cell? ⟨(ad141.add ((t127).toNat * 7)).block, (ad141.add ((t127).toNat * 7)).off + 5, none⟩ = some (.int .u8 ((rd_T27 t138 t127).f3)) ∧ w'.cell? ⟨(ad141.add ((t127).toNat * 7)).block, (ad141.add ((t127).toNat * 7)).off + 6, none⟩ = some (.int .u32 ((rd_T27 t138 t127).f4))) (ds := []) #[false, false, false, false, false, false, false, false, false] (by kernel_rfl) rfl rfl ⟨(blk_cell BK124.out 0).trans rfl, (blk_cell BK124.out 1).trans rfl, (blk_cell BK124.out 2).trans rfl, (blk_cell BK124.out 3).trans rfl, (blk_cell BK124.out 4).trans rfl, (blk_cell BK124.out 5).trans rfl, (blk_cell BK124.out 6).trans rfl, hx141_0, hx141_1, hx141_2, hx141_3, hx141_4, hx141_5, hx141_6⟩ (fun hHeld => ?_); refine with_tabW item_Take.tab7 item_Take.bits7 (fun HT_ HW_ => ?_)
                    generalize w52.drew = w53 at HO140 BK124 HB hx141_0 hx141_1 hx141_2 hx141_3 hx141_4 hx141_5 hx141_6 hHeld ⊢
                    refine pure_ (i := 0) (N := some 36) (v := ?_) (a' := ?_) #[true, false, false, false, false, false, false, false, false] rfl rfl (any_of HT_.out (by kernel_rfl)) (fun _ _ _ h => h) (Or.inl ⟨by rfl, ?_⟩) ?_ ?_
                    rotate_left
                    · intro w'
                      go_simp
                      with_reducible rfl
                    rotate_left
                    · simp only [Act.put, List.setIfInBounds_toArray, List.set_cons_zero, List.set_cons_succ, i64_w, i32_w]
                      rfl
                    refine pure_ (i := 1) (N := some 37) (v := ?_) (a' := ?_) #[true, true, false, false, false, false, false, false, false] rfl rfl (any_of HT_.out (by kernel_rfl)) (fun _ _ _ h => h) (Or.inl ⟨by rfl, ?_⟩) ?_ ?_
                    rotate_left
                    · intro w'
                      go_simp
                      with_reducible rfl
                    rotate_left
                    · simp only [Act.put, List.setIfInBounds_toArray, List.set_cons_zero, List.set_cons_succ, i64_w, i32_w]
                      rfl
                    refine pure_ (i := 2) (N := some 38) (v := ?_) (a' := ?_) #[true, true, true, false, false, false, false, false, false] rfl rfl (any_of HT_.out (by kernel_rfl)) (fun _ _ _ h => h) (Or.inl ⟨by rfl, ?_⟩) ?_ ?_
                    rotate_left
                    · intro w'
                      go_simp
                      with_reducible rfl
                    rotate_left
                    · simp only [Act.put, List.setIfInBounds_toArray, List.set_cons_zero, List.set_cons_succ, i64_w, i32_w]
                      rfl
                    refine pure_ (i := 3) (N := some 39) (v := ?_) (a' := ?_) #[true, true, true, true, false, false, false, false, false] rfl rfl (any_of HT_.out (by kernel_rfl)) (fun _ _ _ h => h) (Or.inl ⟨by rfl, ?_⟩) ?_ ?_
                    rotate_left
                    · intro w'
                      go_simp
                      with_reducible rfl
                    rotate_left
                    · simp only [Act.put, List.setIfInBounds_toArray, List.set_cons_zero, List.set_cons_succ, i64_w, i32_w]
                      rfl
                    refine pure_ (i := 5) (N := some 41) (v := ?_) (a' := ?_) #[true, true, true, true, false, true, false, false, false] rfl rfl (any_of HT_.out (by kernel_rfl)) (fun _ _ _ h => h) (Or.inl ⟨by rfl, ?_⟩) ?_ ?_
                    rotate_left
                    · intro w'
                      go_simp
                      with_reducible rfl
                    rotate_left
                    · simp only [Act.put, List.setIfInBounds_toArray, List.set_cons_zero, List.set_cons_succ, i64_w, i32_w]
                      rfl
                    refine take_ (i := 4) (N := some 40) (v := ?_) (a' := ?_) #[true, true, true, true, true, true, false, false, false] rfl rfl (take_ofW HT_.out HW_.out (by kernel_rfl)) (fun _ _ _ h => h) (Or.inl ⟨by rfl, ?_⟩) hHeld ?_ ?_
                    rotate_left
                    · rintro w' ⟨s0, s1, s2, s3, s4, s5, s6, s7, s8, s9, s10, s11, s12, s13⟩
                      go_simp
                      with_reducible rfl
                    rotate_left
                    · simp only [Act.put, List.setIfInBounds_toArray, List.set_cons_zero, List.set_cons_succ, i64_w, i32_w]
                      rfl
                    refine take_ (i := 6) (N := some 42) (v := ?_) (a' := ?_) #[true, true, true, true, true, true, true, false, false] rfl rfl (take_ofW HT_.out HW_.out (by kernel_rfl)) (fun _ _ _ h => h) (Or.inl ⟨by rfl, ?_⟩) hHeld ?_ ?_
                    rotate_left
                    · rintro w' ⟨s0, s1, s2, s3, s4, s5, s6, s7, s8, s9, s10, s11, s12, s13⟩
                      go_simp
                      with_reducible rfl
                    rotate_left
                    · simp only [Act.put, List.setIfInBounds_toArray, List.set_cons_zero, List.set_cons_succ, i64_w, i32_w]
                      rfl
                    refine one_ (i := 7) (N := some 43) #[true, true, true, true, true, true, true, true, false] rfl rfl (one_of HT_.out (by kernel_rfl)) (by decide) (fun K hK => ?_)
                    refine goes_ Try.func14 (by kernel_rfl) rfl #[.agg #[.int .u8 ((rd_T27 t138 t127).f1.f0), .int .u32 ((rd_T27 t138 t127).f1.f1), .int .u32 ((rd_T27 t138 t127).f1.f2)], .agg #[.int .u8 a1_1, .int .u32 a1_2, .int .u32 a1_3]] (by rfl) rfl rfl (by (try simp only [List.map_toArray, List.map_cons, List.map_nil]); first | done | rfl | (simp only [List.length_drop, List.length_take]; rfl)) ?_
                    with_reducible refine (item_Cmp.calls kj2 ((rd_T27 t138 t127).f1.f0) ((rd_T27 t138 t127).f1.f1) ((rd_T27 t138 t127).f1.f2) a1_1 a1_2 a1_3 t142 _ A18.out).mono ?_
                    rintro e w55 ⟨rfl, hb⟩
                    have HS7_ := (hb.cell (World.block_lt_of_cell? _ _ (hHeld.2.2.2.2.2.2.2.1))).trans (hHeld.2.2.2.2.2.2.2.1)
                    have HS8_ := (hb.cell (World.block_lt_of_cell? _ _ (hHeld.2.2.2.2.2.2.2.2.1))).trans (hHeld.2.2.2.2.2.2.2.2.1)
                    have HS9_ := (hb.cell (World.block_lt_of_cell? _ _ (hHeld.2.2.2.2.2.2.2.2.2.1))).trans (hHeld.2.2.2.2.2.2.2.2.2.1)
                    have HS10_ := (hb.cell (World.block_lt_of_cell? _ _ (hHeld.2.2.2.2.2.2.2.2.2.2.1))).trans (hHeld.2.2.2.2.2.2.2.2.2.2.1)
                    have HS11_ := (hb.cell (World.block_lt_of_cell? _ _ (hHeld.2.2.2.2.2.2.2.2.2.2.2.1))).trans (hHeld.2.2.2.2.2.2.2.2.2.2.2.1)
                    have HS12_ := (hb.cell (World.block_lt_of_cell? _ _ (hHeld.2.2.2.2.2.2.2.2.2.2.2.2.1))).trans (hHeld.2.2.2.2.2.2.2.2.2.2.2.2.1)
                    have HS13_ := (hb.cell (World.block_lt_of_cell? _ _ (hHeld.2.2.2.2.2.2.2.2.2.2.2.2.2))).trans (hHeld.2.2.2.2.2.2.2.2.2.2.2.2.2)
                    refine ⟨_, rfl, ?_⟩
                    have n0_ := Aside0.mk (Kd.R_below (by (with_reducible repeat (first | apply Kd.R_alloc | apply Kd.R_drewN | apply Kd.R_drew)); exact HO140.out) hb)
                    have n1_ := Aside0.mk (blk_below (g := gb124) (o := .cells #[.int .u8 a1_0, .int .u8 a1_1, .int .u32 a1_2, .int .u32 a1_3, .int .i64 a1_4, .int .u8 a1_5, .int .u32 a1_6] 27 (0, 0)) (by (with_reducible repeat (first | refine blk_drewN ?_ _ | refine blk_drew ?_ | refine blk_alloc ?_ _)); exact BK124.out) hb)
                    have n2_ := Aside0.mk (below_step (by repeat (first | (with_reducible first | exact HB.out | apply below_alloc | apply pw_below_drewN | apply below_drew1 | refine below_set ?_ GE124.out) | exact HB.out)) hb)
                    clear HO140
                    clear BK124
                    clear HB
                    have HO140 := n0_
                    have BK124 := n1_
                    have HB := n2_
                    clear n0_ n1_ n2_
                    (try clear hb)
                    (try clear hb2)
                    (try clear hk)
                    (try clear hi)
                    refine hK.out _ _ ⟨(blk_cell BK124.out 0).trans rfl, (blk_cell BK124.out 1).trans rfl, (blk_cell BK124.out 2).trans rfl, (blk_cell BK124.out 3).trans rfl, (blk_cell BK124.out 4).trans rfl, (blk_cell BK124.out 5).trans rfl, (blk_cell BK124.out 6).trans rfl, HS7_, HS8_, HS9_, HS10_, HS11_, HS12_, HS13_⟩ (fun hHeld => ?_)
                    clear hK K
                    refine norm_ (a' := ?_) ?_ ?_
                    rotate_left
                    · show Act.put _ (some 43) _ = _
                      simp only [Act.put, List.setIfInBounds_toArray, List.set_cons_zero, List.set_cons_succ, i64_w, i32_w]
                      rfl
                    refine pure_ (i := 8) (N := some 9) (v := ?_) (a' := ?_) #[true, true, true, true, true, true, true, true, true] rfl rfl (any_of HT_.out (by kernel_rfl)) (fun _ _ _ h => h) (Or.inl ⟨by rfl, ?_⟩) ?_ ?_
                    rotate_left
                    · intro w'
                      go_simp
                      with_reducible rfl
                    rotate_left
                    · simp only [Act.put, List.setIfInBounds_toArray, List.set_cons_zero, List.set_cons_succ, i64_w, i32_w]
                      rfl
                    refine done_ (done_of HT_.out (by kernel_rfl)) ?_
                    have p144 : 0 ≤ (t127 : Int) := of_decide_eq_true (by first | (with_reducible assumption) | assumption)
                    have q144 : t127 < (t138.length : Int) := of_decide_eq_true (by first | (with_reducible assumption) | assumption)
                    obtain ⟨ad144, e144, hx144_0, hx144_1, hx144_2, hx144_3, hx144_4, hx144_5, hx144_6⟩ := at_T27 (Kd.R_reads' HO140.out).2.2 t127 p144 q144
                    obtain rfl : ad141 = ad144 := (by injection e144)
                    replace p144 := eq_true p144
                    replace q144 := eq_true q144
                    try go_wp2
                    go_ret2
                    exact ⟨_, by first | rfl | (simp [errW_none, errW_some] <;> rfl) | (simp [*, errW_none, errW_some] <;> rfl), by (with_reducible repeat (first | apply Kd.R_alloc | apply Kd.R_drewN | apply Kd.R_drew)); exact Kd.R_mono HO140.out (fun _ hk => trivial), by repeat (first | (with_reducible first | exact HB.out | apply below_alloc | apply pw_below_drewN | apply below_drew1 | refine below_set ?_ GE124.out) | exact HB.out)⟩
                · rw [if_neg c30] at H
                  have c30b0 : (t142 == 0) = false := beq_eq_false_iff_ne.mpr c30
                  have c30b1 : (t142 != 0) = true := bne_iff_ne.mpr c30
                  simp only [Option.some.injEq, Prod.mk.injEq] at H
                  obtain ⟨rfl, rfl⟩ := H
                  have hcz56_0 : wc.cell? ⟨gb124, 0, none⟩ = some (.int .u8 a1_0) := (blk_cell BK124.out 0).trans rfl
                  have hcz56_1 : wc.cell? ⟨gb124, 1, none⟩ = some (.int .u8 a1_1) := (blk_cell BK124.out 1).trans rfl
                  have hcz56_2 : wc.cell? ⟨gb124, 2, none⟩ = some (.int .u32 a1_2) := (blk_cell BK124.out 2).trans rfl
                  have hcz56_3 : wc.cell? ⟨gb124, 3, none⟩ = some (.int .u32 a1_3) := (blk_cell BK124.out 3).trans rfl
                  have hcz56_4 : wc.cell? ⟨gb124, 4, none⟩ = some (.int .i64 a1_4) := (blk_cell BK124.out 4).trans rfl
                  have hcz56_5 : wc.cell? ⟨gb124, 5, none⟩ = some (.int .u8 a1_5) := (blk_cell BK124.out 5).trans rfl
                  have hcz56_6 : wc.cell? ⟨gb124, 6, none⟩ = some (.int .u32 a1_6) := (blk_cell BK124.out 6).trans rfl
                  have hfz56_0 := blk_frozen BK124.out 0
                  have hfz56_1 := blk_frozen BK124.out 1
                  have hfz56_2 := blk_frozen BK124.out 2
                  have hfz56_3 := blk_frozen BK124.out 3
                  have hfz56_4 := blk_frozen BK124.out 4
                  have hfz56_5 := blk_frozen BK124.out 5
                  have hfz56_6 := blk_frozen BK124.out 6
                  try go_wp2_with (first | ((with_reducible refine gate_callee (f := 39) rfl ?_); refine goesL_ (some 23) rfl rfl Try.func39 (by kernel_rfl) rfl #[.slice A0 l0.length c0, .int .u8 a1_0, .func (.func 40) #[] #[]] rfl (by (try simp only [List.map_toArray, List.map_cons, List.map_nil]); first | done | rfl | (simp only [List.length_drop, List.length_take]; rfl)) ?_; (with_reducible refine (slices_BinarySearchFunc_Entry_uint8.calls _ _ l0 a1_0  t127 true _ ?side1 ?side2 A13.out).mono ?_); (case side1 => repeat (first | exact (Kd.C_below HR0.out HB.out) | (with_reducible refine Kd.C_alloc ?_ _) | (with_reducible refine Kd.C_drewN ?_ _) | (with_reducible refine Kd.C_drew ?_))); (case side2 => exact HC0.out); rintro e w57 ⟨rfl, hb⟩; refine ⟨_, rfl, ?_⟩; have n0_ := Aside0.mk (blk_below (g := gb124) (o := .cells #[.int .u8 a1_0, .int .u8 a1_1, .int .u32 a1_2, .int .u32 a1_3, .int .i64 a1_4, .int .u8 a1_5, .int .u32 a1_6] 27 (0, 0)) (by (with_reducible repeat (first | refine blk_drewN ?_ _ | refine blk_drew ?_ | refine blk_alloc ?_ _)); exact BK124.out) hb); have n1_ := Aside0.mk (below_step (by repeat (first | (with_reducible first | exact HB.out | apply below_alloc | apply pw_below_drewN | apply below_drew1 | refine below_set ?_ GE124.out) | exact HB.out)) hb); clear BK124; clear HB; have BK124 := n0_; have HB := n1_; clear n0_ n1_; (try clear hb); (try clear hb2); (try clear hk); (try clear hi)) | ((with_reducible refine gate_callee (f := 43) rfl ?_); refine goesL_ (some 35) rfl rfl Try.func43 (by kernel_rfl) rfl #[.slice A0 l0.length c0] rfl (by (try simp only [List.map_toArray, List.map_cons, List.map_nil]); first | done | rfl | (simp only [List.length_drop, List.length_take]; rfl)) ?_; (with_reducible refine (slices_Clone_Entry.calls _ _ l0 t138 _ ?side1 ?side2 A15.out).mono ?_); (case side1 => repeat (first | exact (Kd.C_below HR0.out HB.out) | (with_reducible refine Kd.C_alloc ?_ _) | (with_reducible refine Kd.C_drewN ?_ _) | (with_reducible refine Kd.C_drew ?_))); (case side2 => exact HC0.out); rintro e w58 ⟨v139, rfl, ho0, hb⟩; refine ⟨_, rfl, ?_⟩; have n0_ := Aside0.mk (Kd.R_lower (Kd.R_newB ho0 (g := gb124) (o := .cells #[.int .u8 a1_0, .int .u8 a1_1, .int .u32 a1_2, .int .u32 a1_3, .int .i64 a1_4, .int .u8 a1_5, .int .u32 a1_6] 27 (0, 0)) (by (with_reducible repeat (first | refine blk_drewN ?_ _ | refine blk_drew ?_ | refine blk_alloc ?_ _)); exact BK124.out)) (below_size (by repeat (first | (with_reducible first | exact HB.out | apply below_alloc | apply pw_below_drewN | apply below_drew1 | refine below_set ?_ GE124.out) | exact HB.out)))); have n1_ := Aside0.mk (blk_below (g := gb124) (o := .cells #[.int .u8 a1_0, .int .u8 a1_1, .int .u32 a1_2, .int .u32 a1_3, .int .i64 a1_4, .int .u8 a1_5, .int .u32 a1_6] 27 (0, 0)) (by (with_reducible repeat (first | refine blk_drewN ?_ _ | refine blk_drew ?_ | refine blk_alloc ?_ _)); exact BK124.out) hb); have n2_ := Aside0.mk (below_step (by repeat (first | (with_reducible first | exact HB.out | apply below_alloc | apply pw_below_drewN | apply below_drew1 | refine below_set ?_ GE124.out) | exact HB.out)) hb); clear BK124; clear HB; have HO140 := n0_; have BK124 := n1_; have HB := n2_; clear n0_ n1_ n2_; (try clear hb); (try clear hb2); (try clear hk); (try clear hi); (try clear ho0)))
                  have n0_ := Aside0.mk (Kd.R_drew HO140.out)
                  have n1_ := Aside0.mk (blk_drew BK124.out)
                  have n2_ := Aside0.mk (below_drew1 HB.out)
                  clear HO140
                  clear BK124
                  clear HB
                  have HO140 := n0_
                  have BK124 := n1_
                  have HB := n2_
                  clear n0_ n1_ n2_
                  obtain ⟨Ao60, co60, eo60⟩ := Kd.R_slice HO140.out
                  (first | subst eo60 | (injection eo60 with f1_ f2_ f3_; have f4_ := f1_.symm; have f5_ := f3_.symm; clear f1_ f2_ f3_; subst f4_; subst f5_))
                  have p141 : 0 ≤ (t127 : Int) := of_decide_eq_true (by first | (with_reducible assumption) | assumption)
                  have q141 : t127 < (t138.length : Int) := of_decide_eq_true (by first | (with_reducible assumption) | assumption)
                  obtain ⟨ad141, e141, hx141_0, hx141_1, hx141_2, hx141_3, hx141_4, hx141_5, hx141_6⟩ := at_T27 (Kd.R_reads' HO140.out).2.2 t127 p141 q141
                  cases e141
                  replace p141 := eq_true p141
                  replace q141 := eq_true q141
                  refine start_ (n := 9) (S := fun w' => w'.cell? ⟨gb124, 0, none⟩ = some (.int .u8 a1_0) ∧ w'.cell? ⟨gb124, 1, none⟩ = some (.int .u8 a1_1) ∧ w'.cell? ⟨gb124, 2, none⟩ = some (.int .u32 a1_2) ∧ w'.cell? ⟨gb124, 3, none⟩ = some (.int .u32 a1_3) ∧ w'.cell? ⟨gb124, 4, none⟩ = some (.int .i64 a1_4) ∧ w'.cell? ⟨gb124, 5, none⟩ = some (.int .u8 a1_5) ∧ w'.cell? ⟨gb124, 6, none⟩ = some (.int .u32 a1_6) ∧ w'.cell? (ad141.add ((t127).toNat * 7)) = some (.int .u8 ((rd_T27 t138 t127).f0)) ∧ w'.cell? ⟨(ad141.add ((t127).toNat * 7)).block, (ad141.add ((t127).toNat * 7)).off + 1, none⟩ = some (.int .u8 ((rd_T27 t138 t127).f1.f0)) ∧ w'.cell? ⟨(ad141.add ((t127).toNat * 7)).block, (ad141.add ((t127).toNat * 7)).off + 2, none⟩ = some (.int .u32 ((rd_T27 t138 t127).f1.f1)) ∧ w'.cell? ⟨(ad141.add ((t127).toNat * 7)).block, (ad141.add ((t127).toNat * 7)).off + 3, none⟩ = some (.int .u32 ((rd_T27 t138 t127).f1.f2)) ∧ w'.cell? ⟨(ad141.add ((t127).toNat * 7)).block, (ad141.add ((t127).toNat * 7)).off + 4, none⟩ = some (.int .i64 ((rd_T27 t138 t127).f2)) ∧ w'.cell? ⟨(ad141.add ((t127).toNat * 7)).block, (ad141.add ((t127).toNat * 7)).off + 5, none⟩ = some (.int .u8 ((rd_T27 t138 t127).f3)) ∧ w'.cell? ⟨(ad141.add ((t127).toNat * 7)).block, (ad141.add ((t127).toNat * 7)).off + 6, none⟩ = some (.int .u32 ((rd_T27 t138 t127).f4))) (ds := []) #[false, false, false, false, false, false, false, false, false] (by kernel_rfl) rfl rfl ⟨(blk_cell BK124.out 0).trans rfl, (blk_cell BK124.out 1).trans rfl, (blk_cell BK124.out 2).trans rfl, (blk_cell BK124.out 3).trans rfl, (blk_cell BK124.out 4).trans rfl, (blk_cell BK124.out 5).trans rfl, (blk_cell BK124.out 6).trans rfl, hx141_0, hx141_1, hx141_2, hx141_3, hx141_4, hx141_5, hx141_6⟩ (fun hHeld => ?_); refine with_tabW item_Take.tab7 item_Take.bits7 (fun HT_ HW_ => ?_)
                  generalize w58.drew = w59 at HO140 BK124 HB hx141_0 hx141_1 hx141_2 hx141_3 hx141_4 hx141_5 hx141_6 hHeld ⊢
                  refine pure_ (i := 0) (N := some 36) (v := ?_) (a' := ?_) #[true, false, false, false, false, false, false, false, false] rfl rfl (any_of HT_.out (by kernel_rfl)) (fun _ _ _ h => h) (Or.inl ⟨by rfl, ?_⟩) ?_ ?_
                  rotate_left
                  · intro w'
                    go_simp
                    with_reducible rfl
                  rotate_left
                  · simp only [Act.put, List.setIfInBounds_toArray, List.set_cons_zero, List.set_cons_succ, i64_w, i32_w]
                    rfl
                  refine pure_ (i := 1) (N := some 37) (v := ?_) (a' := ?_) #[true, true, false, false, false, false, false, false, false] rfl rfl (any_of HT_.out (by kernel_rfl)) (fun _ _ _ h => h) (Or.inl ⟨by rfl, ?_⟩) ?_ ?_
                  rotate_left
                  · intro w'
                    go_simp
                    with_reducible rfl
                  rotate_left
                  · simp only [Act.put, List.setIfInBounds_toArray, List.set_cons_zero, List.set_cons_succ, i64_w, i32_w]
                    rfl
                  refine pure_ (i := 2) (N := some 38) (v := ?_) (a' := ?_) #[true, true, true, false, false, false, false, false, false] rfl rfl (any_of HT_.out (by kernel_rfl)) (fun _ _ _ h => h) (Or.inl ⟨by rfl, ?_⟩) ?_ ?_
                  rotate_left
                  · intro w'
                    go_simp
                    with_reducible rfl
                  rotate_left
                  · simp only [Act.put, List.setIfInBounds_toArray, List.set_cons_zero, List.set_cons_succ, i64_w, i32_w]
                    rfl
                  refine pure_ (i := 3) (N := some 39) (v := ?_) (a' := ?_) #[true, true, true, true, false, false, false, false, false] rfl rfl (any_of HT_.out (by kernel_rfl)) (fun _ _ _ h => h) (Or.inl ⟨by rfl, ?_⟩) ?_ ?_
                  rotate_left
                  · intro w'
                    go_simp
                    with_reducible rfl
                  rotate_left
                  · simp only [Act.put, List.setIfInBounds_toArray, List.set_cons_zero, List.set_cons_succ, i64_w, i32_w]
                    rfl
                  refine pure_ (i := 5) (N := some 41) (v := ?_) (a' := ?_) #[true, true, true, true, false, true, false, false, false] rfl rfl (any_of HT_.out (by kernel_rfl)) (fun _ _ _ h => h) (Or.inl ⟨by rfl, ?_⟩) ?_ ?_
                  rotate_left
                  · intro w'
                    go_simp
                    with_reducible rfl
                  rotate_left
                  · simp only [Act.put, List.setIfInBounds_toArray, List.set_cons_zero, List.set_cons_succ, i64_w, i32_w]
                    rfl
                  refine take_ (i := 4) (N := some 40) (v := ?_) (a' := ?_) #[true, true, true, true, true, true, false, false, false] rfl rfl (take_ofW HT_.out HW_.out (by kernel_rfl)) (fun _ _ _ h => h) (Or.inl ⟨by rfl, ?_⟩) hHeld ?_ ?_
                  rotate_left
                  · rintro w' ⟨s0, s1, s2, s3, s4, s5, s6, s7, s8, s9, s10, s11, s12, s13⟩
                    go_simp
                    with_reducible rfl
                  rotate_left
                  · simp only [Act.put, List.setIfInBounds_toArray, List.set_cons_zero, List.set_cons_succ, i64_w, i32_w]
                    rfl
                  refine take_ (i := 6) (N := some 42) (v := ?_) (a' := ?_) #[true, true, true, true, true, true, true, false, false] rfl rfl (take_ofW HT_.out HW_.out (by kernel_rfl)) (fun _ _ _ h => h) (Or.inl ⟨by rfl, ?_⟩) hHeld ?_ ?_
                  rotate_left
                  · rintro w' ⟨s0, s1, s2, s3, s4, s5, s6, s7, s8, s9, s10, s11, s12, s13⟩
                    go_simp
                    with_reducible rfl
                  rotate_left
                  · simp only [Act.put, List.setIfInBounds_toArray, List.set_cons_zero, List.set_cons_succ, i64_w, i32_w]
                    rfl
                  refine one_ (i := 7) (N := some 43) #[true, true, true, true, true, true, true, true, false] rfl rfl (one_of HT_.out (by kernel_rfl)) (by decide) (fun K hK => ?_)
                  refine goes_ Try.func14 (by kernel_rfl) rfl #[.agg #[.int .u8 ((rd_T27 t138 t127).f1.f0), .int .u32 ((rd_T27 t138 t127).f1.f1), .int .u32 ((rd_T27 t138 t127).f1.f2)], .agg #[.int .u8 a1_1, .int .u32 a1_2, .int .u32 a1_3]] (by rfl) rfl rfl (by (try simp only [List.map_toArray, List.map_cons, List.map_nil]); first | done | rfl | (simp only [List.length_drop, List.length_take]; rfl)) ?_
                  with_reducible refine (item_Cmp.calls kj2 ((rd_T27 t138 t127).f1.f0) ((rd_T27 t138 t127).f1.f1) ((rd_T27 t138 t127).f1.f2) a1_1 a1_2 a1_3 t142 _ A18.out).mono ?_
                  rintro e w61 ⟨rfl, hb⟩
                  have HS7_ := (hb.cell (World.block_lt_of_cell? _ _ (hHeld.2.2.2.2.2.2.2.1))).trans (hHeld.2.2.2.2.2.2.2.1)
                  have HS8_ := (hb.cell (World.block_lt_of_cell? _ _ (hHeld.2.2.2.2.2.2.2.2.1))).trans (hHeld.2.2.2.2.2.2.2.2.1)
                  have HS9_ := (hb.cell (World.block_lt_of_cell? _ _ (hHeld.2.2.2.2.2.2.2.2.2.1))).trans (hHeld.2.2.2.2.2.2.2.2.2.1)
                  have HS10_ := (hb.cell (World.block_lt_of_cell? _ _ (hHeld.2.2.2.2.2.2.2.2.2.2.1))).trans (hHeld.2.2.2.2.2.2.2.2.2.2.1)
                  have HS11_ := (hb.cell (World.block_lt_of_cell? _ _ (hHeld.2.2.2.2.2.2.2.2.2.2.2.1))).trans (hHeld.2.2.2.2.2.2.2.2.2.2.2.1)
                  have HS12_ := (hb.cell (World.block_lt_of_cell? _ _ (hHeld.2.2.2.2.2.2.2.2.2.2.2.2.1))).trans (hHeld.2.2.2.2.2.2.2.2.2.2.2.2.1)
                  have HS13_ := (hb.cell (World.block_lt_of_cell? _ _ (hHeld.2.2.2.2.2.2.2.2.2.2.2.2.2))).trans (hHeld.2.2.2.2.2.2.2.2.2.2.2.2.2)
                  refine ⟨_, rfl, ?_⟩
                  have n0_ := Aside0.mk (Kd.R_below (by (with_reducible repeat (first | apply Kd.R_alloc | apply Kd.R_drewN | apply Kd.R_drew)); exact HO140.out) hb)
                  have n1_ := Aside0.mk (blk_below (g := gb124) (o := .cells #[.int .u8 a1_0, .int .u8 a1_1, .int .u32 a1_2, .int .u32 a1_3, .int .i64 a1_4, .int .u8 a1_5, .int .u32 a1_6] 27 (0, 0)) (by (with_reducible repeat (first | refine blk_drewN ?_ _ | refine blk_drew ?_ | refine blk_alloc ?_ _)); exact BK124.out) hb)
                  have n2_ := Aside0.mk (below_step (by repeat (first | (with_reducible first | exact HB.out | apply below_alloc | apply pw_below_drewN | apply below_drew1 | refine below_set ?_ GE124.out) | exact HB.out)) hb)
                  clear HO140
                  clear BK124
                  clear HB
                  have HO140 := n0_
                  have BK124 := n1_
                  have HB := n2_
                  clear n0_ n1_ n2_
                  (try clear hb)
                  (try clear hb2)
                  (try clear hk)
                  (try clear hi)
                  refine hK.out _ _ ⟨(blk_cell BK124.out 0).trans rfl, (blk_cell BK124.out 1).trans rfl, (blk_cell BK124.out 2).trans rfl, (blk_cell BK124.out 3).trans rfl, (blk_cell BK124.out 4).trans rfl, (blk_cell BK124.out 5).trans rfl, (blk_cell BK124.out 6).trans rfl, HS7_, HS8_, HS9_, HS10_, HS11_, HS12_, HS13_⟩ (fun hHeld => ?_)
                  clear hK K
                  refine norm_ (a' := ?_) ?_ ?_
                  rotate_left
                  · show Act.put _ (some 43) _ = _
                    simp only [Act.put, List.setIfInBounds_toArray, List.set_cons_zero, List.set_cons_succ, i64_w, i32_w]
                    rfl
                  refine pure_ (i := 8) (N := some 9) (v := ?_) (a' := ?_) #[true, true, true, true, true, true, true, true, true] rfl rfl (any_of HT_.out (by kernel_rfl)) (fun _ _ _ h => h) (Or.inl ⟨by rfl, ?_⟩) ?_ ?_
                  rotate_left
                  · intro w'
                    go_simp
                    with_reducible rfl
                  rotate_left
                  · simp only [Act.put, List.setIfInBounds_toArray, List.set_cons_zero, List.set_cons_succ, i64_w, i32_w]
                    rfl
                  refine done_ (done_of HT_.out (by kernel_rfl)) ?_
                  try go_wp2
                  go_ret2
                  exact ⟨_, by first | rfl | (simp [errW_none, errW_some] <;> rfl) | (simp [*, errW_none, errW_some] <;> rfl), by (with_reducible repeat (first | apply Kd.R_alloc | apply Kd.R_drewN | apply Kd.R_drew)); exact Kd.R_mono HO140.out (fun _ hk => trivial), by repeat (first | (with_reducible first | exact HB.out | apply below_alloc | apply pw_below_drewN | apply below_drew1 | refine below_set ?_ GE124.out) | exact HB.out)⟩
            · rw [if_neg c17] at H
              exact absurd H (by simp)
          · rw [if_neg c16] at H
            exact absurd H (by simp)
        · replace c14 := Bool.eq_false_iff.mpr c14
          subst c14
          have H1 : ((slices_Clone_Entry.f l0).bind fun t129 => ((slices_Insert_Entry.f t129 t127 (([(⟨a1_0, (⟨a1_1, a1_2, a1_3⟩ : S25), a1_4, a1_5, a1_6⟩ : S27)] : List (S27)))).bind fun t135 => (some (t135, none)))) = some (r1, r2) := by rw [if_neg (show ¬ (false = true) by decide)] at H; exact H
          clear H
          have H := H1
          clear H1
          replace H := Option.bind_eq_some_iff.mp H
          obtain ⟨t129, A620, H⟩ := H
          replace H : ((slices_Insert_Entry.f t129 t127 (([(⟨a1_0, (⟨a1_1, a1_2, a1_3⟩ : S25), a1_4, a1_5, a1_6⟩ : S27)] : List (S27)))).bind fun t135 => (some (t135, none))) = some (r1, r2) := H
          have A62 := Aside0.mk A620
          clear A620
          obtain ⟨y132, hy132⟩ : ∃ y_ : List (S27), y_ = (([(⟨a1_0, (⟨a1_1, a1_2, a1_3⟩ : S25), a1_4, a1_5, a1_6⟩ : S27)] : List (S27))) := ⟨_, rfl⟩
          replace H : ((slices_Insert_Entry.f t129 t127 y132).bind fun t135 => (some (t135, none))) = some (r1, r2) := by first | (rw [hy132]; with_reducible exact H) | (have H2_ := (Option.bind_some _ _).symm.trans H; rw [hy132]; with_reducible exact H2_) | (have H2_ := (Option.bind_some _ _).symm.trans H; with_reducible exact H2_) | with_reducible exact H | (rw [hy132]; exact H) | exact H
          have Ny132 := Aside0.mk hy132
          clear hy132
          replace H := Option.bind_eq_some_iff.mp H
          obtain ⟨t135, A630, H⟩ := H
          replace H : (some (t135, none)) = some (r1, r2) := H
          have A63 := Aside0.mk A630
          clear A630
          simp only [Option.some.injEq, Prod.mk.injEq] at H
          obtain ⟨rfl, rfl⟩ := H
          have hcz64_0 : wc.cell? ⟨gb124, 0, none⟩ = some (.int .u8 a1_0) := (blk_cell BK124.out 0).trans rfl
          have hcz64_1 : wc.cell? ⟨gb124, 1, none⟩ = some (.int .u8 a1_1) := (blk_cell BK124.out 1).trans rfl
          have hcz64_2 : wc.cell? ⟨gb124, 2, none⟩ = some (.int .u32 a1_2) := (blk_cell BK124.out 2).trans rfl
          have hcz64_3 : wc.cell? ⟨gb124, 3, none⟩ = some (.int .u32 a1_3) := (blk_cell BK124.out 3).trans rfl
          have hcz64_4 : wc.cell? ⟨gb124, 4, none⟩ = some (.int .i64 a1_4) := (blk_cell BK124.out 4).trans rfl
          have hcz64_5 : wc.cell? ⟨gb124, 5, none⟩ = some (.int .u8 a1_5) := (blk_cell BK124.out 5).trans rfl
          have hcz64_6 : wc.cell? ⟨gb124, 6, none⟩ = some (.int .u32 a1_6) := (blk_cell BK124.out 6).trans rfl
          have hfz64_0 := blk_frozen BK124.out 0
          have hfz64_1 := blk_frozen BK124.out 1
          have hfz64_2 := blk_frozen BK124.out 2
          have hfz64_3 := blk_frozen BK124.out 3
          have hfz64_4 := blk_frozen BK124.out 4
          have hfz64_5 := blk_frozen BK124.out 5
          have hfz64_6 := blk_frozen BK124.out 6
          try go_wp2_with (first | ((with_reducible refine gate_callee (f := 39) rfl ?_); refine goesL_ (some 23) rfl rfl Try.func39 (by kernel_rfl) rfl #[.slice A0 l0.length c0, .int .u8 a1_0, .func (.func 40) #[] #[]] rfl (by (try simp only [List.map_toArray, List.map_cons, List.map_nil]); first | done | rfl | (simp only [List.length_drop, List.length_take]; rfl)) ?_; (with_reducible refine (slices_BinarySearchFunc_Entry_uint8.calls _ _ l0 a1_0  t127 false _ ?side1 ?side2 A13.out).mono ?_); (case side1 => repeat (first | exact (Kd.C_below HR0.out HB.out) | (with_reducible refine Kd.C_alloc ?_ _) | (with_reducible refine Kd.C_drewN ?_ _) | (with_reducible refine Kd.C_drew ?_))); (case side2 => exact HC0.out); rintro e w65 ⟨rfl, hb⟩; refine ⟨_, rfl, ?_⟩; have n0_ := Aside0.mk (blk_below (g := gb124) (o := .cells #[.int .u8 a1_0, .int .u8 a1_1, .int .u32 a1_2, .int .u32 a1_3, .int .i64 a1_4, .int .u8 a1_5, .int .u32 a1_6] 27 (0, 0)) (by (with_reducible repeat (first | refine blk_drewN ?_ _ | refine blk_drew ?_ | refine blk_alloc ?_ _)); exact BK124.out) hb); have n1_ := Aside0.mk (below_step (by repeat (first | (with_reducible first | exact HB.out | apply below_alloc | apply pw_below_drewN | apply below_drew1 | refine below_set ?_ GE124.out) | exact HB.out)) hb); clear BK124; clear HB; have BK124 := n0_; have HB := n1_; clear n0_ n1_; (try clear hb); (try clear hb2); (try clear hk); (try clear hi)))
          have n0_ := Aside0.mk (blk_drew BK124.out)
          have n1_ := Aside0.mk (below_drew1 HB.out)
          clear BK124
          clear HB
          have BK124 := n0_
          have HB := n1_
          clear n0_ n1_
          refine start_ (n := 8) (S := fun w' => w'.cell? ⟨gb124, 0, none⟩ = some (.int .u8 a1_0) ∧ w'.cell? ⟨gb124, 1, none⟩ = some (.int .u8 a1_1) ∧ w'.cell? ⟨gb124, 2, none⟩ = some (.int .u32 a1_2) ∧ w'.cell? ⟨gb124, 3, none⟩ = some (.int .u32 a1_3) ∧ w'.cell? ⟨gb124, 4, none⟩ = some (.int .i64 a1_4) ∧ w'.cell? ⟨gb124, 5, none⟩ = some (.int .u8 a1_5) ∧ w'.cell? ⟨gb124, 6, none⟩ = some (.int .u32 a1_6)) (ds := []) #[false, false, false, false, false, false, false, false] (by kernel_rfl) rfl rfl ⟨(blk_cell BK124.out 0).trans rfl, (blk_cell BK124.out 1).trans rfl, (blk_cell BK124.out 2).trans rfl, (blk_cell BK124.out 3).trans rfl, (blk_cell BK124.out 4).trans rfl, (blk_cell BK124.out 5).trans rfl, (blk_cell BK124.out 6).trans rfl⟩ (fun hHeld => ?_); refine with_tabW item_Take.tab5 item_Take.bits5 (fun HT_ HW_ => ?_)
          generalize w65.drew = w66 at BK124 HB hHeld ⊢
          refine pure_ (i := 0) (N := some 28) (v := ?_) (a' := ?_) #[true, false, false, false, false, false, false, false] rfl rfl (any_of HT_.out (by kernel_rfl)) (fun _ _ _ h => h) (Or.inl ⟨by rfl, ?_⟩) ?_ ?_
          rotate_left
          · intro w'
            go_simp
            with_reducible rfl
          rotate_left
          · simp only [Act.put, List.setIfInBounds_toArray, List.set_cons_zero, List.set_cons_succ, i64_w, i32_w]
            rfl
          refine pure_ (i := 2) (N := some 30) (v := ?_) (a' := ?_) #[true, false, true, false, false, false, false, false] rfl rfl (any_of HT_.out (by kernel_rfl)) (fun _ _ _ h => h) (Or.inl ⟨by rfl, ?_⟩) ?_ ?_
          rotate_left
          · intro w'
            go_simp
            with_reducible rfl
          rotate_left
          · simp only [Act.put, List.setIfInBounds_toArray, List.set_cons_zero, List.set_cons_succ, i64_w, i32_w]
            rfl
          refine take_ (i := 3) (N := some 31) (v := ?_) (a' := ?_) #[true, false, true, true, false, false, false, false] rfl rfl (take_ofW HT_.out HW_.out (by kernel_rfl)) (fun _ _ _ h => h) (Or.inl ⟨by rfl, ?_⟩) hHeld ?_ ?_
          rotate_left
          · rintro w' ⟨s0, s1, s2, s3, s4, s5, s6⟩
            go_simp
            with_reducible rfl
          rotate_left
          · simp only [Act.put, List.setIfInBounds_toArray, List.set_cons_zero, List.set_cons_succ, i64_w, i32_w]
            rfl
          refine join_ (σ := Value × Value) 3 #[true, true, true, true, true, false, false, false] (fun s_ => [(29, s_.1), (32, s_.2)]) (fun s_ w' => (w'.cell? ⟨gb124, 0, none⟩ = some (.int .u8 a1_0) ∧ w'.cell? ⟨gb124, 1, none⟩ = some (.int .u8 a1_1) ∧ w'.cell? ⟨gb124, 2, none⟩ = some (.int .u32 a1_2) ∧ w'.cell? ⟨gb124, 3, none⟩ = some (.int .u32 a1_3) ∧ w'.cell? ⟨gb124, 4, none⟩ = some (.int .i64 a1_4) ∧ w'.cell? ⟨gb124, 5, none⟩ = some (.int .u8 a1_5) ∧ w'.cell? ⟨gb124, 6, none⟩ = some (.int .u32 a1_6)) ∧ (Kd.R k27 27 w' w.heap.size (fun k_ => some k_ ≠ (s_.2 : Value).ownBlock ∧ k_ ≠ gb124) s_.1 t129) ∧ (Kd.R k27 27 w' w.heap.size (fun k_ => some k_ ≠ (s_.1 : Value).ownBlock ∧ k_ ≠ gb124) s_.2 y132) ∧ (w'.heap[gb124]? = some (.cells #[.int .u8 a1_0, .int .u8 a1_1, .int .u32 a1_2, .int .u32 a1_3, .int .i64 a1_4, .int .u8 a1_5, .int .u32 a1_6] 27 (0, 0))) ∧ (Below w.heap.size w w')) ?_ ?_
          rotate_left
          · intro hCont
            refine two_ (i := 1) (j := 4) (Ni := some 29) (Nj := some 32) #[true, true, true, true, false, false, false, false] #[true, false, true, true, true, false, false, false] rfl rfl rfl rfl (two_of HT_.out (by kernel_rfl)) (by decide) (by decide) (fun K hK => ?_) (fun K hK => ?_)
            · skip
              refine goes_ Try.func43 (by kernel_rfl) rfl #[.slice A0 l0.length c0] (by rfl) rfl rfl (by (try simp only [List.map_toArray, List.map_cons, List.map_nil]); first | done | rfl | (simp only [List.length_drop, List.length_take]; rfl)) ?_
              with_reducible refine (slices_Clone_Entry.calls _ _ l0 t129 _ ?side1 ?side2 A62.out).mono ?_
              (case side1 => repeat (first | exact (Kd.C_below HR0.out HB.out) | (with_reducible refine Kd.C_alloc ?_ _) | (with_reducible refine Kd.C_drewN ?_ _) | (with_reducible refine Kd.C_drew ?_)))
              (case side2 => exact HC0.out)
              rintro e w67 ⟨v130, rfl, ho0, hb⟩
              refine ⟨_, rfl, ?_⟩
              have n0_ := Aside0.mk (Kd.R_lower (Kd.R_newB ho0 (g := gb124) (o := .cells #[.int .u8 a1_0, .int .u8 a1_1, .int .u32 a1_2, .int .u32 a1_3, .int .i64 a1_4, .int .u8 a1_5, .int .u32 a1_6] 27 (0, 0)) (by (with_reducible repeat (first | refine blk_drewN ?_ _ | refine blk_drew ?_ | refine blk_alloc ?_ _)); exact BK124.out)) (below_size (by repeat (first | (with_reducible first | exact HB.out | apply below_alloc | apply pw_below_drewN | apply below_drew1 | refine below_set ?_ GE124.out) | exact HB.out))))
              have n1_ := Aside0.mk (blk_below (g := gb124) (o := .cells #[.int .u8 a1_0, .int .u8 a1_1, .int .u32 a1_2, .int .u32 a1_3, .int .i64 a1_4, .int .u8 a1_5, .int .u32 a1_6] 27 (0, 0)) (by (with_reducible repeat (first | refine blk_drewN ?_ _ | refine blk_drew ?_ | refine blk_alloc ?_ _)); exact BK124.out) hb)
              have n2_ := Aside0.mk (below_step (by repeat (first | (with_reducible first | exact HB.out | apply below_alloc | apply pw_below_drewN | apply below_drew1 | refine below_set ?_ GE124.out) | exact HB.out)) hb)
              clear BK124
              clear HB
              have HO131 := n0_
              have BK124 := n1_
              have HB := n2_
              clear n0_ n1_ n2_
              (try clear hb)
              (try clear hb2)
              (try clear hk)
              (try clear hi)
              (try clear ho0)
              refine hK.out _ _ ⟨(blk_cell BK124.out 0).trans rfl, (blk_cell BK124.out 1).trans rfl, (blk_cell BK124.out 2).trans rfl, (blk_cell BK124.out 3).trans rfl, (blk_cell BK124.out 4).trans rfl, (blk_cell BK124.out 5).trans rfl, (blk_cell BK124.out 6).trans rfl⟩ (fun hHeld => ?_)
              clear hK K
              refine norm_ (a' := ?_) ?_ ?_
              rotate_left
              · show Act.put _ (some 29) _ = _
                simp only [Act.put, List.setIfInBounds_toArray, List.set_cons_zero, List.set_cons_succ, i64_w, i32_w]
                rfl
              refine one_ (i := 4) (N := some 32) #[true, true, true, true, true, false, false, false] rfl rfl (one_of HT_.out (by kernel_rfl)) (by decide) (fun K hK => ?_)
              refine Kd.R_lit_step k27 _ 27 ?hg (N := 32) ?hd (xs := ([(⟨a1_0, (⟨a1_1, a1_2, a1_3⟩ : S25), a1_4, a1_5, a1_6⟩ : S27)] : List (S27))) (inner := [.int .u8 a1_0, .int .u8 a1_1, .int .u32 a1_2, .int .u32 a1_3, .int .i64 a1_4, .int .u8 a1_5, .int .u32 a1_6]) (ok := fun _ => True) (okp := fun _ => True) ?hr ?hp (fun _ hk => hk) trivial (Below.refl _ _) (Nat.le_refl _) (by simp) ?_; (case hd => rfl); (case hg => rfl); (case hr => first | (go_simp; done) | (go_simp; rfl)); (case hp => exact (Reps.c7 (show Kd.M k27 _ _ _ (⟨a1_0, (⟨a1_1, a1_2, a1_3⟩ : S25), a1_4, a1_5, a1_6⟩ : S27) [.int .u8 a1_0, .int .u8 a1_1, .int .u32 a1_2, .int .u32 a1_3, .int .i64 a1_4, .int .u8 a1_5, .int .u32 a1_6] from (k27_mkM _ _ _ (⟨a1_0, (⟨a1_1, a1_2, a1_3⟩ : S25), a1_4, a1_5, a1_6⟩ : S27) )) (Reps.none _ _)))
              intro v133 w68 ho69 hb hg_ hnew_
              clear hg_ hnew_
              (first | rw [← Ny132.out] at ho69 | (simp only [Int.reduceToNat] at ho69; rw [← Ny132.out] at ho69))
              have n0_ := Aside0.mk (Kd.R_elder' (by (with_reducible repeat (first | apply Kd.R_alloc | apply Kd.R_drewN | apply Kd.R_drew)); exact HO131.out) (Kd.R_base ho69) hb)
              have n1_ := Aside0.mk (Kd.R_lower (Kd.R_newB (Kd.R_new' ho69 (Kd.R_lt (by (with_reducible repeat (first | apply Kd.R_alloc | apply Kd.R_drewN | apply Kd.R_drew)); exact HO131.out))) (g := gb124) (o := .cells #[.int .u8 a1_0, .int .u8 a1_1, .int .u32 a1_2, .int .u32 a1_3, .int .i64 a1_4, .int .u8 a1_5, .int .u32 a1_6] 27 (0, 0)) (by (with_reducible repeat (first | refine blk_drewN ?_ _ | refine blk_drew ?_ | refine blk_alloc ?_ _)); exact BK124.out)) (below_size (by repeat (first | (with_reducible first | exact HB.out | apply below_alloc | apply pw_below_drewN | apply below_drew1 | refine below_set ?_ GE124.out) | exact HB.out))))
              have n2_ := Aside0.mk (blk_below (g := gb124) (o := .cells #[.int .u8 a1_0, .int .u8 a1_1, .int .u32 a1_2, .int .u32 a1_3, .int .i64 a1_4, .int .u8 a1_5, .int .u32 a1_6] 27 (0, 0)) (by (with_reducible repeat (first | refine blk_drewN ?_ _ | refine blk_drew ?_ | refine blk_alloc ?_ _)); exact BK124.out) hb)
              have n3_ := Aside0.mk (below_step (by repeat (first | (with_reducible first | exact HB.out | apply below_alloc | apply pw_below_drewN | apply below_drew1 | refine below_set ?_ GE124.out) | exact HB.out)) hb)
              clear HO131
              clear BK124
              clear HB
              have HO131 := n0_
              have HO134 := n1_
              have BK124 := n2_
              have HB := n3_
              clear n0_ n1_ n2_ n3_
              clear hb ho69
              refine hK.out _ _ ⟨(blk_cell BK124.out 0).trans rfl, (blk_cell BK124.out 1).trans rfl, (blk_cell BK124.out 2).trans rfl, (blk_cell BK124.out 3).trans rfl, (blk_cell BK124.out 4).trans rfl, (blk_cell BK124.out 5).trans rfl, (blk_cell BK124.out 6).trans rfl⟩ (fun hHeld => ?_)
              clear hK K
              refine norm_ (a' := ?_) ?_ ?_
              rotate_left
              · show Act.put _ (some 32) _ = _
                simp only [Act.put, List.setIfInBounds_toArray, List.set_cons_zero, List.set_cons_succ, i64_w, i32_w]
                rfl
              exact norm_ (by simp only [putAll, Act.put, List.setIfInBounds_toArray, List.set_cons_zero, List.set_cons_succ]) (hCont (v130, v133) _ ⟨hHeld, (by (with_reducible repeat (first | apply Kd.R_alloc | apply Kd.R_drewN | apply Kd.R_drew)); exact Kd.R_mono HO131.out (fun _ hk => ⟨hk.2, hk.1.2⟩)), (by (with_reducible repeat (first | apply Kd.R_alloc | apply Kd.R_drewN | apply Kd.R_drew)); exact Kd.R_mono HO134.out (fun _ hk => ⟨hk.1.2, hk.2⟩)), (by (with_reducible repeat (first | refine blk_drewN ?_ _ | refine blk_drew ?_ | refine blk_alloc ?_ _)); exact BK124.out), (by repeat (first | (with_reducible first | exact HB.out | apply below_alloc | apply pw_below_drewN | apply below_drew1 | refine below_set ?_ GE124.out) | exact HB.out))⟩)
            · skip
              refine Kd.R_lit_step k27 _ 27 ?hg (N := 32) ?hd (xs := ([(⟨a1_0, (⟨a1_1, a1_2, a1_3⟩ : S25), a1_4, a1_5, a1_6⟩ : S27)] : List (S27))) (inner := [.int .u8 a1_0, .int .u8 a1_1, .int .u32 a1_2, .int .u32 a1_3, .int .i64 a1_4, .int .u8 a1_5, .int .u32 a1_6]) (ok := fun _ => True) (okp := fun _ => True) ?hr ?hp (fun _ hk => hk) trivial (Below.refl _ _) (Nat.le_refl _) (by simp) ?_; (case hd => rfl); (case hg => rfl); (case hr => first | (go_simp; done) | (go_simp; rfl)); (case hp => exact (Reps.c7 (show Kd.M k27 _ _ _ (⟨a1_0, (⟨a1_1, a1_2, a1_3⟩ : S25), a1_4, a1_5, a1_6⟩ : S27) [.int .u8 a1_0, .int .u8 a1_1, .int .u32 a1_2, .int .u32 a1_3, .int .i64 a1_4, .int .u8 a1_5, .int .u32 a1_6] from (k27_mkM _ _ _ (⟨a1_0, (⟨a1_1, a1_2, a1_3⟩ : S25), a1_4, a1_5, a1_6⟩ : S27) )) (Reps.none _ _)))
              intro v133 w67 ho68 hb hg_ hnew_
              clear hg_ hnew_
              (first | rw [← Ny132.out] at ho68 | (simp only [Int.reduceToNat] at ho68; rw [← Ny132.out] at ho68))
              have n0_ := Aside0.mk (Kd.R_lower (Kd.R_newB ho68 (g := gb124) (o := .cells #[.int .u8 a1_0, .int .u8 a1_1, .int .u32 a1_2, .int .u32 a1_3, .int .i64 a1_4, .int .u8 a1_5, .int .u32 a1_6] 27 (0, 0)) (by (with_reducible repeat (first | refine blk_drewN ?_ _ | refine blk_drew ?_ | refine blk_alloc ?_ _)); exact BK124.out)) (below_size (by repeat (first | (with_reducible first | exact HB.out | apply below_alloc | apply pw_below_drewN | apply below_drew1 | refine below_set ?_ GE124.out) | exact HB.out))))
              have n1_ := Aside0.mk (blk_below (g := gb124) (o := .cells #[.int .u8 a1_0, .int .u8 a1_1, .int .u32 a1_2, .int .u32 a1_3, .int .i64 a1_4, .int .u8 a1_5, .int .u32 a1_6] 27 (0, 0)) (by (with_reducible repeat (first | refine blk_drewN ?_ _ | refine blk_drew ?_ | refine blk_alloc ?_ _)); exact BK124.out) hb)
              have n2_ := Aside0.mk (below_step (by repeat (first | (with_reducible first | exact HB.out | apply below_alloc | apply pw_below_drewN | apply below_drew1 | refine below_set ?_ GE124.out) | exact HB.out)) hb)
              clear BK124
              clear HB
              have HO134 := n0_
              have BK124 := n1_
              have HB := n2_
              clear n0_ n1_ n2_
              clear hb ho68
              refine hK.out _ _ ⟨(blk_cell BK124.out 0).trans rfl, (blk_cell BK124.out 1).trans rfl, (blk_cell BK124.out 2).trans rfl, (blk_cell BK124.out 3).trans rfl, (blk_cell BK124.out 4).trans rfl, (blk_cell BK124.out 5).trans rfl, (blk_cell BK124.out 6).trans rfl⟩ (fun hHeld => ?_)
              clear hK K
              refine norm_ (a' := ?_) ?_ ?_
              rotate_left
              · show Act.put _ (some 32) _ = _
                simp only [Act.put, List.setIfInBounds_toArray, List.set_cons_zero, List.set_cons_succ, i64_w, i32_w]
                rfl
              refine one_ (i := 1) (N := some 29) #[true, true, true, true, true, false, false, false] rfl rfl (one_of HT_.out (by kernel_rfl)) (by decide) (fun K hK => ?_)
              refine goes_ Try.func43 (by kernel_rfl) rfl #[.slice A0 l0.length c0] (by rfl) rfl rfl (by (try simp only [List.map_toArray, List.map_cons, List.map_nil]); first | done | rfl | (simp only [List.length_drop, List.length_take]; rfl)) ?_
              with_reducible refine (slices_Clone_Entry.calls _ _ l0 t129 _ ?side1 ?side2 A62.out).mono ?_
              (case side1 => repeat (first | exact (Kd.C_below HR0.out HB.out) | (with_reducible refine Kd.C_alloc ?_ _) | (with_reducible refine Kd.C_drewN ?_ _) | (with_reducible refine Kd.C_drew ?_)))
              (case side2 => exact HC0.out)
              rintro e w69 ⟨v130, rfl, ho0, hb⟩
              refine ⟨_, rfl, ?_⟩
              have n0_ := Aside0.mk (Kd.R_elder' (by (with_reducible repeat (first | apply Kd.R_alloc | apply Kd.R_drewN | apply Kd.R_drew)); exact HO134.out) (Kd.R_base ho0) hb)
              have n1_ := Aside0.mk (Kd.R_lower (Kd.R_newB (Kd.R_new' ho0 (Kd.R_lt (by (with_reducible repeat (first | apply Kd.R_alloc | apply Kd.R_drewN | apply Kd.R_drew)); exact HO134.out))) (g := gb124) (o := .cells #[.int .u8 a1_0, .int .u8 a1_1, .int .u32 a1_2, .int .u32 a1_3, .int .i64 a1_4, .int .u8 a1_5, .int .u32 a1_6] 27 (0, 0)) (by (with_reducible repeat (first | refine blk_drewN ?_ _ | refine blk_drew ?_ | refine blk_alloc ?_ _)); exact BK124.out)) (below_size (by repeat (first | (with_reducible first | exact HB.out | apply below_alloc | apply pw_below_drewN | apply below_drew1 | refine below_set ?_ GE124.out) | exact HB.out))))
              have n2_ := Aside0.mk (blk_below (g := gb124) (o := .cells #[.int .u8 a1_0, .int .u8 a1_1, .int .u32 a1_2, .int .u32 a1_3, .int .i64 a1_4, .int .u8 a1_5, .int .u32 a1_6] 27 (0, 0)) (by (with_reducible repeat (first | refine blk_drewN ?_ _ | refine blk_drew ?_ | refine blk_alloc ?_ _)); exact BK124.out) hb)
              have n3_ := Aside0.mk (below_step (by repeat (first | (with_reducible first | exact HB.out | apply below_alloc | apply pw_below_drewN | apply below_drew1 | refine below_set ?_ GE124.out) | exact HB.out)) hb)
              clear HO134
              clear BK124
              clear HB
              have HO134 := n0_
              have HO131 := n1_
              have BK124 := n2_
              have HB := n3_
              clear n0_ n1_ n2_ n3_
              (try clear hb)
              (try clear hb2)
              (try clear hk)
              (try clear hi)
              (try clear ho0)
              refine hK.out _ _ ⟨(blk_cell BK124.out 0).trans rfl, (blk_cell BK124.out 1).trans rfl, (blk_cell BK124.out 2).trans rfl, (blk_cell BK124.out 3).trans rfl, (blk_cell BK124.out 4).trans rfl, (blk_cell BK124.out 5).trans rfl, (blk_cell BK124.out 6).trans rfl⟩ (fun hHeld => ?_)
              clear hK K
              refine norm_ (a' := ?_) ?_ ?_
              rotate_left
              · show Act.put _ (some 29) _ = _
                simp only [Act.put, List.setIfInBounds_toArray, List.set_cons_zero, List.set_cons_succ, i64_w, i32_w]
                rfl
              exact norm_ (by simp only [putAll, Act.put, List.setIfInBounds_toArray, List.set_cons_zero, List.set_cons_succ]) (hCont (v130, v133) _ ⟨hHeld, (by (with_reducible repeat (first | apply Kd.R_alloc | apply Kd.R_drewN | apply Kd.R_drew)); exact Kd.R_mono HO131.out (fun _ hk => ⟨hk.1.2, hk.2⟩)), (by (with_reducible repeat (first | apply Kd.R_alloc | apply Kd.R_drewN | apply Kd.R_drew)); exact Kd.R_mono HO134.out (fun _ hk => ⟨hk.2, hk.1.2⟩)), (by (with_reducible repeat (first | refine blk_drewN ?_ _ | refine blk_drew ?_ | refine blk_alloc ?_ _)); exact BK124.out), (by repeat (first | (with_reducible first | exact HB.out | apply below_alloc | apply pw_below_drewN | apply below_drew1 | refine below_set ?_ GE124.out) | exact HB.out))⟩)
          rintro ⟨v130, v133⟩ w70 ⟨hS_, h0_, h1_, h2_, h3_⟩
          have n0_ : Aside0 (Kd.R k27 27 w70 w.heap.size (fun k_ => some k_ ≠ (v133 : Value).ownBlock ∧ k_ ≠ gb124) v130 t129) := ⟨h0_⟩
          have n1_ : Aside0 (Kd.R k27 27 w70 w.heap.size (fun k_ => some k_ ≠ (v130 : Value).ownBlock ∧ k_ ≠ gb124) v133 y132) := ⟨h1_⟩
          have n2_ : Aside0 (w70.heap[gb124]? = some (.cells #[.int .u8 a1_0, .int .u8 a1_1, .int .u32 a1_2, .int .u32 a1_3, .int .i64 a1_4, .int .u8 a1_5, .int .u32 a1_6] 27 (0, 0))) := ⟨h2_⟩
          have n3_ : Aside0 (Below w.heap.size w w70) := ⟨h3_⟩
          clear BK124
          clear HB
          clear h0_ h1_ h2_ h3_
          have HO131 := n0_
          have HO134 := n1_
          have BK124 := n2_
          have HB := n3_
          clear n0_ n1_ n2_ n3_
          have hHeld : w70.cell? ⟨gb124, 0, none⟩ = some (.int .u8 a1_0) ∧ w70.cell? ⟨gb124, 1, none⟩ = some (.int .u8 a1_1) ∧ w70.cell? ⟨gb124, 2, none⟩ = some (.int .u32 a1_2) ∧ w70.cell? ⟨gb124, 3, none⟩ = some (.int .u32 a1_3) ∧ w70.cell? ⟨gb124, 4, none⟩ = some (.int .i64 a1_4) ∧ w70.cell? ⟨gb124, 5, none⟩ = some (.int .u8 a1_5) ∧ w70.cell? ⟨gb124, 6, none⟩ = some (.int .u32 a1_6) := hS_
          obtain ⟨Ao71, co71, eo71⟩ := Kd.R_slice HO131.out
          (first | subst eo71 | (injection eo71 with f1_ f2_ f3_; have f4_ := f1_.symm; have f5_ := f3_.symm; clear f1_ f2_ f3_; subst f4_; subst f5_))
          obtain ⟨Ao72, co72, eo72⟩ := Kd.R_slice HO134.out
          (first | subst eo72 | (injection eo72 with f1_ f2_ f3_; have f4_ := f1_.symm; have f5_ := f3_.symm; clear f1_ f2_ f3_; subst f4_; subst f5_))
          refine norm_ (a' := ?_) ?_ ?_
          rotate_left
          · simp only [putAll, Act.put, List.setIfInBounds_toArray, List.set_cons_zero, List.set_cons_succ]
            rfl
          refine one_ (i := 5) (N := some 33) #[true, true, true, true, true, true, false, false] rfl rfl (one_of HT_.out (by kernel_rfl)) (by decide) (fun K hK => ?_)
          refine goes_ Try.func42 (by kernel_rfl) rfl #[.slice Ao71 t129.length co71, .int .i64 t127, .slice Ao72 y132.length co72] (by rfl) rfl rfl (by (try simp only [List.map_toArray, List.map_cons, List.map_nil]); first | done | rfl | (simp only [List.length_drop, List.length_take]; rfl)) ?_
          with_reducible refine (slices_Insert_Entry.calls (fun k_ => some k_ = (.slice Ao71 t129.length co71 : Value).ownBlock) (.slice Ao71 t129.length co71) t129 t127 (fun k_ => some k_ = (.slice Ao72 y132.length co72 : Value).ownBlock) (.slice Ao72 y132.length co72) y132 t135 w _ ?side1 ?side2 ?side3 ?side4 ?side5 A63.out).mono ?_
          (case side1 => repeat (first | (with_reducible first | exact HB.out | apply below_alloc | apply pw_below_drewN | apply below_drew1 | refine below_set ?_ GE124.out) | exact HB.out))
          (case side2 => exact Kd.R_tight rfl HO131.out)
          (case side3 => exact fun k_ e_ => (HO131.out.1 k_ e_.symm).1)
          (case side4 => exact Kd.R_tight rfl HO134.out)
          (case side5 => exact fun k_ e_ => (HO134.out.1 k_ e_.symm).1)
          rintro e w73 ⟨v136, rfl, ho0, hb, hkp⟩
          refine ⟨_, rfl, ?_⟩
          have n0_ := Aside0.mk (blk_kept (by (with_reducible repeat (first | refine blk_drewN ?_ _ | refine blk_drew ?_ | refine blk_alloc ?_ _)); exact BK124.out) hkp (fun hs_ => Or.elim hs_ (fun e_ => (fun e_ => (Kd.R_away HO131.out (fun _ hk => hk.2)) e_) e_) (fun e_ => (fun e_ => (Kd.R_away HO134.out (fun _ hk => hk.2)) e_) e_)))
          have n1_ := Aside0.mk (Kd.R_mono (ok' := fun k_ => k_ ≠ gb124) ho0 (fun k_ hk_ => Or.elim hk_ (fun hs_ => Or.elim hs_ (fun hs_ => fun e_ => (Kd.R_away HO131.out (fun _ hk => hk.2)) (by rw [← e_]; exact hs_)) (fun hs_ => fun e_ => (Kd.R_away HO134.out (fun _ hk => hk.2)) (by rw [← e_]; exact hs_))) (fun hn_ => (Kd.freshB (g := gb124) (o := .cells #[.int .u8 a1_0, .int .u8 a1_1, .int .u32 a1_2, .int .u32 a1_3, .int .i64 a1_4, .int .u8 a1_5, .int .u32 a1_6] 27 (0, 0)) (by (with_reducible repeat (first | refine blk_drewN ?_ _ | refine blk_drew ?_ | refine blk_alloc ?_ _)); exact BK124.out) k_ hn_))))
          have n2_ := Aside0.mk (hb)
          clear BK124
          clear HB
          clear HO131
          clear HO134
          have BK124 := n0_
          have HO137 := n1_
          have HB := n2_
          clear n0_ n1_ n2_
          (try clear hb)
          (try clear hkp)
          (try clear ho0)
          refine hK.out _ _ ⟨(blk_cell BK124.out 0).trans rfl, (blk_cell BK124.out 1).trans rfl, (blk_cell BK124.out 2).trans rfl, (blk_cell BK124.out 3).trans rfl, (blk_cell BK124.out 4).trans rfl, (blk_cell BK124.out 5).trans rfl, (blk_cell BK124.out 6).trans rfl⟩ (fun hHeld => ?_)
          clear hK K
          refine norm_ (a' := ?_) ?_ ?_
          rotate_left
          · show Act.put _ (some 33) _ = _
            simp only [Act.put, List.setIfInBounds_toArray, List.set_cons_zero, List.set_cons_succ, i64_w, i32_w]
            rfl
          refine pure_ (i := 6) (N := some 4) (v := ?_) (a' := ?_) #[true, true, true, true, true, true, true, false] rfl rfl (any_of HT_.out (by kernel_rfl)) (fun _ _ _ h => h) (Or.inl ⟨by rfl, ?_⟩) ?_ ?_
          rotate_left
          · intro w'
            go_simp
            with_reducible rfl
          rotate_left
          · simp only [Act.put, List.setIfInBounds_toArray, List.set_cons_zero, List.set_cons_succ, i64_w, i32_w]
            rfl
          refine pure_ (i := 7) (N := some 5) (v := ?_) (a' := ?_) #[true, true, true, true, true, true, true, true] rfl rfl (any_of HT_.out (by kernel_rfl)) (fun _ _ _ h => h) (Or.inl ⟨by rfl, ?_⟩) ?_ ?_
          rotate_left
          · intro w'
            go_simp
            with_reducible rfl
          rotate_left
          · simp only [Act.put, List.setIfInBounds_toArray, List.set_cons_zero, List.set_cons_succ, i64_w, i32_w]
            rfl
          refine done_ (done_of HT_.out (by kernel_rfl)) ?_
          try go_wp2
          go_ret2
          exact ⟨_, by first | rfl | (simp [errW_none, errW_some] <;> rfl) | (simp [*, errW_none, errW_some] <;> rfl), by (with_reducible repeat (first | apply Kd.R_alloc | apply Kd.R_drewN | apply Kd.R_drew)); exact Kd.R_mono HO137.out (fun _ hk => trivial), by repeat (first | (with_reducible first | exact HB.out | apply below_alloc | apply pw_below_drewN | apply below_drew1 | refine below_set ?_ GE124.out) | exact HB.out)⟩
end Go.Proofs.Ytiminjibcafkaaa.X
