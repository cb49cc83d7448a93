-- MADE BY wip/prx.py (the kit's printer, with contracts proved by hand). Not trusted: Lean checks it.
import Derived.Test.YtiminjibcafkaaaANX0
namespace Go.Proofs.Ytiminjibcafkaaa.X
open Go.RowKit Go.Proofs.YtiminjibcafkaaaW.PrintWords Go.Proofs.YtiminjibcafkaaaW.PrintLast Go.Proofs.YtiminjibcafkaaaW.PrintMore
attribute [local go_sem] max2_int min2_int max_two min_two max_three min_three max_four min_four   -- for this text's walks alone
set_option linter.unusedVariables false
set_option linter.unusedSimpArgs false
/-! ### tidingsref02_RightVer: function 16 -/
def tidingsref02_RightVer.f (a0_0 : Int) (a0_1 : Int) (a0_2 : Int) : Option (Bool) := if a0_0 < 8 then (if a0_1 > 0 then (some (decide (a0_2 > 0))) else (some false)) else (some false)
set_option maxHeartbeats 8000000 in
set_option maxRecDepth 100000 in
theorem tidingsref02_RightVer.calls (a0_0 : Int) (a0_1 : Int) (a0_2 : Int) (r : Bool) (w : World) (h : tidingsref02_RightVer.f a0_0 a0_1 a0_2 = some r) :
    Calls Try.prog 16 #[.agg #[.int .u8 a0_0, .int .u32 a0_1, .int .u32 a0_2]] w fun e w' => e = .returned (.bool r) ∧ Below w.heap.size w w' := by
  have hu25 := Try.underlying25
  have HB := Aside0.mk (Below.refl w.heap.size w)
  have H : (if a0_0 < 8 then (if a0_1 > 0 then (some (decide (a0_2 > 0))) else (some false)) else (some false)) = some r := h
  clear h
  by_cases c2 : a0_0 < 8
  · rw [if_pos c2] at H
    have c2b0 : decide (a0_0 < 8) = true := decide_eq_true c2
    clear c2
    by_cases c3 : a0_1 > 0
    · rw [if_pos c3] at H
      have c3b0 : decide (0 < a0_1) = true := decide_eq_true c3
      clear c3
      obtain rfl := Option.some.inj H
      go_enter Try.func16, Try.ntmps16
      go_wp2_with (first | ((with_reducible refine gate_dst (N := 1) rfl ?_); refine box_event ?hg (N := 1) ?hd (cs := #[.int .u8 a0_0, .int .u32 a0_1, .int .u32 a0_2]) (t := 25) ?hr ?_; (case hd => rfl); (case hg => rfl); (case hr => first | (go_simp; done) | (go_simp; rfl)); intro gb197 hg w4 hbox hb; have n0_ := Aside0.mk (below_step (by repeat (first | (with_reducible first | exact HB.out | apply below_alloc | apply pw_below_drewN | apply below_drew1) | exact HB.out)) hb); have n1_ := Aside0.mk (hbox); have n2_ := Aside0.mk ((by rw [hg]; exact (below_size (by repeat (first | (with_reducible first | exact HB.out | apply below_alloc | apply pw_below_drewN | apply below_drew1) | exact HB.out))) : w.heap.size ≤ gb197)); have n3_ := Aside0.mk ((by rw [hg]; exact (below_size (by repeat (first | (with_reducible first | exact HB.out | apply below_alloc | apply pw_below_drewN | apply below_drew1) | exact HB.out))) : w.heap.size ≤ gb197)); clear HB; have HB := n0_; have BK197 := n1_; have GW197 := n2_; have GE197 := n3_; clear n0_ n1_ n2_ n3_; clear hb hbox hg; have hcz5_0 : w4.cell? ⟨gb197, 0, none⟩ = some (.int .u8 a0_0) := (blk_cell BK197.out 0).trans rfl; have hcz5_1 : w4.cell? ⟨gb197, 1, none⟩ = some (.int .u32 a0_1) := (blk_cell BK197.out 1).trans rfl; have hcz5_2 : w4.cell? ⟨gb197, 2, none⟩ = some (.int .u32 a0_2) := (blk_cell BK197.out 2).trans rfl; have hfz5_0 := blk_frozen BK197.out 0; have hfz5_1 := blk_frozen BK197.out 1; have hfz5_2 := blk_frozen BK197.out 2))
      go_ret
      exact ⟨by first | rfl | (simp [errW_none, errW_some] <;> rfl) | (simp [*, errW_none, errW_some] <;> rfl), by repeat (first | (with_reducible first | exact HB.out | apply below_alloc | apply pw_below_drewN | apply below_drew1 | refine below_set ?_ GE197.out) | exact HB.out)⟩
    · rw [if_neg c3] at H
      have c3b0 : decide (0 < a0_1) = false := decide_eq_false c3
      clear c3
      obtain rfl := Option.some.inj H
      go_enter Try.func16, Try.ntmps16
      go_wp2_with (first | ((with_reducible refine gate_dst (N := 1) rfl ?_); refine box_event ?hg (N := 1) ?hd (cs := #[.int .u8 a0_0, .int .u32 a0_1, .int .u32 a0_2]) (t := 25) ?hr ?_; (case hd => rfl); (case hg => rfl); (case hr => first | (go_simp; done) | (go_simp; rfl)); intro gb197 hg w6 hbox hb; have n0_ := Aside0.mk (below_step (by repeat (first | (with_reducible first | exact HB.out | apply below_alloc | apply pw_below_drewN | apply below_drew1) | exact HB.out)) hb); have n1_ := Aside0.mk (hbox); have n2_ := Aside0.mk ((by rw [hg]; exact (below_size (by repeat (first | (with_reducible first | exact HB.out | apply below_alloc | apply pw_below_drewN | apply below_drew1) | exact HB.out))) : w.heap.size ≤ gb197)); have n3_ := Aside0.mk ((by rw [hg]; exact (below_size (by repeat (first | (with_reducible first | exact HB.out | apply below_alloc | apply pw_below_drewN | apply below_drew1) | exact HB.out))) : w.heap.size ≤ gb197)); clear HB; have HB := n0_; have BK197 := n1_; have GW197 := n2_; have GE197 := n3_; clear n0_ n1_ n2_ n3_; clear hb hbox hg; have hcz7_0 : w6.cell? ⟨gb197, 0, none⟩ = some (.int .u8 a0_0) := (blk_cell BK197.out 0).trans rfl; have hcz7_1 : w6.cell? ⟨gb197, 1, none⟩ = some (.int .u32 a0_1) := (blk_cell BK197.out 1).trans rfl; have hcz7_2 : w6.cell? ⟨gb197, 2, none⟩ = some (.int .u32 a0_2) := (blk_cell BK197.out 2).trans rfl; have hfz7_0 := blk_frozen BK197.out 0; have hfz7_1 := blk_frozen BK197.out 1; have hfz7_2 := blk_frozen BK197.out 2))
      go_ret
      exact ⟨by first | rfl | (simp [errW_none, errW_some] <;> rfl) | (simp [*, errW_none, errW_some] <;> rfl), by repeat (first | (with_reducible first | exact HB.out | apply below_alloc | apply pw_below_drewN | apply below_drew1 | refine below_set ?_ GE197.out) | exact HB.out)⟩
  · rw [if_neg c2] at H
    have c2b0 : decide (a0_0 < 8) = false := decide_eq_false c2
    clear c2
    obtain rfl := Option.some.inj H
    go_enter Try.func16, Try.ntmps16
    go_wp2_with (first | ((with_reducible refine gate_dst (N := 1) rfl ?_); refine box_event ?hg (N := 1) ?hd (cs := #[.int .u8 a0_0, .int .u32 a0_1, .int .u32 a0_2]) (t := 25) ?hr ?_; (case hd => rfl); (case hg => rfl); (case hr => first | (go_simp; done) | (go_simp; rfl)); intro gb197 hg w8 hbox hb; have n0_ := Aside0.mk (below_step (by repeat (first | (with_reducible first | exact HB.out | apply below_alloc | apply pw_below_drewN | apply below_drew1) | exact HB.out)) hb); have n1_ := Aside0.mk (hbox); have n2_ := Aside0.mk ((by rw [hg]; exact (below_size (by repeat (first | (with_reducible first | exact HB.out | apply below_alloc | apply pw_below_drewN | apply below_drew1) | exact HB.out))) : w.heap.size ≤ gb197)); have n3_ := Aside0.mk ((by rw [hg]; exact (below_size (by repeat (first | (with_reducible first | exact HB.out | apply below_alloc | apply pw_below_drewN | apply below_drew1) | exact HB.out))) : w.heap.size ≤ gb197)); clear HB; have HB := n0_; have BK197 := n1_; have GW197 := n2_; have GE197 := n3_; clear n0_ n1_ n2_ n3_; clear hb hbox hg; have hcz9_0 : w8.cell? ⟨gb197, 0, none⟩ = some (.int .u8 a0_0) := (blk_cell BK197.out 0).trans rfl; have hcz9_1 : w8.cell? ⟨gb197, 1, none⟩ = some (.int .u32 a0_1) := (blk_cell BK197.out 1).trans rfl; have hcz9_2 : w8.cell? ⟨gb197, 2, none⟩ = some (.int .u32 a0_2) := (blk_cell BK197.out 2).trans rfl; have hfz9_0 := blk_frozen BK197.out 0; have hfz9_1 := blk_frozen BK197.out 1; have hfz9_2 := blk_frozen BK197.out 2))
    go_ret
    exact ⟨by first | rfl | (simp [errW_none, errW_some] <;> rfl) | (simp [*, errW_none, errW_some] <;> rfl), by repeat (first | (with_reducible first | exact HB.out | apply below_alloc | apply pw_below_drewN | apply below_drew1 | refine below_set ?_ GE197.out) | exact HB.out)⟩
/-! ### tidingsref02_RightEntry: function 10 -/
def tidingsref02_RightEntry.j0 : Nat → Bool → Int → Int → Int → Int → Int → Int → Int → Option (Bool)
  | 0, _, _, _, _, _, _, _, _ => none
  | k + 1, x11, x199000, x199001, x199002, x199003, x199004, x199005, x199006 => if x11 = true then (some false) else (if x199004 = 1 then (some (((x199005) % 4294967296) == (Int.tmod x199006 8))) else (if x199004 = 2 then (if x199005 < 8 then (some (x199006 == 0)) else (some false)) else (if x199004 = 3 then (if x199005 = 0 then (some (x199006 == 0)) else (some false)) else (some false))))
def tidingsref02_RightEntry.f (k : Nat) (a0_0 : Int) (a0_1 : Int) (a0_2 : Int) (a0_3 : Int) (a0_4 : Int) (a0_5 : Int) (a0_6 : Int) : Option (Bool) := (tidingsref02_RightVer.f a0_1 a0_2 a0_3).bind fun t199 => (if t199 = true then (tidingsref02_RightEntry.j0 k (decide (a0_0 ≥ 64)) a0_0 a0_1 a0_2 a0_3 a0_4 a0_5 a0_6) else (tidingsref02_RightEntry.j0 k true a0_0 a0_1 a0_2 a0_3 a0_4 a0_5 a0_6))
set_option maxHeartbeats 8000000 in
set_option maxRecDepth 100000 in
theorem tidingsref02_RightEntry.calls (k : Nat) (a0_0 : Int) (a0_1 : Int) (a0_2 : Int) (a0_3 : Int) (a0_4 : Int) (a0_5 : Int) (a0_6 : Int) (r : Bool) (w : World) (h : tidingsref02_RightEntry.f k a0_0 a0_1 a0_2 a0_3 a0_4 a0_5 a0_6 = some r) :
    Calls Try.prog 10 #[.agg #[.int .u8 a0_0, .int .u8 a0_1, .int .u32 a0_2, .int .u32 a0_3, .int .i64 a0_4, .int .u8 a0_5, .int .u32 a0_6]] w fun e w' => e = .returned (.bool r) ∧ Below w.heap.size w w' := by
  have hu27 := Try.underlying27
  have hu25 := Try.underlying25
  have HB := Aside0.mk (Below.refl w.heap.size w)
  have H : ((tidingsref02_RightVer.f a0_1 a0_2 a0_3).bind fun t199 => (if t199 = true then (tidingsref02_RightEntry.j0 k (decide (a0_0 ≥ 64)) a0_0 a0_1 a0_2 a0_3 a0_4 a0_5 a0_6) else (tidingsref02_RightEntry.j0 k true a0_0 a0_1 a0_2 a0_3 a0_4 a0_5 a0_6))) = some r := h
  clear h
  have HC2 := Aside0.mk H
  clear H
  go_enter Try.func10, Try.ntmps10
  go_upto_region 1 with (first | ((with_reducible refine gate_dst (N := 1) rfl ?_); refine box_event ?hg (N := 1) ?hd (cs := #[.int .u8 a0_0, .int .u8 a0_1, .int .u32 a0_2, .int .u32 a0_3, .int .i64 a0_4, .int .u8 a0_5, .int .u32 a0_6]) (t := 27) ?hr ?_; (case hd => rfl); (case hg => rfl); (case hr => first | (go_simp; done) | (go_simp; rfl)); intro gb198 hg w3 hbox hb; have n0_ := Aside0.mk (below_step (by repeat (first | (with_reducible first | exact HB.out | apply below_alloc | apply pw_below_drewN | apply below_drew1) | exact HB.out)) hb); have n1_ := Aside0.mk (hbox); have n2_ := Aside0.mk ((by rw [hg]; exact (below_size (by repeat (first | (with_reducible first | exact HB.out | apply below_alloc | apply pw_below_drewN | apply below_drew1) | exact HB.out))) : w.heap.size ≤ gb198)); have n3_ := Aside0.mk ((by rw [hg]; exact (below_size (by repeat (first | (with_reducible first | exact HB.out | apply below_alloc | apply pw_below_drewN | apply below_drew1) | exact HB.out))) : w.heap.size ≤ gb198)); clear HB; have HB := n0_; have BK198 := n1_; have GW198 := n2_; have GE198 := n3_; clear n0_ n1_ n2_ n3_; clear hb hbox hg))
  (try simp only [Act.put, List.setIfInBounds_toArray, List.set_cons_zero, List.set_cons_succ])
  go_cut [11] (fun v11 wc => ∃ (kq : Nat) (x11_1 : Bool), v11 = .bool x11_1 ∧ Aside0 (tidingsref02_RightEntry.j0 kq x11_1 a0_0 a0_1 a0_2 a0_3 a0_4 a0_5 a0_6 = some r) ∧ Aside0 (kq ≤ k) ∧ Aside0 (wc.heap[gb198]? = some (.cells #[.int .u8 a0_0, .int .u8 a0_1, .int .u32 a0_2, .int .u32 a0_3, .int .i64 a0_4, .int .u8 a0_5, .int .u32 a0_6] 27 (0, 0))) ∧ Aside0 (Below w.heap.size w wc))
  case first =>
    have H := HC2.out
    clear HC2
    replace H := Option.bind_eq_some_iff.mp H
    obtain ⟨t199, A40, H⟩ := H
    replace H : (if t199 = true then (tidingsref02_RightEntry.j0 k (decide (a0_0 ≥ 64)) a0_0 a0_1 a0_2 a0_3 a0_4 a0_5 a0_6) else (tidingsref02_RightEntry.j0 k true a0_0 a0_1 a0_2 a0_3 a0_4 a0_5 a0_6)) = some r := H
    have A4 := Aside0.mk A40
    clear A40
    by_cases c5 : t199 = true
    · subst c5
      have H1 : (tidingsref02_RightEntry.j0 k (decide (a0_0 ≥ 64)) a0_0 a0_1 a0_2 a0_3 a0_4 a0_5 a0_6) = some r := by rw [if_pos rfl] at H; exact H
      clear H
      have H := H1
      clear H1
      have H' := Aside0.mk H
      clear H
      have hcz6_0 : w3.cell? ⟨gb198, 0, none⟩ = some (.int .u8 a0_0) := (blk_cell BK198.out 0).trans rfl
      have hcz6_1 : w3.cell? ⟨gb198, 1, none⟩ = some (.int .u8 a0_1) := (blk_cell BK198.out 1).trans rfl
      have hcz6_2 : w3.cell? ⟨gb198, 2, none⟩ = some (.int .u32 a0_2) := (blk_cell BK198.out 2).trans rfl
      have hcz6_3 : w3.cell? ⟨gb198, 3, none⟩ = some (.int .u32 a0_3) := (blk_cell BK198.out 3).trans rfl
      have hcz6_4 : w3.cell? ⟨gb198, 4, none⟩ = some (.int .i64 a0_4) := (blk_cell BK198.out 4).trans rfl
      have hcz6_5 : w3.cell? ⟨gb198, 5, none⟩ = some (.int .u8 a0_5) := (blk_cell BK198.out 5).trans rfl
      have hcz6_6 : w3.cell? ⟨gb198, 6, none⟩ = some (.int .u32 a0_6) := (blk_cell BK198.out 6).trans rfl
      have hfz6_0 := blk_frozen BK198.out 0
      have hfz6_1 := blk_frozen BK198.out 1
      have hfz6_2 := blk_frozen BK198.out 2
      have hfz6_3 := blk_frozen BK198.out 3
      have hfz6_4 := blk_frozen BK198.out 4
      have hfz6_5 := blk_frozen BK198.out 5
      have hfz6_6 := blk_frozen BK198.out 6
      go_wp2_with (first | ((with_reducible refine gate_callee (f := 16) rfl ?_); refine goesL_ (some 5) rfl rfl Try.func16 (by kernel_rfl) rfl #[.agg #[.int .u8 a0_1, .int .u32 a0_2, .int .u32 a0_3]] rfl (by (try simp only [List.map_toArray, List.map_cons, List.map_nil]); first | done | rfl | (simp only [List.length_drop, List.length_take]; rfl)) ?_; (with_reducible refine (tidingsref02_RightVer.calls a0_1 a0_2 a0_3 true _ A4.out).mono ?_); rintro e w7 ⟨rfl, hb⟩; refine ⟨_, rfl, ?_⟩; have n0_ := Aside0.mk (blk_below (g := gb198) (o := .cells #[.int .u8 a0_0, .int .u8 a0_1, .int .u32 a0_2, .int .u32 a0_3, .int .i64 a0_4, .int .u8 a0_5, .int .u32 a0_6] 27 (0, 0)) (by (with_reducible repeat (first | refine blk_drewN ?_ _ | refine blk_drew ?_ | refine blk_alloc ?_ _)); exact BK198.out) hb); have n1_ := Aside0.mk (below_step (by repeat (first | (with_reducible first | exact HB.out | apply below_alloc | apply pw_below_drewN | apply below_drew1 | refine below_set ?_ GE198.out) | exact HB.out)) hb); clear BK198; clear HB; have BK198 := n0_; have HB := n1_; clear n0_ n1_; (try clear hb); (try clear hb2); (try clear hk); (try clear hi); have hcz8_0 : w7.cell? ⟨gb198, 0, none⟩ = some (.int .u8 a0_0) := (blk_cell BK198.out 0).trans rfl; have hcz8_1 : w7.cell? ⟨gb198, 1, none⟩ = some (.int .u8 a0_1) := (blk_cell BK198.out 1).trans rfl; have hcz8_2 : w7.cell? ⟨gb198, 2, none⟩ = some (.int .u32 a0_2) := (blk_cell BK198.out 2).trans rfl; have hcz8_3 : w7.cell? ⟨gb198, 3, none⟩ = some (.int .u32 a0_3) := (blk_cell BK198.out 3).trans rfl; have hcz8_4 : w7.cell? ⟨gb198, 4, none⟩ = some (.int .i64 a0_4) := (blk_cell BK198.out 4).trans rfl; have hcz8_5 : w7.cell? ⟨gb198, 5, none⟩ = some (.int .u8 a0_5) := (blk_cell BK198.out 5).trans rfl; have hcz8_6 : w7.cell? ⟨gb198, 6, none⟩ = some (.int .u32 a0_6) := (blk_cell BK198.out 6).trans rfl; have hfz8_0 := blk_frozen BK198.out 0; have hfz8_1 := blk_frozen BK198.out 1; have hfz8_2 := blk_frozen BK198.out 2; have hfz8_3 := blk_frozen BK198.out 3; have hfz8_4 := blk_frozen BK198.out 4; have hfz8_5 := blk_frozen BK198.out 5; have hfz8_6 := blk_frozen BK198.out 6))
      go_meet
      case rel => exact ⟨_, (decide (a0_0 ≥ 64)), (by first | rfl | (simp; done) | (simp [*]; done)), H', ⟨by first | omega | exact Nat.le_refl _⟩, ⟨by (with_reducible repeat (first | refine blk_drewN ?_ _ | refine blk_drew ?_ | refine blk_alloc ?_ _)); exact BK198.out⟩, ⟨by repeat (first | (with_reducible first | exact HB.out | apply below_alloc | apply pw_below_drewN | apply below_drew1 | refine below_set ?_ GE198.out) | exact HB.out)⟩⟩
    · replace c5 := Bool.eq_false_iff.mpr c5
      subst c5
      have H1 : (tidingsref02_RightEntry.j0 k true a0_0 a0_1 a0_2 a0_3 a0_4 a0_5 a0_6) = some r := by rw [if_neg (show ¬ (false = true) by decide)] at H; exact H
      clear H
      have H := H1
      clear H1
      have H' := Aside0.mk H
      clear H
      have hcz9_0 : w3.cell? ⟨gb198, 0, none⟩ = some (.int .u8 a0_0) := (blk_cell BK198.out 0).trans rfl
      have hcz9_1 : w3.cell? ⟨gb198, 1, none⟩ = some (.int .u8 a0_1) := (blk_cell BK198.out 1).trans rfl
      have hcz9_2 : w3.cell? ⟨gb198, 2, none⟩ = some (.int .u32 a0_2) := (blk_cell BK198.out 2).trans rfl
      have hcz9_3 : w3.cell? ⟨gb198, 3, none⟩ = some (.int .u32 a0_3) := (blk_cell BK198.out 3).trans rfl
      have hcz9_4 : w3.cell? ⟨gb198, 4, none⟩ = some (.int .i64 a0_4) := (blk_cell BK198.out 4).trans rfl
      have hcz9_5 : w3.cell? ⟨gb198, 5, none⟩ = some (.int .u8 a0_5) := (blk_cell BK198.out 5).trans rfl
      have hcz9_6 : w3.cell? ⟨gb198, 6, none⟩ = some (.int .u32 a0_6) := (blk_cell BK198.out 6).trans rfl
      have hfz9_0 := blk_frozen BK198.out 0
      have hfz9_1 := blk_frozen BK198.out 1
      have hfz9_2 := blk_frozen BK198.out 2
      have hfz9_3 := blk_frozen BK198.out 3
      have hfz9_4 := blk_frozen BK198.out 4
      have hfz9_5 := blk_frozen BK198.out 5
      have hfz9_6 := blk_frozen BK198.out 6
      go_wp2_with (first | ((with_reducible refine gate_callee (f := 16) rfl ?_); refine goesL_ (some 5) rfl rfl Try.func16 (by kernel_rfl) rfl #[.agg #[.int .u8 a0_1, .int .u32 a0_2, .int .u32 a0_3]] rfl (by (try simp only [List.map_toArray, List.map_cons, List.map_nil]); first | done | rfl | (simp only [List.length_drop, List.length_take]; rfl)) ?_; (with_reducible refine (tidingsref02_RightVer.calls a0_1 a0_2 a0_3 false _ A4.out).mono ?_); rintro e w10 ⟨rfl, hb⟩; refine ⟨_, rfl, ?_⟩; have n0_ := Aside0.mk (blk_below (g := gb198) (o := .cells #[.int .u8 a0_0, .int .u8 a0_1, .int .u32 a0_2, .int .u32 a0_3, .int .i64 a0_4, .int .u8 a0_5, .int .u32 a0_6] 27 (0, 0)) (by (with_reducible repeat (first | refine blk_drewN ?_ _ | refine blk_drew ?_ | refine blk_alloc ?_ _)); exact BK198.out) hb); have n1_ := Aside0.mk (below_step (by repeat (first | (with_reducible first | exact HB.out | apply below_alloc | apply pw_below_drewN | apply below_drew1 | refine below_set ?_ GE198.out) | exact HB.out)) hb); clear BK198; clear HB; have BK198 := n0_; have HB := n1_; clear n0_ n1_; (try clear hb); (try clear hb2); (try clear hk); (try clear hi)))
      go_meet
      case rel => exact ⟨_, (true), (by first | rfl | (simp; done) | (simp [*]; done)), H', ⟨by first | omega | exact Nat.le_refl _⟩, ⟨by (with_reducible repeat (first | refine blk_drewN ?_ _ | refine blk_drew ?_ | refine blk_alloc ?_ _)); exact BK198.out⟩, ⟨by repeat (first | (with_reducible first | exact HB.out | apply below_alloc | apply pw_below_drewN | apply below_drew1 | refine below_set ?_ GE198.out) | exact HB.out)⟩⟩
  case rest =>
    clear HC2
    try clear c1
    try clear p2
    try clear c5
    try clear c10
    try clear hcz6_0
    try clear hcz6_1
    try clear hcz6_2
    try clear hcz6_3
    try clear hcz6_4
    try clear hcz6_5
    try clear hcz6_6
    try clear hcz8_0
    try clear hcz8_1
    try clear hcz8_2
    try clear hcz8_3
    try clear hcz8_4
    try clear hcz8_5
    try clear hcz8_6
    try clear hcz9_0
    try clear hcz9_1
    try clear hcz9_2
    try clear hcz9_3
    try clear hcz9_4
    try clear hcz9_5
    try clear hcz9_6
    try clear hfz6_0
    try clear hfz6_1
    try clear hfz6_2
    try clear hfz6_3
    try clear hfz6_4
    try clear hfz6_5
    try clear hfz6_6
    try clear hfz8_0
    try clear hfz8_1
    try clear hfz8_2
    try clear hfz8_3
    try clear hfz8_4
    try clear hfz8_5
    try clear hfz8_6
    try clear hfz9_0
    try clear hfz9_1
    try clear hfz9_2
    try clear hfz9_3
    try clear hfz9_4
    try clear hfz9_5
    try clear hfz9_6
    obtain ⟨kq, x11_1, rfl, HA, HJ1, BK198, HB⟩ := hcut
    cases kq with
    | zero => exact absurd HA.out (by simp [tidingsref02_RightEntry.j0])
    | succ kj1 =>
      have H := HA.out
      clear HA
      simp only [tidingsref02_RightEntry.j0] at H
      by_cases c11 : x11_1 = true
      · subst c11
        have H1 : (some false) = some r := by rw [if_pos rfl] at H; exact H
        clear H
        have H := H1
        clear H1
        obtain rfl := Option.some.inj H
        go_wp2
        go_ret
        exact ⟨by first | rfl | (simp [errW_none, errW_some] <;> rfl) | (simp [*, errW_none, errW_some] <;> rfl), by repeat (first | (with_reducible first | exact HB.out | apply below_alloc | apply pw_below_drewN | apply below_drew1 | refine below_set ?_ GE198.out) | exact HB.out)⟩
      · replace c11 := Bool.eq_false_iff.mpr c11
        subst c11
        have H1 : (if a0_4 = 1 then (some (((a0_5) % 4294967296) == (Int.tmod a0_6 8))) else (if a0_4 = 2 then (if a0_5 < 8 then (some (a0_6 == 0)) else (some false)) else (if a0_4 = 3 then (if a0_5 = 0 then (some (a0_6 == 0)) else (some false)) else (some false)))) = some r := by rw [if_neg (show ¬ (false = true) by decide)] at H; exact H
        clear H
        have H := H1
        clear H1
        by_cases c12 : a0_4 = 1
        · rw [if_pos c12] at H
          have c12b0 : (a0_4 == 1) = true := beq_iff_eq.mpr c12
          have c12b1 : (a0_4 != 1) = false := bne_eq_false_iff_eq.mpr c12
          clear c12
          obtain rfl := Option.some.inj H
          have hcz13_0 : wc.cell? ⟨gb198, 0, none⟩ = some (.int .u8 a0_0) := (blk_cell BK198.out 0).trans rfl
          have hcz13_1 : wc.cell? ⟨gb198, 1, none⟩ = some (.int .u8 a0_1) := (blk_cell BK198.out 1).trans rfl
          have hcz13_2 : wc.cell? ⟨gb198, 2, none⟩ = some (.int .u32 a0_2) := (blk_cell BK198.out 2).trans rfl
          have hcz13_3 : wc.cell? ⟨gb198, 3, none⟩ = some (.int .u32 a0_3) := (blk_cell BK198.out 3).trans rfl
          have hcz13_4 : wc.cell? ⟨gb198, 4, none⟩ = some (.int .i64 a0_4) := (blk_cell BK198.out 4).trans rfl
          have hcz13_5 : wc.cell? ⟨gb198, 5, none⟩ = some (.int .u8 a0_5) := (blk_cell BK198.out 5).trans rfl
          have hcz13_6 : wc.cell? ⟨gb198, 6, none⟩ = some (.int .u32 a0_6) := (blk_cell BK198.out 6).trans rfl
          have hfz13_0 := blk_frozen BK198.out 0
          have hfz13_1 := blk_frozen BK198.out 1
          have hfz13_2 := blk_frozen BK198.out 2
          have hfz13_3 := blk_frozen BK198.out 3
          have hfz13_4 := blk_frozen BK198.out 4
          have hfz13_5 := blk_frozen BK198.out 5
          have hfz13_6 := blk_frozen BK198.out 6
          go_wp2
          go_ret
          exact ⟨by first | rfl | (simp [errW_none, errW_some] <;> rfl) | (simp [*, errW_none, errW_some] <;> rfl), by repeat (first | (with_reducible first | exact HB.out | apply below_alloc | apply pw_below_drewN | apply below_drew1 | refine below_set ?_ GE198.out) | exact HB.out)⟩
        · rw [if_neg c12] at H
          have c12b0 : (a0_4 == 1) = false := beq_eq_false_iff_ne.mpr c12
          have c12b1 : (a0_4 != 1) = true := bne_iff_ne.mpr c12
          by_cases c14 : a0_4 = 2
          · rw [if_pos c14] at H
            have c14b0 : (a0_4 == 2) = true := beq_iff_eq.mpr c14
            have c14b1 : (a0_4 != 2) = false := bne_eq_false_iff_eq.mpr c14
            clear c14
            by_cases c15 : a0_5 < 8
            · rw [if_pos c15] at H
              have c15b0 : decide (a0_5 < 8) = true := decide_eq_true c15
              clear c15
              obtain rfl := Option.some.inj H
              have hcz16_0 : wc.cell? ⟨gb198, 0, none⟩ = some (.int .u8 a0_0) := (blk_cell BK198.out 0).trans rfl
              have hcz16_1 : wc.cell? ⟨gb198, 1, none⟩ = some (.int .u8 a0_1) := (blk_cell BK198.out 1).trans rfl
              have hcz16_2 : wc.cell? ⟨gb198, 2, none⟩ = some (.int .u32 a0_2) := (blk_cell BK198.out 2).trans rfl
              have hcz16_3 : wc.cell? ⟨gb198, 3, none⟩ = some (.int .u32 a0_3) := (blk_cell BK198.out 3).trans rfl
              have hcz16_4 : wc.cell? ⟨gb198, 4, none⟩ = some (.int .i64 a0_4) := (blk_cell BK198.out 4).trans rfl
              have hcz16_5 : wc.cell? ⟨gb198, 5, none⟩ = some (.int .u8 a0_5) := (blk_cell BK198.out 5).trans rfl
              have hcz16_6 : wc.cell? ⟨gb198, 6, none⟩ = some (.int .u32 a0_6) := (blk_cell BK198.out 6).trans rfl
              have hfz16_0 := blk_frozen BK198.out 0
              have hfz16_1 := blk_frozen BK198.out 1
              have hfz16_2 := blk_frozen BK198.out 2
              have hfz16_3 := blk_frozen BK198.out 3
              have hfz16_4 := blk_frozen BK198.out 4
              have hfz16_5 := blk_frozen BK198.out 5
              have hfz16_6 := blk_frozen BK198.out 6
              go_wp2
              go_ret
              exact ⟨by first | rfl | (simp [errW_none, errW_some] <;> rfl) | (simp [*, errW_none, errW_some] <;> rfl), by repeat (first | (with_reducible first | exact HB.out | apply below_alloc | apply pw_below_drewN | apply below_drew1 | refine below_set ?_ GE198.out) | exact HB.out)⟩
            · rw [if_neg c15] at H
              have c15b0 : decide (a0_5 < 8) = false := decide_eq_false c15
              clear c15
              obtain rfl := Option.some.inj H
              have hcz17_0 : wc.cell? ⟨gb198, 0, none⟩ = some (.int .u8 a0_0) := (blk_cell BK198.out 0).trans rfl
              have hcz17_1 : wc.cell? ⟨gb198, 1, none⟩ = some (.int .u8 a0_1) := (blk_cell BK198.out 1).trans rfl
              have hcz17_2 : wc.cell? ⟨gb198, 2, none⟩ = some (.int .u32 a0_2) := (blk_cell BK198.out 2).trans rfl
              have hcz17_3 : wc.cell? ⟨gb198, 3, none⟩ = some (.int .u32 a0_3) := (blk_cell BK198.out 3).trans rfl
              have hcz17_4 : wc.cell? ⟨gb198, 4, none⟩ = some (.int .i64 a0_4) := (blk_cell BK198.out 4).trans rfl
              have hcz17_5 : wc.cell? ⟨gb198, 5, none⟩ = some (.int .u8 a0_5) := (blk_cell BK198.out 5).trans rfl
              have hcz17_6 : wc.cell? ⟨gb198, 6, none⟩ = some (.int .u32 a0_6) := (blk_cell BK198.out 6).trans rfl
              have hfz17_0 := blk_frozen BK198.out 0
              have hfz17_1 := blk_frozen BK198.out 1
              have hfz17_2 := blk_frozen BK198.out 2
              have hfz17_3 := blk_frozen BK198.out 3
              have hfz17_4 := blk_frozen BK198.out 4
              have hfz17_5 := blk_frozen BK198.out 5
              have hfz17_6 := blk_frozen BK198.out 6
              go_wp2
              go_ret
              exact ⟨by first | rfl | (simp [errW_none, errW_some] <;> rfl) | (simp [*, errW_none, errW_some] <;> rfl), by repeat (first | (with_reducible first | exact HB.out | apply below_alloc | apply pw_below_drewN | apply below_drew1 | refine below_set ?_ GE198.out) | exact HB.out)⟩
          · rw [if_neg c14] at H
            have c14b0 : (a0_4 == 2) = false := beq_eq_false_iff_ne.mpr c14
            have c14b1 : (a0_4 != 2) = true := bne_iff_ne.mpr c14
            by_cases c18 : a0_4 = 3
            · rw [if_pos c18] at H
              have c18b0 : (a0_4 == 3) = true := beq_iff_eq.mpr c18
              have c18b1 : (a0_4 != 3) = false := bne_eq_false_iff_eq.mpr c18
              clear c18
              by_cases c19 : a0_5 = 0
              · rw [if_pos c19] at H
                have c19b0 : (a0_5 == 0) = true := beq_iff_eq.mpr c19
                have c19b1 : (a0_5 != 0) = false := bne_eq_false_iff_eq.mpr c19
                clear c19
                obtain rfl := Option.some.inj H
                have hcz20_0 : wc.cell? ⟨gb198, 0, none⟩ = some (.int .u8 a0_0) := (blk_cell BK198.out 0).trans rfl
                have hcz20_1 : wc.cell? ⟨gb198, 1, none⟩ = some (.int .u8 a0_1) := (blk_cell BK198.out 1).trans rfl
                have hcz20_2 : wc.cell? ⟨gb198, 2, none⟩ = some (.int .u32 a0_2) := (blk_cell BK198.out 2).trans rfl
                have hcz20_3 : wc.cell? ⟨gb198, 3, none⟩ = some (.int .u32 a0_3) := (blk_cell BK198.out 3).trans rfl
                have hcz20_4 : wc.cell? ⟨gb198, 4, none⟩ = some (.int .i64 a0_4) := (blk_cell BK198.out 4).trans rfl
                have hcz20_5 : wc.cell? ⟨gb198, 5, none⟩ = some (.int .u8 a0_5) := (blk_cell BK198.out 5).trans rfl
                have hcz20_6 : wc.cell? ⟨gb198, 6, none⟩ = some (.int .u32 a0_6) := (blk_cell BK198.out 6).trans rfl
                have hfz20_0 := blk_frozen BK198.out 0
                have hfz20_1 := blk_frozen BK198.out 1
                have hfz20_2 := blk_frozen BK198.out 2
                have hfz20_3 := blk_frozen BK198.out 3
                have hfz20_4 := blk_frozen BK198.out 4
                have hfz20_5 := blk_frozen BK198.out 5
                have hfz20_6 := blk_frozen BK198.out 6
                go_wp2
                go_ret
                exact ⟨by first | rfl | (simp [errW_none, errW_some] <;> rfl) | (simp [*, errW_none, errW_some] <;> rfl), by repeat (first | (with_reducible first | exact HB.out | apply below_alloc | apply pw_below_drewN | apply below_drew1 | refine below_set ?_ GE198.out) | exact HB.out)⟩
              · rw [if_neg c19] at H
                have c19b0 : (a0_5 == 0) = false := beq_eq_false_iff_ne.mpr c19
                have c19b1 : (a0_5 != 0) = true := bne_iff_ne.mpr c19
                obtain rfl := Option.some.inj H
                have hcz21_0 : wc.cell? ⟨gb198, 0, none⟩ = some (.int .u8 a0_0) := (blk_cell BK198.out 0).trans rfl
                have hcz21_1 : wc.cell? ⟨gb198, 1, none⟩ = some (.int .u8 a0_1) := (blk_cell BK198.out 1).trans rfl
                have hcz21_2 : wc.cell? ⟨gb198, 2, none⟩ = some (.int .u32 a0_2) := (blk_cell BK198.out 2).trans rfl
                have hcz21_3 : wc.cell? ⟨gb198, 3, none⟩ = some (.int .u32 a0_3) := (blk_cell BK198.out 3).trans rfl
                have hcz21_4 : wc.cell? ⟨gb198, 4, none⟩ = some (.int .i64 a0_4) := (blk_cell BK198.out 4).trans rfl
                have hcz21_5 : wc.cell? ⟨gb198, 5, none⟩ = some (.int .u8 a0_5) := (blk_cell BK198.out 5).trans rfl
                have hcz21_6 : wc.cell? ⟨gb198, 6, none⟩ = some (.int .u32 a0_6) := (blk_cell BK198.out 6).trans rfl
                have hfz21_0 := blk_frozen BK198.out 0
                have hfz21_1 := blk_frozen BK198.out 1
                have hfz21_2 := blk_frozen BK198.out 2
                have hfz21_3 := blk_frozen BK198.out 3
                have hfz21_4 := blk_frozen BK198.out 4
                have hfz21_5 := blk_frozen BK198.out 5
                have hfz21_6 := blk_frozen BK198.out 6
                go_wp2
                go_ret
                exact ⟨by first | rfl | (simp [errW_none, errW_some] <;> rfl) | (simp [*, errW_none, errW_some] <;> rfl), by repeat (first | (with_reducible first | exact HB.out | apply below_alloc | apply pw_below_drewN | apply below_drew1 | refine below_set ?_ GE198.out) | exact HB.out)⟩
            · rw [if_neg c18] at H
              have c18b0 : (a0_4 == 3) = false := beq_eq_false_iff_ne.mpr c18
              have c18b1 : (a0_4 != 3) = true := bne_iff_ne.mpr c18
              obtain rfl := Option.some.inj H
              have hcz22_0 : wc.cell? ⟨gb198, 0, none⟩ = some (.int .u8 a0_0) := (blk_cell BK198.out 0).trans rfl
              have hcz22_1 : wc.cell? ⟨gb198, 1, none⟩ = some (.int .u8 a0_1) := (blk_cell BK198.out 1).trans rfl
              have hcz22_2 : wc.cell? ⟨gb198, 2, none⟩ = some (.int .u32 a0_2) := (blk_cell BK198.out 2).trans rfl
              have hcz22_3 : wc.cell? ⟨gb198, 3, none⟩ = some (.int .u32 a0_3) := (blk_cell BK198.out 3).trans rfl
              have hcz22_4 : wc.cell? ⟨gb198, 4, none⟩ = some (.int .i64 a0_4) := (blk_cell BK198.out 4).trans rfl
              have hcz22_5 : wc.cell? ⟨gb198, 5, none⟩ = some (.int .u8 a0_5) := (blk_cell BK198.out 5).trans rfl
              have hcz22_6 : wc.cell? ⟨gb198, 6, none⟩ = some (.int .u32 a0_6) := (blk_cell BK198.out 6).trans rfl
              have hfz22_0 := blk_frozen BK198.out 0
              have hfz22_1 := blk_frozen BK198.out 1
              have hfz22_2 := blk_frozen BK198.out 2
              have hfz22_3 := blk_frozen BK198.out 3
              have hfz22_4 := blk_frozen BK198.out 4
              have hfz22_5 := blk_frozen BK198.out 5
              have hfz22_6 := blk_frozen BK198.out 6
              go_wp2
              go_ret
              exact ⟨by first | rfl | (simp [errW_none, errW_some] <;> rfl) | (simp [*, errW_none, errW_some] <;> rfl), by repeat (first | (with_reducible first | exact HB.out | apply below_alloc | apply pw_below_drewN | apply below_drew1 | refine below_set ?_ GE198.out) | exact HB.out)⟩
end Go.Proofs.Ytiminjibcafkaaa.X
