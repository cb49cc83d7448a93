-- MADE BY wip/prx.py (the kit's printer, with contracts proved by hand). Not trusted: Lean checks it.
import Derived.Test.YtiminjibcafkaaaANX0
import Derived.Test.YtiminjibcafkaaaANJ16
import Derived.Test.YtiminjibcafkaaaANXhcommon
import Derived.Test.YtiminjibcafkaaaANX6
namespace Go.Proofs.Ytiminjibcafkaaa.X
open Go.RowKit Go.Proofs.YtiminjibcafkaaaW.PrintWords Go.Proofs.YtiminjibcafkaaaW.PrintLast Go.Proofs.YtiminjibcafkaaaW.PrintMore
attribute [local go_sem] max2_int min2_int max_two min_two max_three min_three max_four min_four   -- for this text's walks alone
set_option linter.unusedVariables false
set_option linter.unusedSimpArgs false
attribute [local go_sem high] eqA27
/-! ### item_Fade: function 19 -/
def item_Fade.f (a0_0 : Int) (a0_1 : Int) (a0_2 : Int) (a0_3 : Int) (a0_4 : Int) (a0_5 : Int) (a0_6 : Int) : Option (Int × Int × Int × Int × Int × Int × Int) := if a0_4 = 1 then (some (a0_0, a0_1, a0_2, a0_3, 2, a0_5, 0)) else (some (a0_0, a0_1, a0_2, a0_3, a0_4, a0_5, a0_6))
set_option maxHeartbeats 8000000 in
set_option maxRecDepth 100000 in
theorem item_Fade.calls (a0_0 : Int) (a0_1 : Int) (a0_2 : Int) (a0_3 : Int) (a0_4 : Int) (a0_5 : Int) (a0_6 : Int) (r1 : Int) (r2 : Int) (r3 : Int) (r4 : Int) (r5 : Int) (r6 : Int) (r7 : Int) (w : World) (h : item_Fade.f a0_0 a0_1 a0_2 a0_3 a0_4 a0_5 a0_6 = some (r1, r2, r3, r4, r5, r6, r7)) :
    Calls Try.prog 19 #[.agg #[.int .u8 a0_0, .int .u8 a0_1, .int .u32 a0_2, .int .u32 a0_3, .int .i64 a0_4, .int .u8 a0_5, .int .u32 a0_6]] w fun e w' => e = .returned (.agg #[.int .u8 r1, .int .u8 r2, .int .u32 r3, .int .u32 r4, .int .i64 r5, .int .u8 r6, .int .u32 r7]) ∧ Below w.heap.size w w' := by
  have hu27 := Try.underlying27
  have HB := Aside0.mk (Below.refl w.heap.size w)
  have H : (if a0_4 = 1 then (some (a0_0, a0_1, a0_2, a0_3, 2, a0_5, 0)) else (some (a0_0, a0_1, a0_2, a0_3, a0_4, a0_5, a0_6))) = some (r1, r2, r3, r4, r5, r6, r7) := h
  clear h
  by_cases c2 : a0_4 = 1
  · rw [if_pos c2] at H
    have c2b0 : (a0_4 == 1) = true := beq_iff_eq.mpr c2
    have c2b1 : (a0_4 != 1) = false := bne_eq_false_iff_eq.mpr c2
    clear c2
    simp only [Option.some.injEq, Prod.mk.injEq] at H
    obtain ⟨rfl, rfl, rfl, rfl, rfl, rfl, rfl⟩ := H
    go_enter Try.func19, Try.ntmps19
    go_wp2_with (first | ((with_reducible refine gate_dst (N := 1) rfl ?_); refine box_event ?hg (N := 1) ?hd (cs := #[.int .u8 a0_0, .int .u8 a0_1, .int .u32 a0_2, .int .u32 a0_3, .int .i64 a0_4, .int .u8 a0_5, .int .u32 a0_6]) (t := 27) ?hr ?_; (case hd => rfl); (case hg => rfl); (case hr => first | (go_simp; done) | (go_simp; rfl)); intro gb146 hg w3 hbox hb; have n0_ := Aside0.mk (below_step (by repeat (first | (with_reducible first | exact HB.out | apply below_alloc | apply pw_below_drewN | apply below_drew1) | exact HB.out)) hb); have n1_ := Aside0.mk (hbox); have n2_ := Aside0.mk ((by rw [hg]; exact (below_size (by repeat (first | (with_reducible first | exact HB.out | apply below_alloc | apply pw_below_drewN | apply below_drew1) | exact HB.out))) : w.heap.size ≤ gb146)); have n3_ := Aside0.mk ((by rw [hg]; exact (below_size (by repeat (first | (with_reducible first | exact HB.out | apply below_alloc | apply pw_below_drewN | apply below_drew1) | exact HB.out))) : w.heap.size ≤ gb146)); clear HB; have HB := n0_; have BK146 := n1_; have GW146 := n2_; have GE146 := n3_; clear n0_ n1_ n2_ n3_; clear hb hbox hg) | ((with_reducible refine gate_dst (N := 2) rfl ?_); refine box_event ?hg (N := 2) ?hd (cs := #[.int .u8 0, .int .u8 0, .int .u32 0, .int .u32 0, .int .i64 0, .int .u8 0, .int .u32 0]) (t := 27) ?hr ?_; (case hd => rfl); (case hg => rfl); (case hr => first | (go_simp; done) | (go_simp; rfl)); intro gb147 hg w4 hbox hb; have n0_ := Aside0.mk (blk_below (g := gb146) (o := .cells #[.int .u8 a0_0, .int .u8 a0_1, .int .u32 a0_2, .int .u32 a0_3, .int .i64 a0_4, .int .u8 a0_5, .int .u32 a0_6] 27 (0, 0)) (by (with_reducible repeat (first | refine blk_drewN ?_ _ | refine blk_drew ?_ | refine blk_alloc ?_ _)); exact BK146.out) hb); have n1_ := Aside0.mk (below_step (by repeat (first | (with_reducible first | exact HB.out | apply below_alloc | apply pw_below_drewN | apply below_drew1 | refine below_set ?_ GE146.out) | exact HB.out)) hb); have n2_ := Aside0.mk (hbox); have n3_ := Aside0.mk ((by rw [hg]; exact (below_size (by repeat (first | (with_reducible first | exact HB.out | apply below_alloc | apply pw_below_drewN | apply below_drew1 | refine below_set ?_ GE146.out) | exact HB.out))) : w.heap.size ≤ gb147)); have n4_ := Aside0.mk ((by rw [hg]; exact (below_size (by repeat (first | (with_reducible first | exact HB.out | apply below_alloc | apply pw_below_drewN | apply below_drew1 | refine below_set ?_ GE146.out) | exact HB.out))) : w.heap.size ≤ gb147)); have n5_ := Aside0.mk ((by rw [hg]; exact Nat.ne_of_lt (blk_lt (g := gb146) (o := .cells #[.int .u8 a0_0, .int .u8 a0_1, .int .u32 a0_2, .int .u32 a0_3, .int .i64 a0_4, .int .u8 a0_5, .int .u32 a0_6] 27 (0, 0)) (by (with_reducible repeat (first | refine blk_drewN ?_ _ | refine blk_drew ?_ | refine blk_alloc ?_ _)); exact BK146.out)) : gb146 ≠ gb147)); have n6_ := Aside0.mk ((by rw [hg]; exact Nat.ne_of_gt (blk_lt (g := gb146) (o := .cells #[.int .u8 a0_0, .int .u8 a0_1, .int .u32 a0_2, .int .u32 a0_3, .int .i64 a0_4, .int .u8 a0_5, .int .u32 a0_6] 27 (0, 0)) (by (with_reducible repeat (first | refine blk_drewN ?_ _ | refine blk_drew ?_ | refine blk_alloc ?_ _)); exact BK146.out)) : gb147 ≠ gb146)); clear BK146; clear HB; have BK146 := n0_; have HB := n1_; have BK147 := n2_; have GW147 := n3_; have GE147 := n4_; have NB146_147 := n5_; have NB147_146 := n6_; clear n0_ n1_ n2_ n3_ n4_ n5_ n6_; clear hb hbox hg; have hnb5 := NB146_147.out; have hnc5 := NB147_146.out; have hcz6_0 : w4.cell? ⟨gb146, 0, none⟩ = some (.int .u8 a0_0) := (blk_cell BK146.out 0).trans rfl; have hcz6_1 : w4.cell? ⟨gb146, 1, none⟩ = some (.int .u8 a0_1) := (blk_cell BK146.out 1).trans rfl; have hcz6_2 : w4.cell? ⟨gb146, 2, none⟩ = some (.int .u32 a0_2) := (blk_cell BK146.out 2).trans rfl; have hcz6_3 : w4.cell? ⟨gb146, 3, none⟩ = some (.int .u32 a0_3) := (blk_cell BK146.out 3).trans rfl; have hcz6_4 : w4.cell? ⟨gb146, 4, none⟩ = some (.int .i64 a0_4) := (blk_cell BK146.out 4).trans rfl; have hcz6_5 : w4.cell? ⟨gb146, 5, none⟩ = some (.int .u8 a0_5) := (blk_cell BK146.out 5).trans rfl; have hcz6_6 : w4.cell? ⟨gb146, 6, none⟩ = some (.int .u32 a0_6) := (blk_cell BK146.out 6).trans rfl; have hfz6_0 := blk_frozen BK146.out 0; have hfz6_1 := blk_frozen BK146.out 1; have hfz6_2 := blk_frozen BK146.out 2; have hfz6_3 := blk_frozen BK146.out 3; have hfz6_4 := blk_frozen BK146.out 4; have hfz6_5 := blk_frozen BK146.out 5; have hfz6_6 := blk_frozen BK146.out 6; have hcz7_0 : w4.cell? ⟨gb147, 0, none⟩ = some (.int .u8 0) := (blk_cell BK147.out 0).trans rfl; have hcz7_1 : w4.cell? ⟨gb147, 1, none⟩ = some (.int .u8 0) := (blk_cell BK147.out 1).trans rfl; have hcz7_2 : w4.cell? ⟨gb147, 2, none⟩ = some (.int .u32 0) := (blk_cell BK147.out 2).trans rfl; have hcz7_3 : w4.cell? ⟨gb147, 3, none⟩ = some (.int .u32 0) := (blk_cell BK147.out 3).trans rfl; have hcz7_4 : w4.cell? ⟨gb147, 4, none⟩ = some (.int .i64 0) := (blk_cell BK147.out 4).trans rfl; have hcz7_5 : w4.cell? ⟨gb147, 5, none⟩ = some (.int .u8 0) := (blk_cell BK147.out 5).trans rfl; have hcz7_6 : w4.cell? ⟨gb147, 6, none⟩ = some (.int .u32 0) := (blk_cell BK147.out 6).trans rfl; have hfz7_0 := blk_frozen BK147.out 0; have hfz7_1 := blk_frozen BK147.out 1; have hfz7_2 := blk_frozen BK147.out 2; have hfz7_3 := blk_frozen BK147.out 3; have hfz7_4 := blk_frozen BK147.out 4; have hfz7_5 := blk_frozen BK147.out 5; have hfz7_6 := blk_frozen BK147.out 6))
    refine bodyPost_ret (results_cell_row rfl _ _ gb147 27 #[.int .u8 a0_0, .int .u8 a0_1, .int .u32 a0_2, .int .u32 a0_3, .int .i64 2, .int .u8 a0_5, .int .u32 0] (0, 0) _ rfl (by (with_reducible repeat (first | refine blk_drewN ?_ _ | refine blk_drew ?_ | refine blk_alloc ?_ _)); refine blk_put (cs := #[.int .u8 a0_0, .int .u8 a0_1, .int .u32 a0_2, .int .u32 a0_3, .int .i64 2, .int .u8 a0_5, .int .u32 0]) ?_ 6 _ rfl; (with_reducible repeat (first | refine blk_drewN ?_ _ | refine blk_drew ?_ | refine blk_alloc ?_ _)); refine blk_put (cs := #[.int .u8 a0_0, .int .u8 a0_1, .int .u32 a0_2, .int .u32 a0_3, .int .i64 2, .int .u8 0, .int .u32 0]) ?_ 5 _ rfl; (with_reducible repeat (first | refine blk_drewN ?_ _ | refine blk_drew ?_ | refine blk_alloc ?_ _)); refine blk_put (cs := #[.int .u8 a0_0, .int .u8 a0_1, .int .u32 a0_2, .int .u32 a0_3, .int .i64 0, .int .u8 0, .int .u32 0]) ?_ 4 _ rfl; (with_reducible repeat (first | refine blk_drewN ?_ _ | refine blk_drew ?_ | refine blk_alloc ?_ _)); refine blk_put (cs := #[.int .u8 a0_0, .int .u8 a0_1, .int .u32 a0_2, .int .u32 0, .int .i64 0, .int .u8 0, .int .u32 0]) ?_ 3 _ rfl; (with_reducible repeat (first | refine blk_drewN ?_ _ | refine blk_drew ?_ | refine blk_alloc ?_ _)); refine blk_put (cs := #[.int .u8 a0_0, .int .u8 a0_1, .int .u32 0, .int .u32 0, .int .i64 0, .int .u8 0, .int .u32 0]) ?_ 2 _ rfl; (with_reducible repeat (first | refine blk_drewN ?_ _ | refine blk_drew ?_ | refine blk_alloc ?_ _)); refine blk_put (cs := #[.int .u8 a0_0, .int .u8 0, .int .u32 0, .int .u32 0, .int .i64 0, .int .u8 0, .int .u32 0]) ?_ 1 _ rfl; (with_reducible repeat (first | refine blk_drewN ?_ _ | refine blk_drew ?_ | refine blk_alloc ?_ _)); refine blk_put (cs := #[.int .u8 0, .int .u8 0, .int .u32 0, .int .u32 0, .int .i64 0, .int .u8 0, .int .u32 0]) ?_ 0 _ rfl; (with_reducible repeat (first | refine blk_drewN ?_ _ | refine blk_drew ?_ | refine blk_alloc ?_ _)); refine blk_far ?_ NB147_146.out _; (with_reducible repeat (first | refine blk_drewN ?_ _ | refine blk_drew ?_ | refine blk_alloc ?_ _)); refine blk_far ?_ NB147_146.out _; (with_reducible repeat (first | refine blk_drewN ?_ _ | refine blk_drew ?_ | refine blk_alloc ?_ _)); exact BK147.out) Try.underlying27 rfl (by kernel_rfl)) rfl ?_
    exact ⟨by first | rfl | (simp [errW_none, errW_some] <;> rfl) | (simp [*, errW_none, errW_some] <;> rfl), by repeat (first | (with_reducible first | exact HB.out | apply below_alloc | apply pw_below_drewN | apply below_drew1 | refine below_set ?_ GE146.out | refine below_set ?_ GE147.out) | exact HB.out)⟩
  · rw [if_neg c2] at H
    have c2b0 : (a0_4 == 1) = false := beq_eq_false_iff_ne.mpr c2
    have c2b1 : (a0_4 != 1) = true := bne_iff_ne.mpr c2
    simp only [Option.some.injEq, Prod.mk.injEq] at H
    obtain ⟨rfl, rfl, rfl, rfl, rfl, rfl, rfl⟩ := H
    go_enter Try.func19, Try.ntmps19
    go_wp2_with (first | ((with_reducible refine gate_dst (N := 1) rfl ?_); refine box_event ?hg (N := 1) ?hd (cs := #[.int .u8 a0_0, .int .u8 a0_1, .int .u32 a0_2, .int .u32 a0_3, .int .i64 a0_4, .int .u8 a0_5, .int .u32 a0_6]) (t := 27) ?hr ?_; (case hd => rfl); (case hg => rfl); (case hr => first | (go_simp; done) | (go_simp; rfl)); intro gb146 hg w8 hbox hb; have n0_ := Aside0.mk (below_step (by repeat (first | (with_reducible first | exact HB.out | apply below_alloc | apply pw_below_drewN | apply below_drew1) | exact HB.out)) hb); have n1_ := Aside0.mk (hbox); have n2_ := Aside0.mk ((by rw [hg]; exact (below_size (by repeat (first | (with_reducible first | exact HB.out | apply below_alloc | apply pw_below_drewN | apply below_drew1) | exact HB.out))) : w.heap.size ≤ gb146)); have n3_ := Aside0.mk ((by rw [hg]; exact (below_size (by repeat (first | (with_reducible first | exact HB.out | apply below_alloc | apply pw_below_drewN | apply below_drew1) | exact HB.out))) : w.heap.size ≤ gb146)); clear HB; have HB := n0_; have BK146 := n1_; have GW146 := n2_; have GE146 := n3_; clear n0_ n1_ n2_ n3_; clear hb hbox hg) | ((with_reducible refine gate_dst (N := 2) rfl ?_); refine box_event ?hg (N := 2) ?hd (cs := #[.int .u8 0, .int .u8 0, .int .u32 0, .int .u32 0, .int .i64 0, .int .u8 0, .int .u32 0]) (t := 27) ?hr ?_; (case hd => rfl); (case hg => rfl); (case hr => first | (go_simp; done) | (go_simp; rfl)); intro gb147 hg w9 hbox hb; have n0_ := Aside0.mk (blk_below (g := gb146) (o := .cells #[.int .u8 a0_0, .int .u8 a0_1, .int .u32 a0_2, .int .u32 a0_3, .int .i64 a0_4, .int .u8 a0_5, .int .u32 a0_6] 27 (0, 0)) (by (with_reducible repeat (first | refine blk_drewN ?_ _ | refine blk_drew ?_ | refine blk_alloc ?_ _)); exact BK146.out) hb); have n1_ := Aside0.mk (below_step (by repeat (first | (with_reducible first | exact HB.out | apply below_alloc | apply pw_below_drewN | apply below_drew1 | refine below_set ?_ GE146.out) | exact HB.out)) hb); have n2_ := Aside0.mk (hbox); have n3_ := Aside0.mk ((by rw [hg]; exact (below_size (by repeat (first | (with_reducible first | exact HB.out | apply below_alloc | apply pw_below_drewN | apply below_drew1 | refine below_set ?_ GE146.out) | exact HB.out))) : w.heap.size ≤ gb147)); have n4_ := Aside0.mk ((by rw [hg]; exact (below_size (by repeat (first | (with_reducible first | exact HB.out | apply below_alloc | apply pw_below_drewN | apply below_drew1 | refine below_set ?_ GE146.out) | exact HB.out))) : w.heap.size ≤ gb147)); have n5_ := Aside0.mk ((by rw [hg]; exact Nat.ne_of_lt (blk_lt (g := gb146) (o := .cells #[.int .u8 a0_0, .int .u8 a0_1, .int .u32 a0_2, .int .u32 a0_3, .int .i64 a0_4, .int .u8 a0_5, .int .u32 a0_6] 27 (0, 0)) (by (with_reducible repeat (first | refine blk_drewN ?_ _ | refine blk_drew ?_ | refine blk_alloc ?_ _)); exact BK146.out)) : gb146 ≠ gb147)); have n6_ := Aside0.mk ((by rw [hg]; exact Nat.ne_of_gt (blk_lt (g := gb146) (o := .cells #[.int .u8 a0_0, .int .u8 a0_1, .int .u32 a0_2, .int .u32 a0_3, .int .i64 a0_4, .int .u8 a0_5, .int .u32 a0_6] 27 (0, 0)) (by (with_reducible repeat (first | refine blk_drewN ?_ _ | refine blk_drew ?_ | refine blk_alloc ?_ _)); exact BK146.out)) : gb147 ≠ gb146)); clear BK146; clear HB; have BK146 := n0_; have HB := n1_; have BK147 := n2_; have GW147 := n3_; have GE147 := n4_; have NB146_147 := n5_; have NB147_146 := n6_; clear n0_ n1_ n2_ n3_ n4_ n5_ n6_; clear hb hbox hg; have hnb10 := NB146_147.out; have hnc10 := NB147_146.out; have hcz11_0 : w9.cell? ⟨gb146, 0, none⟩ = some (.int .u8 a0_0) := (blk_cell BK146.out 0).trans rfl; have hcz11_1 : w9.cell? ⟨gb146, 1, none⟩ = some (.int .u8 a0_1) := (blk_cell BK146.out 1).trans rfl; have hcz11_2 : w9.cell? ⟨gb146, 2, none⟩ = some (.int .u32 a0_2) := (blk_cell BK146.out 2).trans rfl; have hcz11_3 : w9.cell? ⟨gb146, 3, none⟩ = some (.int .u32 a0_3) := (blk_cell BK146.out 3).trans rfl; have hcz11_4 : w9.cell? ⟨gb146, 4, none⟩ = some (.int .i64 a0_4) := (blk_cell BK146.out 4).trans rfl; have hcz11_5 : w9.cell? ⟨gb146, 5, none⟩ = some (.int .u8 a0_5) := (blk_cell BK146.out 5).trans rfl; have hcz11_6 : w9.cell? ⟨gb146, 6, none⟩ = some (.int .u32 a0_6) := (blk_cell BK146.out 6).trans rfl; have hfz11_0 := blk_frozen BK146.out 0; have hfz11_1 := blk_frozen BK146.out 1; have hfz11_2 := blk_frozen BK146.out 2; have hfz11_3 := blk_frozen BK146.out 3; have hfz11_4 := blk_frozen BK146.out 4; have hfz11_5 := blk_frozen BK146.out 5; have hfz11_6 := blk_frozen BK146.out 6; have hcz12_0 : w9.cell? ⟨gb147, 0, none⟩ = some (.int .u8 0) := (blk_cell BK147.out 0).trans rfl; have hcz12_1 : w9.cell? ⟨gb147, 1, none⟩ = some (.int .u8 0) := (blk_cell BK147.out 1).trans rfl; have hcz12_2 : w9.cell? ⟨gb147, 2, none⟩ = some (.int .u32 0) := (blk_cell BK147.out 2).trans rfl; have hcz12_3 : w9.cell? ⟨gb147, 3, none⟩ = some (.int .u32 0) := (blk_cell BK147.out 3).trans rfl; have hcz12_4 : w9.cell? ⟨gb147, 4, none⟩ = some (.int .i64 0) := (blk_cell BK147.out 4).trans rfl; have hcz12_5 : w9.cell? ⟨gb147, 5, none⟩ = some (.int .u8 0) := (blk_cell BK147.out 5).trans rfl; have hcz12_6 : w9.cell? ⟨gb147, 6, none⟩ = some (.int .u32 0) := (blk_cell BK147.out 6).trans rfl; have hfz12_0 := blk_frozen BK147.out 0; have hfz12_1 := blk_frozen BK147.out 1; have hfz12_2 := blk_frozen BK147.out 2; have hfz12_3 := blk_frozen BK147.out 3; have hfz12_4 := blk_frozen BK147.out 4; have hfz12_5 := blk_frozen BK147.out 5; have hfz12_6 := blk_frozen BK147.out 6))
    refine bodyPost_ret (results_cell_row rfl _ _ gb147 27 #[.int .u8 a0_0, .int .u8 a0_1, .int .u32 a0_2, .int .u32 a0_3, .int .i64 a0_4, .int .u8 a0_5, .int .u32 a0_6] (0, 0) _ rfl (by (with_reducible repeat (first | refine blk_drewN ?_ _ | refine blk_drew ?_ | refine blk_alloc ?_ _)); refine blk_put (cs := #[.int .u8 a0_0, .int .u8 a0_1, .int .u32 a0_2, .int .u32 a0_3, .int .i64 a0_4, .int .u8 a0_5, .int .u32 0]) ?_ 6 _ rfl; (with_reducible repeat (first | refine blk_drewN ?_ _ | refine blk_drew ?_ | refine blk_alloc ?_ _)); refine blk_put (cs := #[.int .u8 a0_0, .int .u8 a0_1, .int .u32 a0_2, .int .u32 a0_3, .int .i64 a0_4, .int .u8 0, .int .u32 0]) ?_ 5 _ rfl; (with_reducible repeat (first | refine blk_drewN ?_ _ | refine blk_drew ?_ | refine blk_alloc ?_ _)); refine blk_put (cs := #[.int .u8 a0_0, .int .u8 a0_1, .int .u32 a0_2, .int .u32 a0_3, .int .i64 0, .int .u8 0, .int .u32 0]) ?_ 4 _ rfl; (with_reducible repeat (first | refine blk_drewN ?_ _ | refine blk_drew ?_ | refine blk_alloc ?_ _)); refine blk_put (cs := #[.int .u8 a0_0, .int .u8 a0_1, .int .u32 a0_2, .int .u32 0, .int .i64 0, .int .u8 0, .int .u32 0]) ?_ 3 _ rfl; (with_reducible repeat (first | refine blk_drewN ?_ _ | refine blk_drew ?_ | refine blk_alloc ?_ _)); refine blk_put (cs := #[.int .u8 a0_0, .int .u8 a0_1, .int .u32 0, .int .u32 0, .int .i64 0, .int .u8 0, .int .u32 0]) ?_ 2 _ rfl; (with_reducible repeat (first | refine blk_drewN ?_ _ | refine blk_drew ?_ | refine blk_alloc ?_ _)); refine blk_put (cs := #[.int .u8 a0_0, .int .u8 0, .int .u32 0, .int .u32 0, .int .i64 0, .int .u8 0, .int .u32 0]) ?_ 1 _ rfl; (with_reducible repeat (first | refine blk_drewN ?_ _ | refine blk_drew ?_ | refine blk_alloc ?_ _)); refine blk_put (cs := #[.int .u8 0, .int .u8 0, .int .u32 0, .int .u32 0, .int .i64 0, .int .u8 0, .int .u32 0]) ?_ 0 _ rfl; (with_reducible repeat (first | refine blk_drewN ?_ _ | refine blk_drew ?_ | refine blk_alloc ?_ _)); exact BK147.out) Try.underlying27 rfl (by kernel_rfl)) rfl ?_
    exact ⟨by first | rfl | (simp [errW_none, errW_some] <;> rfl) | (simp [*, errW_none, errW_some] <;> rfl), by repeat (first | (with_reducible first | exact HB.out | apply below_alloc | apply pw_below_drewN | apply below_drew1 | refine below_set ?_ GE146.out | refine below_set ?_ GE147.out) | exact HB.out)⟩
/-! ### item_In: function 22 -/
def item_In.f (a0_0 : Int) (a0_1 : Int) (a0_2 : Int) (a0_3 : Int) (a0_4 : Int) (a0_5 : Int) (a0_6 : Int) (a1 : Int) : Option (Bool) := if a0_4 = 3 then (some true) else (if a0_5 < 8 then (if 0 ≤ a0_5 then (some ((Go.bits .and .u8 (shr .u8 a1 a0_5) 1) == 1)) else (none)) else (some false))
set_option maxHeartbeats 8000000 in
set_option maxRecDepth 100000 in
theorem item_In.calls (a0_0 : Int) (a0_1 : Int) (a0_2 : Int) (a0_3 : Int) (a0_4 : Int) (a0_5 : Int) (a0_6 : Int) (a1 : Int) (r : Bool) (w : World) (h : item_In.f a0_0 a0_1 a0_2 a0_3 a0_4 a0_5 a0_6 a1 = some r) :
    Calls Try.prog 22 #[.agg #[.int .u8 a0_0, .int .u8 a0_1, .int .u32 a0_2, .int .u32 a0_3, .int .i64 a0_4, .int .u8 a0_5, .int .u32 a0_6], .int .u8 a1] w fun e w' => e = .returned (.bool r) ∧ Below w.heap.size w w' := by
  have hu27 := Try.underlying27
  have HB := Aside0.mk (Below.refl w.heap.size w)
  have H : (if a0_4 = 3 then (some true) else (if a0_5 < 8 then (if 0 ≤ a0_5 then (some ((Go.bits .and .u8 (shr .u8 a1 a0_5) 1) == 1)) else (none)) else (some false))) = some r := h
  clear h
  by_cases c3 : a0_4 = 3
  · rw [if_pos c3] at H
    have c3b0 : (a0_4 == 3) = true := beq_iff_eq.mpr c3
    have c3b1 : (a0_4 != 3) = false := bne_eq_false_iff_eq.mpr c3
    clear c3
    obtain rfl := Option.some.inj H
    go_enter Try.func22, Try.ntmps22
    go_wp2_with (first | ((with_reducible refine gate_dst (N := 2) rfl ?_); refine box_event ?hg (N := 2) ?hd (cs := #[.int .u8 a0_0, .int .u8 a0_1, .int .u32 a0_2, .int .u32 a0_3, .int .i64 a0_4, .int .u8 a0_5, .int .u32 a0_6]) (t := 27) ?hr ?_; (case hd => rfl); (case hg => rfl); (case hr => first | (go_simp; done) | (go_simp; rfl)); intro gb148 hg w4 hbox hb; have n0_ := Aside0.mk (below_step (by repeat (first | (with_reducible first | exact HB.out | apply below_alloc | apply pw_below_drewN | apply below_drew1) | exact HB.out)) hb); have n1_ := Aside0.mk (hbox); have n2_ := Aside0.mk ((by rw [hg]; exact (below_size (by repeat (first | (with_reducible first | exact HB.out | apply below_alloc | apply pw_below_drewN | apply below_drew1) | exact HB.out))) : w.heap.size ≤ gb148)); have n3_ := Aside0.mk ((by rw [hg]; exact (below_size (by repeat (first | (with_reducible first | exact HB.out | apply below_alloc | apply pw_below_drewN | apply below_drew1) | exact HB.out))) : w.heap.size ≤ gb148)); clear HB; have HB := n0_; have BK148 := n1_; have GW148 := n2_; have GE148 := n3_; clear n0_ n1_ n2_ n3_; clear hb hbox hg; have hcz5_0 : w4.cell? ⟨gb148, 0, none⟩ = some (.int .u8 a0_0) := (blk_cell BK148.out 0).trans rfl; have hcz5_1 : w4.cell? ⟨gb148, 1, none⟩ = some (.int .u8 a0_1) := (blk_cell BK148.out 1).trans rfl; have hcz5_2 : w4.cell? ⟨gb148, 2, none⟩ = some (.int .u32 a0_2) := (blk_cell BK148.out 2).trans rfl; have hcz5_3 : w4.cell? ⟨gb148, 3, none⟩ = some (.int .u32 a0_3) := (blk_cell BK148.out 3).trans rfl; have hcz5_4 : w4.cell? ⟨gb148, 4, none⟩ = some (.int .i64 a0_4) := (blk_cell BK148.out 4).trans rfl; have hcz5_5 : w4.cell? ⟨gb148, 5, none⟩ = some (.int .u8 a0_5) := (blk_cell BK148.out 5).trans rfl; have hcz5_6 : w4.cell? ⟨gb148, 6, none⟩ = some (.int .u32 a0_6) := (blk_cell BK148.out 6).trans rfl; have hfz5_0 := blk_frozen BK148.out 0; have hfz5_1 := blk_frozen BK148.out 1; have hfz5_2 := blk_frozen BK148.out 2; have hfz5_3 := blk_frozen BK148.out 3; have hfz5_4 := blk_frozen BK148.out 4; have hfz5_5 := blk_frozen BK148.out 5; have hfz5_6 := blk_frozen BK148.out 6))
    go_ret
    exact ⟨by first | rfl | (simp [errW_none, errW_some] <;> rfl) | (simp [*, errW_none, errW_some] <;> rfl), by repeat (first | (with_reducible first | exact HB.out | apply below_alloc | apply pw_below_drewN | apply below_drew1 | refine below_set ?_ GE148.out) | exact HB.out)⟩
  · rw [if_neg c3] at H
    have c3b0 : (a0_4 == 3) = false := beq_eq_false_iff_ne.mpr c3
    have c3b1 : (a0_4 != 3) = true := bne_iff_ne.mpr c3
    by_cases c6 : a0_5 < 8
    · rw [if_pos c6] at H
      have c6b0 : decide (a0_5 < 8) = true := decide_eq_true c6
      clear c6
      by_cases c7 : 0 ≤ a0_5
      · rw [if_pos c7] at H
        have c7b0 := eq_true c7
        have c7b1 : decide (0 ≤ a0_5) = true := decide_eq_true c7
        clear c7
        obtain ⟨ji8, hji8⟩ : ∃ j_ : Int, (shr .u8 a1 a0_5) = j_ := ⟨_, rfl⟩
        replace H : (some ((Go.bits .and .u8 (ji8) 1) == 1)) = some r := by first | (rw [hji8] at H; exact H) | (simp only [hji8] at H ⊢; exact H)
        have hji8_ : (a1 / 2 ^ min a0_5.toNat 8) = ji8 := hji8
        have hji8z : a0_5 ≤ 8 → (a1 / 2 ^ a0_5.toNat) = ji8 := shr_small hji8
        obtain rfl := Option.some.inj H
        go_enter Try.func22, Try.ntmps22
        go_wp2_with (first | ((with_reducible refine gate_dst (N := 2) rfl ?_); refine box_event ?hg (N := 2) ?hd (cs := #[.int .u8 a0_0, .int .u8 a0_1, .int .u32 a0_2, .int .u32 a0_3, .int .i64 a0_4, .int .u8 a0_5, .int .u32 a0_6]) (t := 27) ?hr ?_; (case hd => rfl); (case hg => rfl); (case hr => first | (go_simp; done) | (go_simp; rfl)); intro gb148 hg w9 hbox hb; have n0_ := Aside0.mk (below_step (by repeat (first | (with_reducible first | exact HB.out | apply below_alloc | apply pw_below_drewN | apply below_drew1) | exact HB.out)) hb); have n1_ := Aside0.mk (hbox); have n2_ := Aside0.mk ((by rw [hg]; exact (below_size (by repeat (first | (with_reducible first | exact HB.out | apply below_alloc | apply pw_below_drewN | apply below_drew1) | exact HB.out))) : w.heap.size ≤ gb148)); have n3_ := Aside0.mk ((by rw [hg]; exact (below_size (by repeat (first | (with_reducible first | exact HB.out | apply below_alloc | apply pw_below_drewN | apply below_drew1) | exact HB.out))) : w.heap.size ≤ gb148)); clear HB; have HB := n0_; have BK148 := n1_; have GW148 := n2_; have GE148 := n3_; clear n0_ n1_ n2_ n3_; clear hb hbox hg; have hcz10_0 : w9.cell? ⟨gb148, 0, none⟩ = some (.int .u8 a0_0) := (blk_cell BK148.out 0).trans rfl; have hcz10_1 : w9.cell? ⟨gb148, 1, none⟩ = some (.int .u8 a0_1) := (blk_cell BK148.out 1).trans rfl; have hcz10_2 : w9.cell? ⟨gb148, 2, none⟩ = some (.int .u32 a0_2) := (blk_cell BK148.out 2).trans rfl; have hcz10_3 : w9.cell? ⟨gb148, 3, none⟩ = some (.int .u32 a0_3) := (blk_cell BK148.out 3).trans rfl; have hcz10_4 : w9.cell? ⟨gb148, 4, none⟩ = some (.int .i64 a0_4) := (blk_cell BK148.out 4).trans rfl; have hcz10_5 : w9.cell? ⟨gb148, 5, none⟩ = some (.int .u8 a0_5) := (blk_cell BK148.out 5).trans rfl; have hcz10_6 : w9.cell? ⟨gb148, 6, none⟩ = some (.int .u32 a0_6) := (blk_cell BK148.out 6).trans rfl; have hfz10_0 := blk_frozen BK148.out 0; have hfz10_1 := blk_frozen BK148.out 1; have hfz10_2 := blk_frozen BK148.out 2; have hfz10_3 := blk_frozen BK148.out 3; have hfz10_4 := blk_frozen BK148.out 4; have hfz10_5 := blk_frozen BK148.out 5; have hfz10_6 := blk_frozen BK148.out 6))
        go_ret
        exact ⟨by first | rfl | (simp [errW_none, errW_some] <;> rfl) | (simp only [← hji8]; first | rfl | (simp [errW_none, errW_some] <;> rfl)) | (simp [*, errW_none, errW_some] <;> rfl), by repeat (first | (with_reducible first | exact HB.out | apply below_alloc | apply pw_below_drewN | apply below_drew1 | refine below_set ?_ GE148.out) | exact HB.out)⟩
      · rw [if_neg c7] at H
        exact absurd H (by simp)
    · rw [if_neg c6] at H
      have c6b0 : decide (a0_5 < 8) = false := decide_eq_false c6
      clear c6
      obtain rfl := Option.some.inj H
      go_enter Try.func22, Try.ntmps22
      go_wp2_with (first | ((with_reducible refine gate_dst (N := 2) rfl ?_); refine box_event ?hg (N := 2) ?hd (cs := #[.int .u8 a0_0, .int .u8 a0_1, .int .u32 a0_2, .int .u32 a0_3, .int .i64 a0_4, .int .u8 a0_5, .int .u32 a0_6]) (t := 27) ?hr ?_; (case hd => rfl); (case hg => rfl); (case hr => first | (go_simp; done) | (go_simp; rfl)); intro gb148 hg w11 hbox hb; have n0_ := Aside0.mk (below_step (by repeat (first | (with_reducible first | exact HB.out | apply below_alloc | apply pw_below_drewN | apply below_drew1) | exact HB.out)) hb); have n1_ := Aside0.mk (hbox); have n2_ := Aside0.mk ((by rw [hg]; exact (below_size (by repeat (first | (with_reducible first | exact HB.out | apply below_alloc | apply pw_below_drewN | apply below_drew1) | exact HB.out))) : w.heap.size ≤ gb148)); have n3_ := Aside0.mk ((by rw [hg]; exact (below_size (by repeat (first | (with_reducible first | exact HB.out | apply below_alloc | apply pw_below_drewN | apply below_drew1) | exact HB.out))) : w.heap.size ≤ gb148)); clear HB; have HB := n0_; have BK148 := n1_; have GW148 := n2_; have GE148 := n3_; clear n0_ n1_ n2_ n3_; clear hb hbox hg; have hcz12_0 : w11.cell? ⟨gb148, 0, none⟩ = some (.int .u8 a0_0) := (blk_cell BK148.out 0).trans rfl; have hcz12_1 : w11.cell? ⟨gb148, 1, none⟩ = some (.int .u8 a0_1) := (blk_cell BK148.out 1).trans rfl; have hcz12_2 : w11.cell? ⟨gb148, 2, none⟩ = some (.int .u32 a0_2) := (blk_cell BK148.out 2).trans rfl; have hcz12_3 : w11.cell? ⟨gb148, 3, none⟩ = some (.int .u32 a0_3) := (blk_cell BK148.out 3).trans rfl; have hcz12_4 : w11.cell? ⟨gb148, 4, none⟩ = some (.int .i64 a0_4) := (blk_cell BK148.out 4).trans rfl; have hcz12_5 : w11.cell? ⟨gb148, 5, none⟩ = some (.int .u8 a0_5) := (blk_cell BK148.out 5).trans rfl; have hcz12_6 : w11.cell? ⟨gb148, 6, none⟩ = some (.int .u32 a0_6) := (blk_cell BK148.out 6).trans rfl; have hfz12_0 := blk_frozen BK148.out 0; have hfz12_1 := blk_frozen BK148.out 1; have hfz12_2 := blk_frozen BK148.out 2; have hfz12_3 := blk_frozen BK148.out 3; have hfz12_4 := blk_frozen BK148.out 4; have hfz12_5 := blk_frozen BK148.out 5; have hfz12_6 := blk_frozen BK148.out 6))
      go_ret
      exact ⟨by first | rfl | (simp [errW_none, errW_some] <;> rfl) | (simp [*, errW_none, errW_some] <;> rfl), by repeat (first | (with_reducible first | exact HB.out | apply below_alloc | apply pw_below_drewN | apply below_drew1 | refine below_set ?_ GE148.out) | exact HB.out)⟩
attribute [local go_sem] field_Entry_Kind
/-! ### tidingslaw02_awake: function 8 -/
def tidingslaw02_awake.g (k : Nat)  : Option (Bool) := (item_Take.f k (([(⟨3, (⟨0, 1, 2⟩ : S25), 1, 1, 9⟩ : S27)] : List (S27))) 3 1 1 2 3 0 0).bind fun bt154 => ((item_Take.f k (([(⟨3, (⟨1, 1, 2⟩ : S25), 3, 0, 0⟩ : S27)] : List (S27))) 3 0 1 2 1 1 9).bind fun bt161 => (if bt154.2.isNone = true then (if bt161.2.isNone = true then (if (bt154.1.length : Int) = 1 then (if 0 < (bt154.1.length : Int) then (if (((rd_T27 bt154.1 0).f0) == 3 && ((((rd_T27 bt154.1 0).f1.f0) == 1 && (((rd_T27 bt154.1 0).f1.f1) == 1 && (((rd_T27 bt154.1 0).f1.f2) == 2))) && (((rd_T27 bt154.1 0).f2) == 3 && (((rd_T27 bt154.1 0).f3) == 0 && (((rd_T27 bt154.1 0).f4) == 0))))) = true then (if (bt161.1.length : Int) = 1 then (if 0 < (bt161.1.length : Int) then (if (((rd_T27 bt161.1 0).f0) == 3 && ((((rd_T27 bt161.1 0).f1.f0) == 1 && (((rd_T27 bt161.1 0).f1.f1) == 1 && (((rd_T27 bt161.1 0).f1.f2) == 2))) && (((rd_T27 bt161.1 0).f2) == 3 && (((rd_T27 bt161.1 0).f3) == 0 && (((rd_T27 bt161.1 0).f4) == 0))))) = true then ((item_In.f 3 0 1 2 1 1 9 2).bind fun t169 => (if t169 = true then ((item_In.f 3 0 1 2 1 1 9 1).bind fun t170 => (if t170 = true then (some false) else ((item_Fade.f 3 0 1 2 1 1 9).bind fun bt171 => (some (bt171.2.2.2.2.1 == 2))))) else (some false))) else (some false)) else (none)) else (some false)) else (some false)) else (none)) else (some false)) else (some false)) else (some false)))
/-- What is true, or nothing that is known. -/
def tidingslaw02_awake.f (k : Nat)  : Option (Bool) := (tidingslaw02_awake.g k).bind fun b => if b = true then some true else none
theorem tidingslaw02_awake.mono : ∀ k, LeO (tidingslaw02_awake.f k ) (tidingslaw02_awake.f (k + 1) ) := by
  intro  k
  unfold tidingslaw02_awake.f tidingslaw02_awake.g
  repeat' first
      | (with_reducible exact item_Take.mono _ _ _ _ _ _ _ _ _)
      | (with_reducible exact LeO.refl _)
      | (with_reducible exact LeO.none _)
      | (with_reducible refine LeO.ite ?_ ?_)
      | (with_reducible refine LeO.bind ?_ (fun _ => ?_))
      | exact item_Take.mono _ _ _ _ _ _ _ _ _
      | exact LeO.none _
      | refine LeO.ite ?_ ?_
      | refine LeO.bind ?_ (fun _ => ?_)
def tidingslaw02_awake.T5 : Bool × List (List Nat × List Nat) := (true, [([], []), ([0], [0]), ([1], [1]), ([2], [2]), ([3, 2], [2, 3]), ([2, 4], [2, 4]), ([5, 2], [5]), ([6], [6]), ([7, 6], [6, 7]), ([8, 6], [6, 8]), ([6, 9], [6, 9]), ([10, 6], [10]), ([11], [11]), ([12, 11], [11, 12]), ([13, 11], [11, 13]), ([11], [11]), ([14, 15, 11], [11, 14, 15]), ([11, 16], [11, 16]), ([17, 11], [17]), ([18], [18]), ([19, 18], [18, 19]), ([20, 18], [18, 20]), ([18, 21], [18, 21]), ([22, 18], [22]), ([23], [23]), ([24, 23], [23, 24]), ([25, 23], [23, 25]), ([23], [23]), ([26, 27, 23], [23, 26, 27]), ([23, 28], [23, 28]), ([29, 23], [29]), ([30], [30]), ([31, 30, 30], [30, 31]), ([30, 32], [30, 32]), ([33, 32], [33]), ([34], [34]), ([35, 34, 34], [34, 35]), ([36, 34], [34, 36]), ([34, 37], [34, 37]), ([38, 36], [38]), ([39], [39]), ([40, 39, 39], [39, 40]), ([41, 39], [39, 41]), ([42, 39], [39, 42]), ([39, 43], [39, 43]), ([44, 41, 0, 1, 2, 3, 4, 5, 6, 7, 8, 9, 10, 11, 12, 13, 14, 15, 16, 17, 18, 19, 20, 21, 22, 23, 24, 25, 26, 27, 28, 29, 30, 31, 32, 33, 34, 35, 36, 37, 38, 39, 40, 41, 42, 43, 44], [44])])
def tidingslaw02_awake.B5 : List Nat := [0, 1, 3, 7, 15, 31, 63, 127, 255, 511, 1023, 2047, 4095, 8191, 16383, 4095, 65535, 131071, 262143, 524287, 1048575, 2097151, 4194303, 8388607, 16777215, 33554431, 67108863, 16777215, 268435455, 536870911, 1073741823, 2147483647, 4294967295, 8589934591, 17179869183, 34359738367, 68719476735, 137438953471, 274877906943, 549755813887, 1099511627775, 2199023255551, 4398046511103, 8796093022207, 17592186044415, 35184372088831]
theorem tidingslaw02_awake.tab5 : rtab .any (opsOf Try.f8 5) = tidingslaw02_awake.T5 := by kernel_rfl
theorem tidingslaw02_awake.bits5 : waitsOk tidingslaw02_awake.T5.2 tidingslaw02_awake.B5 = true := by kernel_rfl
set_option maxHeartbeats 8000000 in
set_option maxRecDepth 100000 in
theorem tidingslaw02_awake.calls (k : Nat)  (r : Bool) (w : World) (h : tidingslaw02_awake.f k  = some r) :
    Calls Try.prog 8 #[] w fun e w' => e = .returned (.bool r) ∧ Below w.heap.size w w' := by
  obtain ⟨h, hrt⟩ : tidingslaw02_awake.g k = some r ∧ r = true := by
    unfold tidingslaw02_awake.f at h
    cases hg : tidingslaw02_awake.g k with
    | none => rw [hg] at h; cases h
    | some b =>
      rw [hg] at h
      cases b with
      | false => cases h
      | true => exact ⟨h, (Option.some.inj h).symm⟩
  have HRT := Aside0.mk hrt
  clear hrt
  have hu25 := Try.underlying25
  have hu27 := Try.underlying27
  have hu34 := Try.underlying34
  have hu67 := Try.underlying67
  have HB := Aside0.mk (Below.refl w.heap.size w)
  have H : ((item_Take.f k (([(⟨3, (⟨0, 1, 2⟩ : S25), 1, 1, 9⟩ : S27)] : List (S27))) 3 1 1 2 3 0 0).bind fun bt154 => ((item_Take.f k (([(⟨3, (⟨1, 1, 2⟩ : S25), 3, 0, 0⟩ : S27)] : List (S27))) 3 0 1 2 1 1 9).bind fun bt161 => (if bt154.2.isNone = true then (if bt161.2.isNone = true then (if (bt154.1.length : Int) = 1 then (if 0 < (bt154.1.length : Int) then (if (((rd_T27 bt154.1 0).f0) == 3 && ((((rd_T27 bt154.1 0).f1.f0) == 1 && (((rd_T27 bt154.1 0).f1.f1) == 1 && (((rd_T27 bt154.1 0).f1.f2) == 2))) && (((rd_T27 bt154.1 0).f2) == 3 && (((rd_T27 bt154.1 0).f3) == 0 && (((rd_T27 bt154.1 0).f4) == 0))))) = true then (if (bt161.1.length : Int) = 1 then (if 0 < (bt161.1.length : Int) then (if (((rd_T27 bt161.1 0).f0) == 3 && ((((rd_T27 bt161.1 0).f1.f0) == 1 && (((rd_T27 bt161.1 0).f1.f1) == 1 && (((rd_T27 bt161.1 0).f1.f2) == 2))) && (((rd_T27 bt161.1 0).f2) == 3 && (((rd_T27 bt161.1 0).f3) == 0 && (((rd_T27 bt161.1 0).f4) == 0))))) = true then ((item_In.f 3 0 1 2 1 1 9 2).bind fun t169 => (if t169 = true then ((item_In.f 3 0 1 2 1 1 9 1).bind fun t170 => (if t170 = true then (some false) else ((item_Fade.f 3 0 1 2 1 1 9).bind fun bt171 => (some (bt171.2.2.2.2.1 == 2))))) else (some false))) else (some false)) else (none)) else (some false)) else (some false)) else (none)) else (some false)) else (some false)) else (some false)))) = some r := h
  clear h
  obtain ⟨y151, hy151⟩ : ∃ y_ : List (S27), y_ = (([(⟨3, (⟨0, 1, 2⟩ : S25), 1, 1, 9⟩ : S27)] : List (S27))) := ⟨_, rfl⟩
  replace H : ((item_Take.f k y151 3 1 1 2 3 0 0).bind fun bt154 => ((item_Take.f k (([(⟨3, (⟨1, 1, 2⟩ : S25), 3, 0, 0⟩ : S27)] : List (S27))) 3 0 1 2 1 1 9).bind fun bt161 => (if bt154.2.isNone = true then (if bt161.2.isNone = true then (if (bt154.1.length : Int) = 1 then (if 0 < (bt154.1.length : Int) then (if (((rd_T27 bt154.1 0).f0) == 3 && ((((rd_T27 bt154.1 0).f1.f0) == 1 && (((rd_T27 bt154.1 0).f1.f1) == 1 && (((rd_T27 bt154.1 0).f1.f2) == 2))) && (((rd_T27 bt154.1 0).f2) == 3 && (((rd_T27 bt154.1 0).f3) == 0 && (((rd_T27 bt154.1 0).f4) == 0))))) = true then (if (bt161.1.length : Int) = 1 then (if 0 < (bt161.1.length : Int) then (if (((rd_T27 bt161.1 0).f0) == 3 && ((((rd_T27 bt161.1 0).f1.f0) == 1 && (((rd_T27 bt161.1 0).f1.f1) == 1 && (((rd_T27 bt161.1 0).f1.f2) == 2))) && (((rd_T27 bt161.1 0).f2) == 3 && (((rd_T27 bt161.1 0).f3) == 0 && (((rd_T27 bt161.1 0).f4) == 0))))) = true then ((item_In.f 3 0 1 2 1 1 9 2).bind fun t169 => (if t169 = true then ((item_In.f 3 0 1 2 1 1 9 1).bind fun t170 => (if t170 = true then (some false) else ((item_Fade.f 3 0 1 2 1 1 9).bind fun bt171 => (some (bt171.2.2.2.2.1 == 2))))) else (some false))) else (some false)) else (none)) else (some false)) else (some false)) else (none)) else (some false)) else (some false)) else (some false)))) = some r := by first | (rw [hy151]; with_reducible exact H) | (have H2_ := (Option.bind_some _ _).symm.trans H; rw [hy151]; with_reducible exact H2_) | (have H2_ := (Option.bind_some _ _).symm.trans H; with_reducible exact H2_) | with_reducible exact H | (rw [hy151]; exact H) | exact H
  have Ny151 := Aside0.mk hy151
  clear hy151
  replace H := Option.bind_eq_some_iff.mp H
  obtain ⟨⟨t154, t157⟩, A10, H⟩ := H
  replace H : ((item_Take.f k (([(⟨3, (⟨1, 1, 2⟩ : S25), 3, 0, 0⟩ : S27)] : List (S27))) 3 0 1 2 1 1 9).bind fun bt161 => (if t157.isNone = true then (if bt161.2.isNone = true then (if (t154.length : Int) = 1 then (if 0 < (t154.length : Int) then (if (((rd_T27 t154 0).f0) == 3 && ((((rd_T27 t154 0).f1.f0) == 1 && (((rd_T27 t154 0).f1.f1) == 1 && (((rd_T27 t154 0).f1.f2) == 2))) && (((rd_T27 t154 0).f2) == 3 && (((rd_T27 t154 0).f3) == 0 && (((rd_T27 t154 0).f4) == 0))))) = true then (if (bt161.1.length : Int) = 1 then (if 0 < (bt161.1.length : Int) then (if (((rd_T27 bt161.1 0).f0) == 3 && ((((rd_T27 bt161.1 0).f1.f0) == 1 && (((rd_T27 bt161.1 0).f1.f1) == 1 && (((rd_T27 bt161.1 0).f1.f2) == 2))) && (((rd_T27 bt161.1 0).f2) == 3 && (((rd_T27 bt161.1 0).f3) == 0 && (((rd_T27 bt161.1 0).f4) == 0))))) = true then ((item_In.f 3 0 1 2 1 1 9 2).bind fun t169 => (if t169 = true then ((item_In.f 3 0 1 2 1 1 9 1).bind fun t170 => (if t170 = true then (some false) else ((item_Fade.f 3 0 1 2 1 1 9).bind fun bt171 => (some (bt171.2.2.2.2.1 == 2))))) else (some false))) else (some false)) else (none)) else (some false)) else (some false)) else (none)) else (some false)) else (some false)) else (some false))) = some r := H
  have A1 := Aside0.mk A10
  clear A10
  obtain ⟨y158, hy158⟩ : ∃ y_ : List (S27), y_ = (([(⟨3, (⟨1, 1, 2⟩ : S25), 3, 0, 0⟩ : S27)] : List (S27))) := ⟨_, rfl⟩
  replace H : ((item_Take.f k y158 3 0 1 2 1 1 9).bind fun bt161 => (if t157.isNone = true then (if bt161.2.isNone = true then (if (t154.length : Int) = 1 then (if 0 < (t154.length : Int) then (if (((rd_T27 t154 0).f0) == 3 && ((((rd_T27 t154 0).f1.f0) == 1 && (((rd_T27 t154 0).f1.f1) == 1 && (((rd_T27 t154 0).f1.f2) == 2))) && (((rd_T27 t154 0).f2) == 3 && (((rd_T27 t154 0).f3) == 0 && (((rd_T27 t154 0).f4) == 0))))) = true then (if (bt161.1.length : Int) = 1 then (if 0 < (bt161.1.length : Int) then (if (((rd_T27 bt161.1 0).f0) == 3 && ((((rd_T27 bt161.1 0).f1.f0) == 1 && (((rd_T27 bt161.1 0).f1.f1) == 1 && (((rd_T27 bt161.1 0).f1.f2) == 2))) && (((rd_T27 bt161.1 0).f2) == 3 && (((rd_T27 bt161.1 0).f3) == 0 && (((rd_T27 bt161.1 0).f4) == 0))))) = true then ((item_In.f 3 0 1 2 1 1 9 2).bind fun t169 => (if t169 = true then ((item_In.f 3 0 1 2 1 1 9 1).bind fun t170 => (if t170 = true then (some false) else ((item_Fade.f 3 0 1 2 1 1 9).bind fun bt171 => (some (bt171.2.2.2.2.1 == 2))))) else (some false))) else (some false)) else (none)) else (some false)) else (some false)) else (none)) else (some false)) else (some false)) else (some false))) = some r := by first | (rw [hy158]; with_reducible exact H) | (have H2_ := (Option.bind_some _ _).symm.trans H; rw [hy158]; with_reducible exact H2_) | (have H2_ := (Option.bind_some _ _).symm.trans H; with_reducible exact H2_) | with_reducible exact H | (rw [hy158]; exact H) | exact H
  have Ny158 := Aside0.mk hy158
  clear hy158
  replace H := Option.bind_eq_some_iff.mp H
  obtain ⟨⟨t161, t164⟩, A20, H⟩ := H
  replace H : (if t157.isNone = true then (if t164.isNone = true then (if (t154.length : Int) = 1 then (if 0 < (t154.length : Int) then (if (((rd_T27 t154 0).f0) == 3 && ((((rd_T27 t154 0).f1.f0) == 1 && (((rd_T27 t154 0).f1.f1) == 1 && (((rd_T27 t154 0).f1.f2) == 2))) && (((rd_T27 t154 0).f2) == 3 && (((rd_T27 t154 0).f3) == 0 && (((rd_T27 t154 0).f4) == 0))))) = true then (if (t161.length : Int) = 1 then (if 0 < (t161.length : Int) then (if (((rd_T27 t161 0).f0) == 3 && ((((rd_T27 t161 0).f1.f0) == 1 && (((rd_T27 t161 0).f1.f1) == 1 && (((rd_T27 t161 0).f1.f2) == 2))) && (((rd_T27 t161 0).f2) == 3 && (((rd_T27 t161 0).f3) == 0 && (((rd_T27 t161 0).f4) == 0))))) = true then ((item_In.f 3 0 1 2 1 1 9 2).bind fun t169 => (if t169 = true then ((item_In.f 3 0 1 2 1 1 9 1).bind fun t170 => (if t170 = true then (some false) else ((item_Fade.f 3 0 1 2 1 1 9).bind fun bt171 => (some (bt171.2.2.2.2.1 == 2))))) else (some false))) else (some false)) else (none)) else (some false)) else (some false)) else (none)) else (some false)) else (some false)) else (some false)) = some r := H
  have A2 := Aside0.mk A20
  clear A20
  rcases t157 with _ | q165
  · have H1 : (if t164.isNone = true then (if (t154.length : Int) = 1 then (if 0 < (t154.length : Int) then (if (((rd_T27 t154 0).f0) == 3 && ((((rd_T27 t154 0).f1.f0) == 1 && (((rd_T27 t154 0).f1.f1) == 1 && (((rd_T27 t154 0).f1.f2) == 2))) && (((rd_T27 t154 0).f2) == 3 && (((rd_T27 t154 0).f3) == 0 && (((rd_T27 t154 0).f4) == 0))))) = true then (if (t161.length : Int) = 1 then (if 0 < (t161.length : Int) then (if (((rd_T27 t161 0).f0) == 3 && ((((rd_T27 t161 0).f1.f0) == 1 && (((rd_T27 t161 0).f1.f1) == 1 && (((rd_T27 t161 0).f1.f2) == 2))) && (((rd_T27 t161 0).f2) == 3 && (((rd_T27 t161 0).f3) == 0 && (((rd_T27 t161 0).f4) == 0))))) = true then ((item_In.f 3 0 1 2 1 1 9 2).bind fun t169 => (if t169 = true then ((item_In.f 3 0 1 2 1 1 9 1).bind fun t170 => (if t170 = true then (some false) else ((item_Fade.f 3 0 1 2 1 1 9).bind fun bt171 => (some (bt171.2.2.2.2.1 == 2))))) else (some false))) else (some false)) else (none)) else (some false)) else (some false)) else (none)) else (some false)) else (some false)) = some r := by rw [if_pos (show (none : Option Int).isNone = true by rfl)] at H; exact H
    clear H
    have H := H1
    clear H1
    try simp only [errW_none, errW_some]
    rcases t164 with _ | q166
    · have H1 : (if (t154.length : Int) = 1 then (if 0 < (t154.length : Int) then (if (((rd_T27 t154 0).f0) == 3 && ((((rd_T27 t154 0).f1.f0) == 1 && (((rd_T27 t154 0).f1.f1) == 1 && (((rd_T27 t154 0).f1.f2) == 2))) && (((rd_T27 t154 0).f2) == 3 && (((rd_T27 t154 0).f3) == 0 && (((rd_T27 t154 0).f4) == 0))))) = true then (if (t161.length : Int) = 1 then (if 0 < (t161.length : Int) then (if (((rd_T27 t161 0).f0) == 3 && ((((rd_T27 t161 0).f1.f0) == 1 && (((rd_T27 t161 0).f1.f1) == 1 && (((rd_T27 t161 0).f1.f2) == 2))) && (((rd_T27 t161 0).f2) == 3 && (((rd_T27 t161 0).f3) == 0 && (((rd_T27 t161 0).f4) == 0))))) = true then ((item_In.f 3 0 1 2 1 1 9 2).bind fun t169 => (if t169 = true then ((item_In.f 3 0 1 2 1 1 9 1).bind fun t170 => (if t170 = true then (some false) else ((item_Fade.f 3 0 1 2 1 1 9).bind fun bt171 => (some (bt171.2.2.2.2.1 == 2))))) else (some false))) else (some false)) else (none)) else (some false)) else (some false)) else (none)) else (some false)) = some r := by rw [if_pos (show (none : Option Int).isNone = true by rfl)] at H; exact H
      clear H
      have H := H1
      clear H1
      try simp only [errW_none, errW_some]
      by_cases c3 : (t154.length : Int) = 1
      · rw [if_pos c3] at H
        have c3b0 : ((t154.length : Int) == 1) = true := beq_iff_eq.mpr c3
        have c3b1 : ((t154.length : Int) != 1) = false := bne_eq_false_iff_eq.mpr c3
        clear c3
        by_cases c4 : 0 < (t154.length : Int)
        · rw [if_pos c4] at H
          have c4b0 : decide (0 < (t154.length : Int)) = true := decide_eq_true c4
          have c4b1 : decide (0 < t154.length) = true := decide_eq_true (by omega)
          clear c4
          by_cases c5 : (((rd_T27 t154 0).f0) == 3 && ((((rd_T27 t154 0).f1.f0) == 1 && (((rd_T27 t154 0).f1.f1) == 1 && (((rd_T27 t154 0).f1.f2) == 2))) && (((rd_T27 t154 0).f2) == 3 && (((rd_T27 t154 0).f3) == 0 && (((rd_T27 t154 0).f4) == 0))))) = true
          · rw [if_pos c5] at H
            have c5b0 : (((rd_T27 t154 0).f0) == 3 && ((((rd_T27 t154 0).f1.f0) == 1 && (((rd_T27 t154 0).f1.f1) == 1 && (((rd_T27 t154 0).f1.f2) == 2))) && (((rd_T27 t154 0).f2) == 3 && (((rd_T27 t154 0).f3) == 0 && (((rd_T27 t154 0).f4) == 0))))) = true := c5
            (try (have c5b1 : decide (((rd_T27 t154 0).f0) = 3 && ((((rd_T27 t154 0).f1.f0) == 1 && (((rd_T27 t154 0).f1.f1) == 1 && (((rd_T27 t154 0).f1.f2) == 2))) && (((rd_T27 t154 0).f2) == 3 && (((rd_T27 t154 0).f3) == 0 && (((rd_T27 t154 0).f4) == 0))))) = true := by simpa using c5))
            (try (have c5b2 : (((rd_T27 t154 0).f0) == 3 && ((((rd_T27 t154 0).f1.f0) == 1 && (((rd_T27 t154 0).f1.f1) == 1 && (((rd_T27 t154 0).f1.f2) == 2))) && (((rd_T27 t154 0).f2) == 3 && (((rd_T27 t154 0).f3) == 0 && (((rd_T27 t154 0).f4) == 0))))) = true := by simpa using c5))
            clear c5
            by_cases c6 : (t161.length : Int) = 1
            · rw [if_pos c6] at H
              have c6b0 : ((t161.length : Int) == 1) = true := beq_iff_eq.mpr c6
              have c6b1 : ((t161.length : Int) != 1) = false := bne_eq_false_iff_eq.mpr c6
              clear c6
              by_cases c7 : 0 < (t161.length : Int)
              · rw [if_pos c7] at H
                have c7b0 : decide (0 < (t161.length : Int)) = true := decide_eq_true c7
                have c7b1 : decide (0 < t161.length) = true := decide_eq_true (by omega)
                clear c7
                by_cases c8 : (((rd_T27 t161 0).f0) == 3 && ((((rd_T27 t161 0).f1.f0) == 1 && (((rd_T27 t161 0).f1.f1) == 1 && (((rd_T27 t161 0).f1.f2) == 2))) && (((rd_T27 t161 0).f2) == 3 && (((rd_T27 t161 0).f3) == 0 && (((rd_T27 t161 0).f4) == 0))))) = true
                · rw [if_pos c8] at H
                  have c8b0 : (((rd_T27 t161 0).f0) == 3 && ((((rd_T27 t161 0).f1.f0) == 1 && (((rd_T27 t161 0).f1.f1) == 1 && (((rd_T27 t161 0).f1.f2) == 2))) && (((rd_T27 t161 0).f2) == 3 && (((rd_T27 t161 0).f3) == 0 && (((rd_T27 t161 0).f4) == 0))))) = true := c8
                  (try (have c8b1 : decide (((rd_T27 t161 0).f0) = 3 && ((((rd_T27 t161 0).f1.f0) == 1 && (((rd_T27 t161 0).f1.f1) == 1 && (((rd_T27 t161 0).f1.f2) == 2))) && (((rd_T27 t161 0).f2) == 3 && (((rd_T27 t161 0).f3) == 0 && (((rd_T27 t161 0).f4) == 0))))) = true := by simpa using c8))
                  (try (have c8b2 : (((rd_T27 t161 0).f0) == 3 && ((((rd_T27 t161 0).f1.f0) == 1 && (((rd_T27 t161 0).f1.f1) == 1 && (((rd_T27 t161 0).f1.f2) == 2))) && (((rd_T27 t161 0).f2) == 3 && (((rd_T27 t161 0).f3) == 0 && (((rd_T27 t161 0).f4) == 0))))) = true := by simpa using c8))
                  clear c8
                  replace H := Option.bind_eq_some_iff.mp H
                  obtain ⟨t169, A90, H⟩ := H
                  replace H : (if t169 = true then ((item_In.f 3 0 1 2 1 1 9 1).bind fun t170 => (if t170 = true then (some false) else ((item_Fade.f 3 0 1 2 1 1 9).bind fun bt171 => (some (bt171.2.2.2.2.1 == 2))))) else (some false)) = some r := H
                  have A9 := Aside0.mk A90
                  clear A90
                  by_cases c10 : t169 = true
                  · subst c10
                    have H1 : ((item_In.f 3 0 1 2 1 1 9 1).bind fun t170 => (if t170 = true then (some false) else ((item_Fade.f 3 0 1 2 1 1 9).bind fun bt171 => (some (bt171.2.2.2.2.1 == 2))))) = some r := by rw [if_pos rfl] at H; exact H
                    clear H
                    have H := H1
                    clear H1
                    replace H := Option.bind_eq_some_iff.mp H
                    obtain ⟨t170, A110, H⟩ := H
                    replace H : (if t170 = true then (some false) else ((item_Fade.f 3 0 1 2 1 1 9).bind fun bt171 => (some (bt171.2.2.2.2.1 == 2)))) = some r := H
                    have A11 := Aside0.mk A110
                    clear A110
                    by_cases c12 : t170 = true
                    · subst c12
                      have H1 : (some false) = some r := by rw [if_pos rfl] at H; exact H
                      clear H
                      have H := H1
                      clear H1
                      exact absurd ((Option.some.inj H).trans HRT.out) (by decide)
                    · replace c12 := Bool.eq_false_iff.mpr c12
                      subst c12
                      have H1 : ((item_Fade.f 3 0 1 2 1 1 9).bind fun bt171 => (some (bt171.2.2.2.2.1 == 2))) = some r := by rw [if_neg (show ¬ (false = true) by decide)] at H; exact H
                      clear H
                      have H := H1
                      clear H1
                      replace H := Option.bind_eq_some_iff.mp H
                      obtain ⟨⟨t171, t172, t173, t174, t175, t176, t177⟩, A350, H⟩ := H
                      replace H : (some (t175 == 2)) = some r := H
                      have A35 := Aside0.mk A350
                      clear A350
                      obtain rfl := Option.some.inj H
                      go_enter Try.func8, Try.ntmps8
                      try go_wp2_with (first | ((with_reducible refine gate_dst (N := 1) rfl ?_); (try (refine gate_guard (by rfl) ?_; dsimp only)); refine box_event ?hg (N := 1) ?hd (cs := #[.int .u8 0, .int .u8 0, .int .u32 0, .int .u32 0, .int .i64 0, .int .u8 0, .int .u32 0]) (t := 27) ?hr ?_; (case hd => rfl); (case hg => rfl); (case hr => first | (go_simp; done) | (go_simp; rfl)); intro gb149 hg w36 hbox hb; have n0_ := Aside0.mk (below_step (by repeat (first | (with_reducible first | exact HB.out | apply below_alloc | apply pw_below_drewN | apply below_drew1) | exact HB.out)) hb); have n1_ := Aside0.mk (hbox); have n2_ := Aside0.mk ((by rw [hg]; exact (below_size (by repeat (first | (with_reducible first | exact HB.out | apply below_alloc | apply pw_below_drewN | apply below_drew1) | exact HB.out))) : w.heap.size ≤ gb149)); have n3_ := Aside0.mk ((by rw [hg]; exact (below_size (by repeat (first | (with_reducible first | exact HB.out | apply below_alloc | apply pw_below_drewN | apply below_drew1) | exact HB.out))) : w.heap.size ≤ gb149)); clear HB; have HB := n0_; have BK149 := n1_; have GW149 := n2_; have GE149 := n3_; clear n0_ n1_ n2_ n3_; clear hb hbox hg; have hcz37_0 : w36.cell? ⟨gb149, 0, none⟩ = some (.int .u8 0) := (blk_cell BK149.out 0).trans rfl; have hcz37_1 : w36.cell? ⟨gb149, 1, none⟩ = some (.int .u8 0) := (blk_cell BK149.out 1).trans rfl; have hcz37_2 : w36.cell? ⟨gb149, 2, none⟩ = some (.int .u32 0) := (blk_cell BK149.out 2).trans rfl; have hcz37_3 : w36.cell? ⟨gb149, 3, none⟩ = some (.int .u32 0) := (blk_cell BK149.out 3).trans rfl; have hcz37_4 : w36.cell? ⟨gb149, 4, none⟩ = some (.int .i64 0) := (blk_cell BK149.out 4).trans rfl; have hcz37_5 : w36.cell? ⟨gb149, 5, none⟩ = some (.int .u8 0) := (blk_cell BK149.out 5).trans rfl; have hcz37_6 : w36.cell? ⟨gb149, 6, none⟩ = some (.int .u32 0) := (blk_cell BK149.out 6).trans rfl; have hfz37_0 := blk_frozen BK149.out 0; have hfz37_1 := blk_frozen BK149.out 1; have hfz37_2 := blk_frozen BK149.out 2; have hfz37_3 := blk_frozen BK149.out 3; have hfz37_4 := blk_frozen BK149.out 4; have hfz37_5 := blk_frozen BK149.out 5; have hfz37_6 := blk_frozen BK149.out 6) | ((with_reducible refine gate_dst (N := 2) rfl ?_); (try (refine gate_guard (by rfl) ?_; dsimp only)); refine box_event ?hg (N := 2) ?hd (cs := #[.int .u8 0, .int .u8 0, .int .u32 0, .int .u32 0, .int .i64 0, .int .u8 0, .int .u32 0]) (t := 27) ?hr ?_; (case hd => rfl); (case hg => rfl); (case hr => first | (go_simp; done) | (go_simp; rfl)); intro gb150 hg w38 hbox hb; have n0_ := Aside0.mk (blk_below (g := gb149) (o := .cells #[.int .u8 3, .int .u8 0, .int .u32 1, .int .u32 2, .int .i64 1, .int .u8 1, .int .u32 9] 27 (0, 0)) (by (with_reducible repeat (first | refine blk_drewN ?_ _ | refine blk_drew ?_ | refine blk_alloc ?_ _)); refine blk_put (cs := #[.int .u8 3, .int .u8 0, .int .u32 1, .int .u32 2, .int .i64 1, .int .u8 1, .int .u32 0]) ?_ 6 _ rfl; (with_reducible repeat (first | refine blk_drewN ?_ _ | refine blk_drew ?_ | refine blk_alloc ?_ _)); refine blk_put (cs := #[.int .u8 3, .int .u8 0, .int .u32 1, .int .u32 2, .int .i64 1, .int .u8 0, .int .u32 0]) ?_ 5 _ rfl; (with_reducible repeat (first | refine blk_drewN ?_ _ | refine blk_drew ?_ | refine blk_alloc ?_ _)); refine blk_put (cs := #[.int .u8 3, .int .u8 0, .int .u32 1, .int .u32 2, .int .i64 0, .int .u8 0, .int .u32 0]) ?_ 4 _ rfl; (with_reducible repeat (first | refine blk_drewN ?_ _ | refine blk_drew ?_ | refine blk_alloc ?_ _)); refine blk_put (cs := #[.int .u8 3, .int .u8 0, .int .u32 1, .int .u32 0, .int .i64 0, .int .u8 0, .int .u32 0]) ?_ 3 _ rfl; (with_reducible repeat (first | refine blk_drewN ?_ _ | refine blk_drew ?_ | refine blk_alloc ?_ _)); refine blk_put (cs := #[.int .u8 3, .int .u8 0, .int .u32 0, .int .u32 0, .int .i64 0, .int .u8 0, .int .u32 0]) ?_ 2 _ rfl; (with_reducible repeat (first | refine blk_drewN ?_ _ | refine blk_drew ?_ | refine blk_alloc ?_ _)); refine blk_put (cs := #[.int .u8 3, .int .u8 0, .int .u32 0, .int .u32 0, .int .i64 0, .int .u8 0, .int .u32 0]) ?_ 1 _ rfl; (with_reducible repeat (first | refine blk_drewN ?_ _ | refine blk_drew ?_ | refine blk_alloc ?_ _)); refine blk_put (cs := #[.int .u8 0, .int .u8 0, .int .u32 0, .int .u32 0, .int .i64 0, .int .u8 0, .int .u32 0]) ?_ 0 _ rfl; (with_reducible repeat (first | refine blk_drewN ?_ _ | refine blk_drew ?_ | refine blk_alloc ?_ _)); exact BK149.out) hb); have n1_ := Aside0.mk (below_step (by repeat (first | (with_reducible first | exact HB.out | apply below_alloc | apply pw_below_drewN | apply below_drew1 | refine below_set ?_ GE149.out) | exact HB.out)) hb); have n2_ := Aside0.mk (hbox); have n3_ := Aside0.mk ((by rw [hg]; exact (below_size (by repeat (first | (with_reducible first | exact HB.out | apply below_alloc | apply pw_below_drewN | apply below_drew1 | refine below_set ?_ GE149.out) | exact HB.out))) : w.heap.size ≤ gb150)); have n4_ := Aside0.mk ((by rw [hg]; exact (below_size (by repeat (first | (with_reducible first | exact HB.out | apply below_alloc | apply pw_below_drewN | apply below_drew1 | refine below_set ?_ GE149.out) | exact HB.out))) : w.heap.size ≤ gb150)); have n5_ := Aside0.mk ((by rw [hg]; exact Nat.ne_of_lt (blk_lt (g := gb149) (o := .cells #[.int .u8 3, .int .u8 0, .int .u32 1, .int .u32 2, .int .i64 1, .int .u8 1, .int .u32 9] 27 (0, 0)) (by (with_reducible repeat (first | refine blk_drewN ?_ _ | refine blk_drew ?_ | refine blk_alloc ?_ _)); refine blk_put (cs := #[.int .u8 3, .int .u8 0, .int .u32 1, .int .u32 2, .int .i64 1, .int .u8 1, .int .u32 0]) ?_ 6 _ rfl; (with_reducible repeat (first | refine blk_drewN ?_ _ | refine blk_drew ?_ | refine blk_alloc ?_ _)); refine blk_put (cs := #[.int .u8 3, .int .u8 0, .int .u32 1, .int .u32 2, .int .i64 1, .int .u8 0, .int .u32 0]) ?_ 5 _ rfl; (with_reducible repeat (first | refine blk_drewN ?_ _ | refine blk_drew ?_ | refine blk_alloc ?_ _)); refine blk_put (cs := #[.int .u8 3, .int .u8 0, .int .u32 1, .int .u32 2, .int .i64 0, .int .u8 0, .int .u32 0]) ?_ 4 _ rfl; (with_reducible repeat (first | refine blk_drewN ?_ _ | refine blk_drew ?_ | refine blk_alloc ?_ _)); refine blk_put (cs := #[.int .u8 3, .int .u8 0, .int .u32 1, .int .u32 0, .int .i64 0, .int .u8 0, .int .u32 0]) ?_ 3 _ rfl; (with_reducible repeat (first | refine blk_drewN ?_ _ | refine blk_drew ?_ | refine blk_alloc ?_ _)); refine blk_put (cs := #[.int .u8 3, .int .u8 0, .int .u32 0, .int .u32 0, .int .i64 0, .int .u8 0, .int .u32 0]) ?_ 2 _ rfl; (with_reducible repeat (first | refine blk_drewN ?_ _ | refine blk_drew ?_ | refine blk_alloc ?_ _)); refine blk_put (cs := #[.int .u8 3, .int .u8 0, .int .u32 0, .int .u32 0, .int .i64 0, .int .u8 0, .int .u32 0]) ?_ 1 _ rfl; (with_reducible repeat (first | refine blk_drewN ?_ _ | refine blk_drew ?_ | refine blk_alloc ?_ _)); refine blk_put (cs := #[.int .u8 0, .int .u8 0, .int .u32 0, .int .u32 0, .int .i64 0, .int .u8 0, .int .u32 0]) ?_ 0 _ rfl; (with_reducible repeat (first | refine blk_drewN ?_ _ | refine blk_drew ?_ | refine blk_alloc ?_ _)); exact BK149.out)) : gb149 ≠ gb150)); have n6_ := Aside0.mk ((by rw [hg]; exact Nat.ne_of_gt (blk_lt (g := gb149) (o := .cells #[.int .u8 3, .int .u8 0, .int .u32 1, .int .u32 2, .int .i64 1, .int .u8 1, .int .u32 9] 27 (0, 0)) (by (with_reducible repeat (first | refine blk_drewN ?_ _ | refine blk_drew ?_ | refine blk_alloc ?_ _)); refine blk_put (cs := #[.int .u8 3, .int .u8 0, .int .u32 1, .int .u32 2, .int .i64 1, .int .u8 1, .int .u32 0]) ?_ 6 _ rfl; (with_reducible repeat (first | refine blk_drewN ?_ _ | refine blk_drew ?_ | refine blk_alloc ?_ _)); refine blk_put (cs := #[.int .u8 3, .int .u8 0, .int .u32 1, .int .u32 2, .int .i64 1, .int .u8 0, .int .u32 0]) ?_ 5 _ rfl; (with_reducible repeat (first | refine blk_drewN ?_ _ | refine blk_drew ?_ | refine blk_alloc ?_ _)); refine blk_put (cs := #[.int .u8 3, .int .u8 0, .int .u32 1, .int .u32 2, .int .i64 0, .int .u8 0, .int .u32 0]) ?_ 4 _ rfl; (with_reducible repeat (first | refine blk_drewN ?_ _ | refine blk_drew ?_ | refine blk_alloc ?_ _)); refine blk_put (cs := #[.int .u8 3, .int .u8 0, .int .u32 1, .int .u32 0, .int .i64 0, .int .u8 0, .int .u32 0]) ?_ 3 _ rfl; (with_reducible repeat (first | refine blk_drewN ?_ _ | refine blk_drew ?_ | refine blk_alloc ?_ _)); refine blk_put (cs := #[.int .u8 3, .int .u8 0, .int .u32 0, .int .u32 0, .int .i64 0, .int .u8 0, .int .u32 0]) ?_ 2 _ rfl; (with_reducible repeat (first | refine blk_drewN ?_ _ | refine blk_drew ?_ | refine blk_alloc ?_ _)); refine blk_put (cs := #[.int .u8 3, .int .u8 0, .int .u32 0, .int .u32 0, .int .i64 0, .int .u8 0, .int .u32 0]) ?_ 1 _ rfl; (with_reducible repeat (first | refine blk_drewN ?_ _ | refine blk_drew ?_ | refine blk_alloc ?_ _)); refine blk_put (cs := #[.int .u8 0, .int .u8 0, .int .u32 0, .int .u32 0, .int .i64 0, .int .u8 0, .int .u32 0]) ?_ 0 _ rfl; (with_reducible repeat (first | refine blk_drewN ?_ _ | refine blk_drew ?_ | refine blk_alloc ?_ _)); exact BK149.out)) : gb150 ≠ gb149)); clear BK149; clear HB; have BK149 := n0_; have HB := n1_; have BK150 := n2_; have GW150 := n3_; have GE150 := n4_; have NB149_150 := n5_; have NB150_149 := n6_; clear n0_ n1_ n2_ n3_ n4_ n5_ n6_; clear hb hbox hg; have hnb39 := NB150_149.out; have hnc39 := NB149_150.out; have hcz40_0 : w38.cell? ⟨gb150, 0, none⟩ = some (.int .u8 0) := (blk_cell BK150.out 0).trans rfl; have hcz40_1 : w38.cell? ⟨gb150, 1, none⟩ = some (.int .u8 0) := (blk_cell BK150.out 1).trans rfl; have hcz40_2 : w38.cell? ⟨gb150, 2, none⟩ = some (.int .u32 0) := (blk_cell BK150.out 2).trans rfl; have hcz40_3 : w38.cell? ⟨gb150, 3, none⟩ = some (.int .u32 0) := (blk_cell BK150.out 3).trans rfl; have hcz40_4 : w38.cell? ⟨gb150, 4, none⟩ = some (.int .i64 0) := (blk_cell BK150.out 4).trans rfl; have hcz40_5 : w38.cell? ⟨gb150, 5, none⟩ = some (.int .u8 0) := (blk_cell BK150.out 5).trans rfl; have hcz40_6 : w38.cell? ⟨gb150, 6, none⟩ = some (.int .u32 0) := (blk_cell BK150.out 6).trans rfl; have hfz40_0 := blk_frozen BK150.out 0; have hfz40_1 := blk_frozen BK150.out 1; have hfz40_2 := blk_frozen BK150.out 2; have hfz40_3 := blk_frozen BK150.out 3; have hfz40_4 := blk_frozen BK150.out 4; have hfz40_5 := blk_frozen BK150.out 5; have hfz40_6 := blk_frozen BK150.out 6; have hcz41_0 : w38.cell? ⟨gb149, 0, none⟩ = some (.int .u8 3) := (blk_cell BK149.out 0).trans rfl; have hcz41_1 : w38.cell? ⟨gb149, 1, none⟩ = some (.int .u8 0) := (blk_cell BK149.out 1).trans rfl; have hcz41_2 : w38.cell? ⟨gb149, 2, none⟩ = some (.int .u32 1) := (blk_cell BK149.out 2).trans rfl; have hcz41_3 : w38.cell? ⟨gb149, 3, none⟩ = some (.int .u32 2) := (blk_cell BK149.out 3).trans rfl; have hcz41_4 : w38.cell? ⟨gb149, 4, none⟩ = some (.int .i64 1) := (blk_cell BK149.out 4).trans rfl; have hcz41_5 : w38.cell? ⟨gb149, 5, none⟩ = some (.int .u8 1) := (blk_cell BK149.out 5).trans rfl; have hcz41_6 : w38.cell? ⟨gb149, 6, none⟩ = some (.int .u32 9) := (blk_cell BK149.out 6).trans rfl; have hfz41_0 := blk_frozen BK149.out 0; have hfz41_1 := blk_frozen BK149.out 1; have hfz41_2 := blk_frozen BK149.out 2; have hfz41_3 := blk_frozen BK149.out 3; have hfz41_4 := blk_frozen BK149.out 4; have hfz41_5 := blk_frozen BK149.out 5; have hfz41_6 := blk_frozen BK149.out 6) | ((with_reducible refine gate_dst (N := 13) rfl ?_); (try (refine gate_guard (by rfl) ?_; dsimp only)); refine Kd.R_lit k27 _ 27 ?hg (N := 13) ?hd (xs := ([(⟨3, (⟨0, 1, 2⟩ : S25), 1, 1, 9⟩ : S27)] : List (S27))) (inner := [.int .u8 3, .int .u8 0, .int .u32 1, .int .u32 2, .int .i64 1, .int .u8 1, .int .u32 9]) (ok := fun _ => True) (okp := fun _ => True) ?hr ?hp (fun _ hk => hk) trivial (Below.refl _ _) (Nat.le_refl _) (by simp) ?_; (case hd => rfl); (case hg => rfl); (case hr => first | (go_simp; done) | (go_simp; rfl)); (case hp => exact (Reps.c7 (show Kd.M k27 _ _ _ (⟨3, (⟨0, 1, 2⟩ : S25), 1, 1, 9⟩ : S27) [.int .u8 3, .int .u8 0, .int .u32 1, .int .u32 2, .int .i64 1, .int .u8 1, .int .u32 9] from (k27_mkM _ _ _ (⟨3, (⟨0, 1, 2⟩ : S25), 1, 1, 9⟩ : S27) )) (Reps.none _ _))); intro v152 w42 ho43 hb hg_ hnew_; clear hg_ hnew_; (first | rw [← Ny151.out] at ho43 | (simp only [Int.reduceToNat] at ho43; rw [← Ny151.out] at ho43)); have n0_ := Aside0.mk (Kd.R_lower (Kd.R_newB (Kd.R_newB ho43 (g := gb149) (o := .cells #[.int .u8 3, .int .u8 0, .int .u32 1, .int .u32 2, .int .i64 1, .int .u8 1, .int .u32 9] 27 (0, 0)) (by (with_reducible repeat (first | refine blk_drewN ?_ _ | refine blk_drew ?_ | refine blk_alloc ?_ _)); refine blk_far ?_ NB149_150.out _; (with_reducible repeat (first | refine blk_drewN ?_ _ | refine blk_drew ?_ | refine blk_alloc ?_ _)); refine blk_far ?_ NB149_150.out _; (with_reducible repeat (first | refine blk_drewN ?_ _ | refine blk_drew ?_ | refine blk_alloc ?_ _)); refine blk_far ?_ NB149_150.out _; (with_reducible repeat (first | refine blk_drewN ?_ _ | refine blk_drew ?_ | refine blk_alloc ?_ _)); refine blk_far ?_ NB149_150.out _; (with_reducible repeat (first | refine blk_drewN ?_ _ | refine blk_drew ?_ | refine blk_alloc ?_ _)); refine blk_far ?_ NB149_150.out _; (with_reducible repeat (first | refine blk_drewN ?_ _ | refine blk_drew ?_ | refine blk_alloc ?_ _)); refine blk_far ?_ NB149_150.out _; (with_reducible repeat (first | refine blk_drewN ?_ _ | refine blk_drew ?_ | refine blk_alloc ?_ _)); refine blk_far ?_ NB149_150.out _; (with_reducible repeat (first | refine blk_drewN ?_ _ | refine blk_drew ?_ | refine blk_alloc ?_ _)); exact BK149.out)) (g := gb150) (o := .cells #[.int .u8 3, .int .u8 1, .int .u32 1, .int .u32 2, .int .i64 3, .int .u8 0, .int .u32 0] 27 (0, 0)) (by (with_reducible repeat (first | refine blk_drewN ?_ _ | refine blk_drew ?_ | refine blk_alloc ?_ _)); refine blk_put (cs := #[.int .u8 3, .int .u8 1, .int .u32 1, .int .u32 2, .int .i64 3, .int .u8 0, .int .u32 0]) ?_ 6 _ rfl; (with_reducible repeat (first | refine blk_drewN ?_ _ | refine blk_drew ?_ | refine blk_alloc ?_ _)); refine blk_put (cs := #[.int .u8 3, .int .u8 1, .int .u32 1, .int .u32 2, .int .i64 3, .int .u8 0, .int .u32 0]) ?_ 5 _ rfl; (with_reducible repeat (first | refine blk_drewN ?_ _ | refine blk_drew ?_ | refine blk_alloc ?_ _)); refine blk_put (cs := #[.int .u8 3, .int .u8 1, .int .u32 1, .int .u32 2, .int .i64 0, .int .u8 0, .int .u32 0]) ?_ 4 _ rfl; (with_reducible repeat (first | refine blk_drewN ?_ _ | refine blk_drew ?_ | refine blk_alloc ?_ _)); refine blk_put (cs := #[.int .u8 3, .int .u8 1, .int .u32 1, .int .u32 0, .int .i64 0, .int .u8 0, .int .u32 0]) ?_ 3 _ rfl; (with_reducible repeat (first | refine blk_drewN ?_ _ | refine blk_drew ?_ | refine blk_alloc ?_ _)); refine blk_put (cs := #[.int .u8 3, .int .u8 1, .int .u32 0, .int .u32 0, .int .i64 0, .int .u8 0, .int .u32 0]) ?_ 2 _ rfl; (with_reducible repeat (first | refine blk_drewN ?_ _ | refine blk_drew ?_ | refine blk_alloc ?_ _)); refine blk_put (cs := #[.int .u8 3, .int .u8 0, .int .u32 0, .int .u32 0, .int .i64 0, .int .u8 0, .int .u32 0]) ?_ 1 _ rfl; (with_reducible repeat (first | refine blk_drewN ?_ _ | refine blk_drew ?_ | refine blk_alloc ?_ _)); refine blk_put (cs := #[.int .u8 0, .int .u8 0, .int .u32 0, .int .u32 0, .int .i64 0, .int .u8 0, .int .u32 0]) ?_ 0 _ rfl; (with_reducible repeat (first | refine blk_drewN ?_ _ | refine blk_drew ?_ | refine blk_alloc ?_ _)); exact BK150.out)) (below_size (by repeat (first | (with_reducible first | exact HB.out | apply below_alloc | apply pw_below_drewN | apply below_drew1 | refine below_set ?_ GE149.out | refine below_set ?_ GE150.out) | exact HB.out)))); have n1_ := Aside0.mk (blk_below (g := gb149) (o := .cells #[.int .u8 3, .int .u8 0, .int .u32 1, .int .u32 2, .int .i64 1, .int .u8 1, .int .u32 9] 27 (0, 0)) (by (with_reducible repeat (first | refine blk_drewN ?_ _ | refine blk_drew ?_ | refine blk_alloc ?_ _)); refine blk_far ?_ NB149_150.out _; (with_reducible repeat (first | refine blk_drewN ?_ _ | refine blk_drew ?_ | refine blk_alloc ?_ _)); refine blk_far ?_ NB149_150.out _; (with_reducible repeat (first | refine blk_drewN ?_ _ | refine blk_drew ?_ | refine blk_alloc ?_ _)); refine blk_far ?_ NB149_150.out _; (with_reducible repeat (first | refine blk_drewN ?_ _ | refine blk_drew ?_ | refine blk_alloc ?_ _)); refine blk_far ?_ NB149_150.out _; (with_reducible repeat (first | refine blk_drewN ?_ _ | refine blk_drew ?_ | refine blk_alloc ?_ _)); refine blk_far ?_ NB149_150.out _; (with_reducible repeat (first | refine blk_drewN ?_ _ | refine blk_drew ?_ | refine blk_alloc ?_ _)); refine blk_far ?_ NB149_150.out _; (with_reducible repeat (first | refine blk_drewN ?_ _ | refine blk_drew ?_ | refine blk_alloc ?_ _)); refine blk_far ?_ NB149_150.out _; (with_reducible repeat (first | refine blk_drewN ?_ _ | refine blk_drew ?_ | refine blk_alloc ?_ _)); exact BK149.out) hb); have n2_ := Aside0.mk (blk_below (g := gb150) (o := .cells #[.int .u8 3, .int .u8 1, .int .u32 1, .int .u32 2, .int .i64 3, .int .u8 0, .int .u32 0] 27 (0, 0)) (by (with_reducible repeat (first | refine blk_drewN ?_ _ | refine blk_drew ?_ | refine blk_alloc ?_ _)); refine blk_put (cs := #[.int .u8 3, .int .u8 1, .int .u32 1, .int .u32 2, .int .i64 3, .int .u8 0, .int .u32 0]) ?_ 6 _ rfl; (with_reducible repeat (first | refine blk_drewN ?_ _ | refine blk_drew ?_ | refine blk_alloc ?_ _)); refine blk_put (cs := #[.int .u8 3, .int .u8 1, .int .u32 1, .int .u32 2, .int .i64 3, .int .u8 0, .int .u32 0]) ?_ 5 _ rfl; (with_reducible repeat (first | refine blk_drewN ?_ _ | refine blk_drew ?_ | refine blk_alloc ?_ _)); refine blk_put (cs := #[.int .u8 3, .int .u8 1, .int .u32 1, .int .u32 2, .int .i64 0, .int .u8 0, .int .u32 0]) ?_ 4 _ rfl; (with_reducible repeat (first | refine blk_drewN ?_ _ | refine blk_drew ?_ | refine blk_alloc ?_ _)); refine blk_put (cs := #[.int .u8 3, .int .u8 1, .int .u32 1, .int .u32 0, .int .i64 0, .int .u8 0, .int .u32 0]) ?_ 3 _ rfl; (with_reducible repeat (first | refine blk_drewN ?_ _ | refine blk_drew ?_ | refine blk_alloc ?_ _)); refine blk_put (cs := #[.int .u8 3, .int .u8 1, .int .u32 0, .int .u32 0, .int .i64 0, .int .u8 0, .int .u32 0]) ?_ 2 _ rfl; (with_reducible repeat (first | refine blk_drewN ?_ _ | refine blk_drew ?_ | refine blk_alloc ?_ _)); refine blk_put (cs := #[.int .u8 3, .int .u8 0, .int .u32 0, .int .u32 0, .int .i64 0, .int .u8 0, .int .u32 0]) ?_ 1 _ rfl; (with_reducible repeat (first | refine blk_drewN ?_ _ | refine blk_drew ?_ | refine blk_alloc ?_ _)); refine blk_put (cs := #[.int .u8 0, .int .u8 0, .int .u32 0, .int .u32 0, .int .i64 0, .int .u8 0, .int .u32 0]) ?_ 0 _ rfl; (with_reducible repeat (first | refine blk_drewN ?_ _ | refine blk_drew ?_ | refine blk_alloc ?_ _)); exact BK150.out) hb); have n3_ := Aside0.mk (below_step (by repeat (first | (with_reducible first | exact HB.out | apply below_alloc | apply pw_below_drewN | apply below_drew1 | refine below_set ?_ GE149.out | refine below_set ?_ GE150.out) | exact HB.out)) hb); clear BK149; clear BK150; clear HB; have HO153 := n0_; have BK149 := n1_; have BK150 := n2_; have HB := n3_; clear n0_ n1_ n2_ n3_; clear hb ho43; have hcz44_0 : w42.cell? ⟨gb150, 0, none⟩ = some (.int .u8 3) := (blk_cell BK150.out 0).trans rfl; have hcz44_1 : w42.cell? ⟨gb150, 1, none⟩ = some (.int .u8 1) := (blk_cell BK150.out 1).trans rfl; have hcz44_2 : w42.cell? ⟨gb150, 2, none⟩ = some (.int .u32 1) := (blk_cell BK150.out 2).trans rfl; have hcz44_3 : w42.cell? ⟨gb150, 3, none⟩ = some (.int .u32 2) := (blk_cell BK150.out 3).trans rfl; have hcz44_4 : w42.cell? ⟨gb150, 4, none⟩ = some (.int .i64 3) := (blk_cell BK150.out 4).trans rfl; have hcz44_5 : w42.cell? ⟨gb150, 5, none⟩ = some (.int .u8 0) := (blk_cell BK150.out 5).trans rfl; have hcz44_6 : w42.cell? ⟨gb150, 6, none⟩ = some (.int .u32 0) := (blk_cell BK150.out 6).trans rfl; have hfz44_0 := blk_frozen BK150.out 0; have hfz44_1 := blk_frozen BK150.out 1; have hfz44_2 := blk_frozen BK150.out 2; have hfz44_3 := blk_frozen BK150.out 3; have hfz44_4 := blk_frozen BK150.out 4; have hfz44_5 := blk_frozen BK150.out 5; have hfz44_6 := blk_frozen BK150.out 6; obtain ⟨Ao45, co45, eo45⟩ := Kd.R_slice HO153.out; subst eo45) | ((with_reducible refine gate_callee (f := 11) rfl ?_); refine goesL_ (some 15) rfl rfl Try.func11 (by kernel_rfl) rfl #[.slice Ao45 y151.length co45, .agg #[.int .u8 3, .int .u8 1, .int .u32 1, .int .u32 2, .int .i64 3, .int .u8 0, .int .u32 0]] rfl (by (try simp only [List.map_toArray, List.map_cons, List.map_nil]); first | done | rfl | (simp only [List.length_drop, List.length_take]; rfl)) ?_; (with_reducible refine (item_Take.calls k _ _ y151 3 1 1 2 3 0 0 t154 none _ ?side1 ?side2 A1.out).mono ?_); (case side1 => repeat (first | exact (Kd.R_reads' HO153.out).2.2 | (with_reducible refine Kd.C_alloc ?_ _) | (with_reducible refine Kd.C_drewN ?_ _) | (with_reducible refine Kd.C_drew ?_))); (case side2 => exact (Kd.R_reads' HO153.out).2.1); rintro e w46 ⟨v155, rfl, ho0, hb⟩; refine ⟨_, rfl, ?_⟩; have n0_ := Aside0.mk (Kd.R_elder' (by (with_reducible repeat (first | apply Kd.R_alloc | apply Kd.R_drewN | apply Kd.R_drew)); exact HO153.out) (Kd.R_base ho0) hb); have n1_ := Aside0.mk (Kd.R_lower (Kd.R_newB (Kd.R_newB (Kd.R_new' ho0 (Kd.R_lt (by (with_reducible repeat (first | apply Kd.R_alloc | apply Kd.R_drewN | apply Kd.R_drew)); exact HO153.out))) (g := gb149) (o := .cells #[.int .u8 3, .int .u8 0, .int .u32 1, .int .u32 2, .int .i64 1, .int .u8 1, .int .u32 9] 27 (0, 0)) (by (with_reducible repeat (first | refine blk_drewN ?_ _ | refine blk_drew ?_ | refine blk_alloc ?_ _)); exact BK149.out)) (g := gb150) (o := .cells #[.int .u8 3, .int .u8 1, .int .u32 1, .int .u32 2, .int .i64 3, .int .u8 0, .int .u32 0] 27 (0, 0)) (by (with_reducible repeat (first | refine blk_drewN ?_ _ | refine blk_drew ?_ | refine blk_alloc ?_ _)); exact BK150.out)) (below_size (by repeat (first | (with_reducible first | exact HB.out | apply below_alloc | apply pw_below_drewN | apply below_drew1 | refine below_set ?_ GE149.out | refine below_set ?_ GE150.out) | exact HB.out)))); have n2_ := Aside0.mk (blk_below (g := gb149) (o := .cells #[.int .u8 3, .int .u8 0, .int .u32 1, .int .u32 2, .int .i64 1, .int .u8 1, .int .u32 9] 27 (0, 0)) (by (with_reducible repeat (first | refine blk_drewN ?_ _ | refine blk_drew ?_ | refine blk_alloc ?_ _)); exact BK149.out) hb); have n3_ := Aside0.mk (blk_below (g := gb150) (o := .cells #[.int .u8 3, .int .u8 1, .int .u32 1, .int .u32 2, .int .i64 3, .int .u8 0, .int .u32 0] 27 (0, 0)) (by (with_reducible repeat (first | refine blk_drewN ?_ _ | refine blk_drew ?_ | refine blk_alloc ?_ _)); exact BK150.out) hb); have n4_ := Aside0.mk (below_step (by repeat (first | (with_reducible first | exact HB.out | apply below_alloc | apply pw_below_drewN | apply below_drew1 | refine below_set ?_ GE149.out | refine below_set ?_ GE150.out) | exact HB.out)) hb); clear HO153; clear BK149; clear BK150; clear HB; have HO153 := n0_; have HO156 := n1_; have BK149 := n2_; have BK150 := n3_; have HB := n4_; clear n0_ n1_ n2_ n3_ n4_; (try clear hb); (try clear hb2); (try clear hk); (try clear hi); (try clear ho0); (try simp only [errW_none, errW_some]); have hcz47_0 : w46.cell? ⟨gb150, 0, none⟩ = some (.int .u8 3) := (blk_cell BK150.out 0).trans rfl; have hcz47_1 : w46.cell? ⟨gb150, 1, none⟩ = some (.int .u8 1) := (blk_cell BK150.out 1).trans rfl; have hcz47_2 : w46.cell? ⟨gb150, 2, none⟩ = some (.int .u32 1) := (blk_cell BK150.out 2).trans rfl; have hcz47_3 : w46.cell? ⟨gb150, 3, none⟩ = some (.int .u32 2) := (blk_cell BK150.out 3).trans rfl; have hcz47_4 : w46.cell? ⟨gb150, 4, none⟩ = some (.int .i64 3) := (blk_cell BK150.out 4).trans rfl; have hcz47_5 : w46.cell? ⟨gb150, 5, none⟩ = some (.int .u8 0) := (blk_cell BK150.out 5).trans rfl; have hcz47_6 : w46.cell? ⟨gb150, 6, none⟩ = some (.int .u32 0) := (blk_cell BK150.out 6).trans rfl; have hfz47_0 := blk_frozen BK150.out 0; have hfz47_1 := blk_frozen BK150.out 1; have hfz47_2 := blk_frozen BK150.out 2; have hfz47_3 := blk_frozen BK150.out 3; have hfz47_4 := blk_frozen BK150.out 4; have hfz47_5 := blk_frozen BK150.out 5; have hfz47_6 := blk_frozen BK150.out 6) | ((with_reducible refine gate_dst (N := 20) rfl ?_); (try (refine gate_guard (by rfl) ?_; dsimp only)); refine Kd.R_lit k27 _ 27 ?hg (N := 20) ?hd (xs := ([(⟨3, (⟨1, 1, 2⟩ : S25), 3, 0, 0⟩ : S27)] : List (S27))) (inner := [.int .u8 3, .int .u8 1, .int .u32 1, .int .u32 2, .int .i64 3, .int .u8 0, .int .u32 0]) (ok := fun _ => True) (okp := fun _ => True) ?hr ?hp (fun _ hk => hk) trivial (Below.refl _ _) (Nat.le_refl _) (by simp) ?_; (case hd => rfl); (case hg => rfl); (case hr => first | (go_simp; done) | (go_simp; rfl)); (case hp => exact (Reps.c7 (show Kd.M k27 _ _ _ (⟨3, (⟨1, 1, 2⟩ : S25), 3, 0, 0⟩ : S27) [.int .u8 3, .int .u8 1, .int .u32 1, .int .u32 2, .int .i64 3, .int .u8 0, .int .u32 0] from (k27_mkM _ _ _ (⟨3, (⟨1, 1, 2⟩ : S25), 3, 0, 0⟩ : S27) )) (Reps.none _ _))); intro v159 w48 ho49 hb hg_ hnew_; clear hg_ hnew_; (first | rw [← Ny158.out] at ho49 | (simp only [Int.reduceToNat] at ho49; rw [← Ny158.out] at ho49)); have n0_ := Aside0.mk (Kd.R_elder' (by (with_reducible repeat (first | apply Kd.R_alloc | apply Kd.R_drewN | apply Kd.R_drew)); exact HO153.out) (Kd.R_base ho49) hb); have n1_ := Aside0.mk (Kd.R_elder' (by (with_reducible repeat (first | apply Kd.R_alloc | apply Kd.R_drewN | apply Kd.R_drew)); exact HO156.out) (Kd.R_base ho49) hb); have n2_ := Aside0.mk (Kd.R_lower (Kd.R_newB (Kd.R_newB (Kd.R_new' (Kd.R_new' ho49 (Kd.R_lt (by (with_reducible repeat (first | apply Kd.R_alloc | apply Kd.R_drewN | apply Kd.R_drew)); exact HO153.out))) (Kd.R_lt (by (with_reducible repeat (first | apply Kd.R_alloc | apply Kd.R_drewN | apply Kd.R_drew)); exact HO156.out))) (g := gb149) (o := .cells #[.int .u8 3, .int .u8 0, .int .u32 1, .int .u32 2, .int .i64 1, .int .u8 1, .int .u32 9] 27 (0, 0)) (by (with_reducible repeat (first | refine blk_drewN ?_ _ | refine blk_drew ?_ | refine blk_alloc ?_ _)); exact BK149.out)) (g := gb150) (o := .cells #[.int .u8 3, .int .u8 1, .int .u32 1, .int .u32 2, .int .i64 3, .int .u8 0, .int .u32 0] 27 (0, 0)) (by (with_reducible repeat (first | refine blk_drewN ?_ _ | refine blk_drew ?_ | refine blk_alloc ?_ _)); exact BK150.out)) (below_size (by repeat (first | (with_reducible first | exact HB.out | apply below_alloc | apply pw_below_drewN | apply below_drew1 | refine below_set ?_ GE149.out | refine below_set ?_ GE150.out) | exact HB.out)))); have n3_ := Aside0.mk (blk_below (g := gb149) (o := .cells #[.int .u8 3, .int .u8 0, .int .u32 1, .int .u32 2, .int .i64 1, .int .u8 1, .int .u32 9] 27 (0, 0)) (by (with_reducible repeat (first | refine blk_drewN ?_ _ | refine blk_drew ?_ | refine blk_alloc ?_ _)); exact BK149.out) hb); have n4_ := Aside0.mk (blk_below (g := gb150) (o := .cells #[.int .u8 3, .int .u8 1, .int .u32 1, .int .u32 2, .int .i64 3, .int .u8 0, .int .u32 0] 27 (0, 0)) (by (with_reducible repeat (first | refine blk_drewN ?_ _ | refine blk_drew ?_ | refine blk_alloc ?_ _)); exact BK150.out) hb); have n5_ := Aside0.mk (below_step (by repeat (first | (with_reducible first | exact HB.out | apply below_alloc | apply pw_below_drewN | apply below_drew1 | refine below_set ?_ GE149.out | refine below_set ?_ GE150.out) | exact HB.out)) hb); clear HO153; clear HO156; clear BK149; clear BK150; clear HB; have HO153 := n0_; have HO156 := n1_; have HO160 := n2_; have BK149 := n3_; have BK150 := n4_; have HB := n5_; clear n0_ n1_ n2_ n3_ n4_ n5_; clear hb ho49; have hcz50_0 : w48.cell? ⟨gb149, 0, none⟩ = some (.int .u8 3) := (blk_cell BK149.out 0).trans rfl; have hcz50_1 : w48.cell? ⟨gb149, 1, none⟩ = some (.int .u8 0) := (blk_cell BK149.out 1).trans rfl; have hcz50_2 : w48.cell? ⟨gb149, 2, none⟩ = some (.int .u32 1) := (blk_cell BK149.out 2).trans rfl; have hcz50_3 : w48.cell? ⟨gb149, 3, none⟩ = some (.int .u32 2) := (blk_cell BK149.out 3).trans rfl; have hcz50_4 : w48.cell? ⟨gb149, 4, none⟩ = some (.int .i64 1) := (blk_cell BK149.out 4).trans rfl; have hcz50_5 : w48.cell? ⟨gb149, 5, none⟩ = some (.int .u8 1) := (blk_cell BK149.out 5).trans rfl; have hcz50_6 : w48.cell? ⟨gb149, 6, none⟩ = some (.int .u32 9) := (blk_cell BK149.out 6).trans rfl; have hfz50_0 := blk_frozen BK149.out 0; have hfz50_1 := blk_frozen BK149.out 1; have hfz50_2 := blk_frozen BK149.out 2; have hfz50_3 := blk_frozen BK149.out 3; have hfz50_4 := blk_frozen BK149.out 4; have hfz50_5 := blk_frozen BK149.out 5; have hfz50_6 := blk_frozen BK149.out 6; obtain ⟨Ao51, co51, eo51⟩ := Kd.R_slice HO160.out; subst eo51) | ((with_reducible refine gate_callee (f := 11) rfl ?_); refine goesL_ (some 22) rfl rfl Try.func11 (by kernel_rfl) rfl #[.slice Ao51 y158.length co51, .agg #[.int .u8 3, .int .u8 0, .int .u32 1, .int .u32 2, .int .i64 1, .int .u8 1, .int .u32 9]] rfl (by (try simp only [List.map_toArray, List.map_cons, List.map_nil]); first | done | rfl | (simp only [List.length_drop, List.length_take]; rfl)) ?_; (with_reducible refine (item_Take.calls k _ _ y158 3 0 1 2 1 1 9 t161 none _ ?side1 ?side2 A2.out).mono ?_); (case side1 => repeat (first | exact (Kd.R_reads' HO160.out).2.2 | (with_reducible refine Kd.C_alloc ?_ _) | (with_reducible refine Kd.C_drewN ?_ _) | (with_reducible refine Kd.C_drew ?_))); (case side2 => exact (Kd.R_reads' HO160.out).2.1); rintro e w52 ⟨v162, rfl, ho0, hb⟩; refine ⟨_, rfl, ?_⟩; have n0_ := Aside0.mk (Kd.R_elder' (by (with_reducible repeat (first | apply Kd.R_alloc | apply Kd.R_drewN | apply Kd.R_drew)); exact HO153.out) (Kd.R_base ho0) hb); have n1_ := Aside0.mk (Kd.R_elder' (by (with_reducible repeat (first | apply Kd.R_alloc | apply Kd.R_drewN | apply Kd.R_drew)); exact HO156.out) (Kd.R_base ho0) hb); have n2_ := Aside0.mk (Kd.R_elder' (by (with_reducible repeat (first | apply Kd.R_alloc | apply Kd.R_drewN | apply Kd.R_drew)); exact HO160.out) (Kd.R_base ho0) hb); have n3_ := Aside0.mk (Kd.R_lower (Kd.R_newB (Kd.R_newB (Kd.R_new' (Kd.R_new' (Kd.R_new' ho0 (Kd.R_lt (by (with_reducible repeat (first | apply Kd.R_alloc | apply Kd.R_drewN | apply Kd.R_drew)); exact HO153.out))) (Kd.R_lt (by (with_reducible repeat (first | apply Kd.R_alloc | apply Kd.R_drewN | apply Kd.R_drew)); exact HO156.out))) (Kd.R_lt (by (with_reducible repeat (first | apply Kd.R_alloc | apply Kd.R_drewN | apply Kd.R_drew)); exact HO160.out))) (g := gb149) (o := .cells #[.int .u8 3, .int .u8 0, .int .u32 1, .int .u32 2, .int .i64 1, .int .u8 1, .int .u32 9] 27 (0, 0)) (by (with_reducible repeat (first | refine blk_drewN ?_ _ | refine blk_drew ?_ | refine blk_alloc ?_ _)); exact BK149.out)) (g := gb150) (o := .cells #[.int .u8 3, .int .u8 1, .int .u32 1, .int .u32 2, .int .i64 3, .int .u8 0, .int .u32 0] 27 (0, 0)) (by (with_reducible repeat (first | refine blk_drewN ?_ _ | refine blk_drew ?_ | refine blk_alloc ?_ _)); exact BK150.out)) (below_size (by repeat (first | (with_reducible first | exact HB.out | apply below_alloc | apply pw_below_drewN | apply below_drew1 | refine below_set ?_ GE149.out | refine below_set ?_ GE150.out) | exact HB.out)))); have n4_ := Aside0.mk (blk_below (g := gb149) (o := .cells #[.int .u8 3, .int .u8 0, .int .u32 1, .int .u32 2, .int .i64 1, .int .u8 1, .int .u32 9] 27 (0, 0)) (by (with_reducible repeat (first | refine blk_drewN ?_ _ | refine blk_drew ?_ | refine blk_alloc ?_ _)); exact BK149.out) hb); have n5_ := Aside0.mk (blk_below (g := gb150) (o := .cells #[.int .u8 3, .int .u8 1, .int .u32 1, .int .u32 2, .int .i64 3, .int .u8 0, .int .u32 0] 27 (0, 0)) (by (with_reducible repeat (first | refine blk_drewN ?_ _ | refine blk_drew ?_ | refine blk_alloc ?_ _)); exact BK150.out) hb); have n6_ := Aside0.mk (below_step (by repeat (first | (with_reducible first | exact HB.out | apply below_alloc | apply pw_below_drewN | apply below_drew1 | refine below_set ?_ GE149.out | refine below_set ?_ GE150.out) | exact HB.out)) hb); clear HO153; clear HO156; clear HO160; clear BK149; clear BK150; clear HB; have HO153 := n0_; have HO156 := n1_; have HO160 := n2_; have HO163 := n3_; have BK149 := n4_; have BK150 := n5_; have HB := n6_; clear n0_ n1_ n2_ n3_ n4_ n5_ n6_; (try clear hb); (try clear hb2); (try clear hk); (try clear hi); (try clear ho0); (try simp only [errW_none, errW_some])))
                      have n0_ := Aside0.mk (Kd.R_drew HO153.out)
                      have n1_ := Aside0.mk (Kd.R_drew HO156.out)
                      have n2_ := Aside0.mk (Kd.R_drew HO160.out)
                      have n3_ := Aside0.mk (Kd.R_drew HO163.out)
                      have n4_ := Aside0.mk (blk_drew BK149.out)
                      have n5_ := Aside0.mk (blk_drew BK150.out)
                      have n6_ := Aside0.mk (below_drew1 HB.out)
                      clear HO153
                      clear HO156
                      clear HO160
                      clear HO163
                      clear BK149
                      clear BK150
                      clear HB
                      have HO153 := n0_
                      have HO156 := n1_
                      have HO160 := n2_
                      have HO163 := n3_
                      have BK149 := n4_
                      have BK150 := n5_
                      have HB := n6_
                      clear n0_ n1_ n2_ n3_ n4_ n5_ n6_
                      obtain ⟨Ao54, co54, eo54⟩ := Kd.R_slice HO156.out
                      (first | subst eo54 | (injection eo54 with f1_ f2_ f3_; have f4_ := f1_.symm; have f5_ := f3_.symm; clear f1_ f2_ f3_; subst f4_; subst f5_))
                      have p167 : 0 ≤ (0 : Int) := (by omega)
                      have q167 : 0 < (t154.length : Int) := of_decide_eq_true (by first | (with_reducible assumption) | assumption)
                      obtain ⟨ad167, e167, hx167_0, hx167_1, hx167_2, hx167_3, hx167_4, hx167_5, hx167_6⟩ := at_T27 (Kd.R_reads' HO156.out).2.2 0 p167 q167
                      cases e167
                      have qi167 : (0 < t154.length) = True := eq_true (by omega)
                      (try rw [show ((0 : Int)).toNat = 0 from rfl] at hx167_0)
                      (try rw [show 0 * 7 = 0 from rfl] at hx167_0)
                      (try rw [Addr.add_zero'] at hx167_0)
                      (try rw [show ((0 : Int)).toNat = 0 from rfl] at hx167_1)
                      (try rw [show 0 * 7 = 0 from rfl] at hx167_1)
                      (try rw [Addr.add_zero'] at hx167_1)
                      (try rw [show ((0 : Int)).toNat = 0 from rfl] at hx167_2)
                      (try rw [show 0 * 7 = 0 from rfl] at hx167_2)
                      (try rw [Addr.add_zero'] at hx167_2)
                      (try rw [show ((0 : Int)).toNat = 0 from rfl] at hx167_3)
                      (try rw [show 0 * 7 = 0 from rfl] at hx167_3)
                      (try rw [Addr.add_zero'] at hx167_3)
                      (try rw [show ((0 : Int)).toNat = 0 from rfl] at hx167_4)
                      (try rw [show 0 * 7 = 0 from rfl] at hx167_4)
                      (try rw [Addr.add_zero'] at hx167_4)
                      (try rw [show ((0 : Int)).toNat = 0 from rfl] at hx167_5)
                      (try rw [show 0 * 7 = 0 from rfl] at hx167_5)
                      (try rw [Addr.add_zero'] at hx167_5)
                      (try rw [show ((0 : Int)).toNat = 0 from rfl] at hx167_6)
                      (try rw [show 0 * 7 = 0 from rfl] at hx167_6)
                      (try rw [Addr.add_zero'] at hx167_6)
                      replace p167 := eq_true p167
                      replace q167 := eq_true q167
                      obtain ⟨Ao55, co55, eo55⟩ := Kd.R_slice HO163.out
                      (first | subst eo55 | (injection eo55 with f1_ f2_ f3_; have f4_ := f1_.symm; have f5_ := f3_.symm; clear f1_ f2_ f3_; subst f4_; subst f5_))
                      have p168 : 0 ≤ (0 : Int) := (by omega)
                      have q168 : 0 < (t161.length : Int) := of_decide_eq_true (by first | (with_reducible assumption) | assumption)
                      obtain ⟨ad168, e168, hx168_0, hx168_1, hx168_2, hx168_3, hx168_4, hx168_5, hx168_6⟩ := at_T27 (Kd.R_reads' HO163.out).2.2 0 p168 q168
                      cases e168
                      have qi168 : (0 < t161.length) = True := eq_true (by omega)
                      (try rw [show ((0 : Int)).toNat = 0 from rfl] at hx168_0)
                      (try rw [show 0 * 7 = 0 from rfl] at hx168_0)
                      (try rw [Addr.add_zero'] at hx168_0)
                      (try rw [show ((0 : Int)).toNat = 0 from rfl] at hx168_1)
                      (try rw [show 0 * 7 = 0 from rfl] at hx168_1)
                      (try rw [Addr.add_zero'] at hx168_1)
                      (try rw [show ((0 : Int)).toNat = 0 from rfl] at hx168_2)
                      (try rw [show 0 * 7 = 0 from rfl] at hx168_2)
                      (try rw [Addr.add_zero'] at hx168_2)
                      (try rw [show ((0 : Int)).toNat = 0 from rfl] at hx168_3)
                      (try rw [show 0 * 7 = 0 from rfl] at hx168_3)
                      (try rw [Addr.add_zero'] at hx168_3)
                      (try rw [show ((0 : Int)).toNat = 0 from rfl] at hx168_4)
                      (try rw [show 0 * 7 = 0 from rfl] at hx168_4)
                      (try rw [Addr.add_zero'] at hx168_4)
                      (try rw [show ((0 : Int)).toNat = 0 from rfl] at hx168_5)
                      (try rw [show 0 * 7 = 0 from rfl] at hx168_5)
                      (try rw [Addr.add_zero'] at hx168_5)
                      (try rw [show ((0 : Int)).toNat = 0 from rfl] at hx168_6)
                      (try rw [show 0 * 7 = 0 from rfl] at hx168_6)
                      (try rw [Addr.add_zero'] at hx168_6)
                      replace p168 := eq_true p168
                      replace q168 := eq_true q168
                      refine start_ (n := 46) (S := fun w' => w'.cell? ⟨gb150, 0, none⟩ = some (.int .u8 3) ∧ w'.cell? ⟨gb150, 1, none⟩ = some (.int .u8 1) ∧ w'.cell? ⟨gb150, 2, none⟩ = some (.int .u32 1) ∧ w'.cell? ⟨gb150, 3, none⟩ = some (.int .u32 2) ∧ w'.cell? ⟨gb150, 4, none⟩ = some (.int .i64 3) ∧ w'.cell? ⟨gb150, 5, none⟩ = some (.int .u8 0) ∧ w'.cell? ⟨gb150, 6, none⟩ = some (.int .u32 0) ∧ w'.cell? ⟨gb149, 0, none⟩ = some (.int .u8 3) ∧ w'.cell? ⟨gb149, 1, none⟩ = some (.int .u8 0) ∧ w'.cell? ⟨gb149, 2, none⟩ = some (.int .u32 1) ∧ w'.cell? ⟨gb149, 3, none⟩ = some (.int .u32 2) ∧ w'.cell? ⟨gb149, 4, none⟩ = some (.int .i64 1) ∧ w'.cell? ⟨gb149, 5, none⟩ = some (.int .u8 1) ∧ w'.cell? ⟨gb149, 6, none⟩ = some (.int .u32 9) ∧ w'.cell? ad167 = some (.int .u8 ((rd_T27 t154 0).f0)) ∧ w'.cell? ⟨ad167.block, ad167.off + 1, none⟩ = some (.int .u8 ((rd_T27 t154 0).f1.f0)) ∧ w'.cell? ⟨ad167.block, ad167.off + 2, none⟩ = some (.int .u32 ((rd_T27 t154 0).f1.f1)) ∧ w'.cell? ⟨ad167.block, ad167.off + 3, none⟩ = some (.int .u32 ((rd_T27 t154 0).f1.f2)) ∧ w'.cell? ⟨ad167.block, ad167.off + 4, none⟩ = some (.int .i64 ((rd_T27 t154 0).f2)) ∧ w'.cell? ⟨ad167.block, ad167.off + 5, none⟩ = some (.int .u8 ((rd_T27 t154 0).f3)) ∧ w'.cell? ⟨ad167.block, ad167.off + 6, none⟩ = some (.int .u32 ((rd_T27 t154 0).f4)) ∧ w'.cell? ad168 = some (.int .u8 ((rd_T27 t161 0).f0)) ∧ w'.cell? ⟨ad168.block, ad168.off + 1, none⟩ = some (.int .u8 ((rd_T27 t161 0).f1.f0)) ∧ w'.cell? ⟨ad168.block, ad168.off + 2, none⟩ = some (.int .u32 ((rd_T27 t161 0).f1.f1)) ∧ w'.cell? ⟨ad168.block, ad168.off + 3, none⟩ = some (.int .u32 ((rd_T27 t161 0).f1.f2)) ∧ w'.cell? ⟨ad168.block, ad168.off + 4, none⟩ = some (.int .i64 ((rd_T27 t161 0).f2)) ∧ w'.cell? ⟨ad168.block, ad168.off + 5, none⟩ = some (.int .u8 ((rd_T27 t161 0).f3)) ∧ w'.cell? ⟨ad168.block, ad168.off + 6, none⟩ = some (.int .u32 ((rd_T27 t161 0).f4))) (ds := []) #[false, false, false, false, false, false, false, false, false, false, false, false, false, false, false, false, false, false, false, false, false, false, false, false, false, false, false, false, false, false, false, false, false, false, false, false, false, false, false, false, false, false, false, false, false, false] (by kernel_rfl) rfl rfl ⟨(blk_cell BK150.out 0).trans rfl, (blk_cell BK150.out 1).trans rfl, (blk_cell BK150.out 2).trans rfl, (blk_cell BK150.out 3).trans rfl, (blk_cell BK150.out 4).trans rfl, (blk_cell BK150.out 5).trans rfl, (blk_cell BK150.out 6).trans rfl, (blk_cell BK149.out 0).trans rfl, (blk_cell BK149.out 1).trans rfl, (blk_cell BK149.out 2).trans rfl, (blk_cell BK149.out 3).trans rfl, (blk_cell BK149.out 4).trans rfl, (blk_cell BK149.out 5).trans rfl, (blk_cell BK149.out 6).trans rfl, hx167_0, hx167_1, hx167_2, hx167_3, hx167_4, hx167_5, hx167_6, hx168_0, hx168_1, hx168_2, hx168_3, hx168_4, hx168_5, hx168_6⟩ (fun hHeld => ?_); refine with_tabW tidingslaw02_awake.tab5 tidingslaw02_awake.bits5 (fun HT_ HW_ => ?_)
                      generalize w52.drew = w53 at HO153 HO156 HO160 HO163 BK149 BK150 HB hx167_0 hx167_1 hx167_2 hx167_3 hx167_4 hx167_5 hx167_6 hx168_0 hx168_1 hx168_2 hx168_3 hx168_4 hx168_5 hx168_6 hHeld ⊢
                      refine pure_ (i := 0) (N := some 25) (v := ?_) (a' := ?_) #[true, false, false, false, false, false, false, false, false, false, false, false, false, false, false, false, false, false, false, false, false, false, false, false, false, false, false, false, false, false, false, false, false, false, false, false, false, false, false, false, false, false, false, false, false, false] rfl rfl (any_of HT_.out (by kernel_rfl)) (fun _ _ _ h => h) (Or.inl ⟨by rfl, ?_⟩) ?_ ?_
                      rotate_left
                      · intro w'
                        go_simp
                        with_reducible rfl
                      rotate_left
                      · simp only [Act.put, List.setIfInBounds_toArray, List.set_cons_zero, List.set_cons_succ, i64_w, i32_w]
                        rfl
                      refine pure_ (i := 1) (N := some 26) (v := ?_) (a' := ?_) #[true, true, false, false, false, false, false, false, false, false, false, false, false, false, false, false, false, false, false, false, false, false, false, false, false, false, false, false, false, false, false, false, false, false, false, false, false, false, false, false, false, false, false, false, false, false] rfl rfl (any_of HT_.out (by kernel_rfl)) (fun _ _ _ h => h) (Or.inl ⟨by rfl, ?_⟩) ?_ ?_
                      rotate_left
                      · intro w'
                        go_simp
                        with_reducible rfl
                      rotate_left
                      · simp only [Act.put, List.setIfInBounds_toArray, List.set_cons_zero, List.set_cons_succ, i64_w, i32_w]
                        rfl
                      refine pure_ (i := 2) (N := some 27) (v := ?_) (a' := ?_) #[true, true, true, false, false, false, false, false, false, false, false, false, false, false, false, false, false, false, false, false, false, false, false, false, false, false, false, false, false, false, false, false, false, false, false, false, false, false, false, false, false, false, false, false, false, false] rfl rfl (any_of HT_.out (by kernel_rfl)) (fun _ _ _ h => h) (Or.inl ⟨by rfl, ?_⟩) ?_ ?_
                      rotate_left
                      · intro w'
                        go_simp
                        with_reducible rfl
                      rotate_left
                      · simp only [Act.put, List.setIfInBounds_toArray, List.set_cons_zero, List.set_cons_succ, i64_w, i32_w]
                        rfl
                      refine pure_ (i := 3) (N := some 28) (v := ?_) (a' := ?_) #[true, true, true, true, false, false, false, false, false, false, false, false, false, false, false, false, false, false, false, false, false, false, false, false, false, false, false, false, false, false, false, false, false, false, false, false, false, false, false, false, false, false, false, false, false, false] rfl rfl (any_of HT_.out (by kernel_rfl)) (fun _ _ _ h => h) (Or.inl ⟨by rfl, ?_⟩) ?_ ?_
                      rotate_left
                      · intro w'
                        go_simp
                        with_reducible rfl
                      rotate_left
                      · simp only [Act.put, List.setIfInBounds_toArray, List.set_cons_zero, List.set_cons_succ, i64_w, i32_w]
                        rfl
                      refine pure_ (i := 4) (N := some 29) (v := ?_) (a' := ?_) #[true, true, true, true, true, false, false, false, false, false, false, false, false, false, false, false, false, false, false, false, false, false, false, false, false, false, false, false, false, false, false, false, false, false, false, false, false, false, false, false, false, false, false, false, false, false] rfl rfl (any_of HT_.out (by kernel_rfl)) (fun _ _ _ h => h) (Or.inl ⟨by rfl, ?_⟩) ?_ ?_
                      rotate_left
                      · intro w'
                        go_simp
                        with_reducible rfl
                      rotate_left
                      · simp only [Act.put, List.setIfInBounds_toArray, List.set_cons_zero, List.set_cons_succ, i64_w, i32_w]
                        rfl
                      refine pure_ (i := 5) (N := some 30) (v := ?_) (a' := ?_) #[true, true, true, true, true, true, false, false, false, false, false, false, false, false, false, false, false, false, false, false, false, false, false, false, false, false, false, false, false, false, false, false, false, false, false, false, false, false, false, false, false, false, false, false, false, false] rfl rfl (any_of HT_.out (by kernel_rfl)) (fun _ _ _ h => h) (Or.inl ⟨by rfl, ?_⟩) ?_ ?_
                      rotate_left
                      · intro w'
                        go_simp
                        with_reducible rfl
                      rotate_left
                      · simp only [Act.put, List.setIfInBounds_toArray, List.set_cons_zero, List.set_cons_succ, i64_w, i32_w]
                        rfl
                      refine pure_ (i := 6) (N := some 31) (v := ?_) (a' := ?_) #[true, true, true, true, true, true, true, false, false, false, false, false, false, false, false, false, false, false, false, false, false, false, false, false, false, false, false, false, false, false, false, false, false, false, false, false, false, false, false, false, false, false, false, false, false, false] rfl rfl (any_of HT_.out (by kernel_rfl)) (fun _ _ _ h => h) (Or.inl ⟨by rfl, ?_⟩) ?_ ?_
                      rotate_left
                      · intro w'
                        go_simp
                        with_reducible rfl
                      rotate_left
                      · simp only [Act.put, List.setIfInBounds_toArray, List.set_cons_zero, List.set_cons_succ, i64_w, i32_w]
                        rfl
                      refine pure_ (i := 7) (N := some 32) (v := ?_) (a' := ?_) #[true, true, true, true, true, true, true, true, false, false, false, false, false, false, false, false, false, false, false, false, false, false, false, false, false, false, false, false, false, false, false, false, false, false, false, false, false, false, false, false, false, false, false, false, false, false] rfl rfl (any_of HT_.out (by kernel_rfl)) (fun _ _ _ h => h) (Or.inl ⟨by rfl, ?_⟩) ?_ ?_
                      rotate_left
                      · intro w'
                        go_simp
                        with_reducible rfl
                      rotate_left
                      · simp only [Act.put, List.setIfInBounds_toArray, List.set_cons_zero, List.set_cons_succ, i64_w, i32_w]
                        rfl
                      refine pure_ (i := 8) (N := some 33) (v := ?_) (a' := ?_) #[true, true, true, true, true, true, true, true, true, false, false, false, false, false, false, false, false, false, false, false, false, false, false, false, false, false, false, false, false, false, false, false, false, false, false, false, false, false, false, false, false, false, false, false, false, false] rfl rfl (any_of HT_.out (by kernel_rfl)) (fun _ _ _ h => h) (Or.inl ⟨by rfl, ?_⟩) ?_ ?_
                      rotate_left
                      · intro w'
                        go_simp
                        with_reducible rfl
                      rotate_left
                      · simp only [Act.put, List.setIfInBounds_toArray, List.set_cons_zero, List.set_cons_succ, i64_w, i32_w]
                        rfl
                      refine pure_ (i := 9) (N := some 34) (v := ?_) (a' := ?_) #[true, true, true, true, true, true, true, true, true, true, false, false, false, false, false, false, false, false, false, false, false, false, false, false, false, false, false, false, false, false, false, false, false, false, false, false, false, false, false, false, false, false, false, false, false, false] rfl rfl (any_of HT_.out (by kernel_rfl)) (fun _ _ _ h => h) (Or.inl ⟨by rfl, ?_⟩) ?_ ?_
                      rotate_left
                      · intro w'
                        go_simp
                        with_reducible rfl
                      rotate_left
                      · simp only [Act.put, List.setIfInBounds_toArray, List.set_cons_zero, List.set_cons_succ, i64_w, i32_w]
                        rfl
                      refine pure_ (i := 10) (N := some 35) (v := ?_) (a' := ?_) #[true, true, true, true, true, true, true, true, true, true, true, false, false, false, false, false, false, false, false, false, false, false, false, false, false, false, false, false, false, false, false, false, false, false, false, false, false, false, false, false, false, false, false, false, false, false] rfl rfl (any_of HT_.out (by kernel_rfl)) (fun _ _ _ h => h) (Or.inl ⟨by rfl, ?_⟩) ?_ ?_
                      rotate_left
                      · intro w'
                        go_simp
                        with_reducible rfl
                      rotate_left
                      · simp only [Act.put, List.setIfInBounds_toArray, List.set_cons_zero, List.set_cons_succ, i64_w, i32_w]
                        rfl
                      refine pure_ (i := 11) (N := some 36) (v := ?_) (a' := ?_) #[true, true, true, true, true, true, true, true, true, true, true, true, false, false, false, false, false, false, false, false, false, false, false, false, false, false, false, false, false, false, false, false, false, false, false, false, false, false, false, false, false, false, false, false, false, false] rfl rfl (any_of HT_.out (by kernel_rfl)) (fun _ _ _ h => h) (Or.inl ⟨by rfl, ?_⟩) ?_ ?_
                      rotate_left
                      · intro w'
                        go_simp
                        with_reducible rfl
                      rotate_left
                      · simp only [Act.put, List.setIfInBounds_toArray, List.set_cons_zero, List.set_cons_succ, i64_w, i32_w]
                        rfl
                      refine pure_ (i := 12) (N := some 37) (v := ?_) (a' := ?_) #[true, true, true, true, true, true, true, true, true, true, true, true, true, false, false, false, false, false, false, false, false, false, false, false, false, false, false, false, false, false, false, false, false, false, false, false, false, false, false, false, false, false, false, false, false, false] rfl rfl (any_of HT_.out (by kernel_rfl)) (fun _ _ _ h => h) (Or.inl ⟨by rfl, ?_⟩) ?_ ?_
                      rotate_left
                      · intro w'
                        go_simp
                        with_reducible rfl
                      rotate_left
                      · simp only [Act.put, List.setIfInBounds_toArray, List.set_cons_zero, List.set_cons_succ, i64_w, i32_w]
                        rfl
                      refine pure_ (i := 13) (N := some 38) (v := ?_) (a' := ?_) #[true, true, true, true, true, true, true, true, true, true, true, true, true, true, false, false, false, false, false, false, false, false, false, false, false, false, false, false, false, false, false, false, false, false, false, false, false, false, false, false, false, false, false, false, false, false] rfl rfl (any_of HT_.out (by kernel_rfl)) (fun _ _ _ h => h) (Or.inl ⟨by rfl, ?_⟩) ?_ ?_
                      rotate_left
                      · intro w'
                        go_simp
                        with_reducible rfl
                      rotate_left
                      · simp only [Act.put, List.setIfInBounds_toArray, List.set_cons_zero, List.set_cons_succ, i64_w, i32_w]
                        rfl
                      refine take_ (i := 14) (N := some 39) (v := ?_) (a' := ?_) #[true, true, true, true, true, true, true, true, true, true, true, true, true, true, true, false, false, false, false, false, false, false, false, false, false, false, false, false, false, false, false, false, false, false, false, false, false, false, false, false, false, false, false, false, false, false] rfl rfl (take_ofW HT_.out HW_.out (by kernel_rfl)) (fun _ _ _ h => h) (Or.inl ⟨by rfl, ?_⟩) hHeld ?_ ?_
                      rotate_left
                      · rintro w' ⟨s0, s1, s2, s3, s4, s5, s6, s7, s8, s9, s10, s11, s12, s13, s14, s15, s16, s17, s18, s19, s20, s21, s22, s23, s24, s25, s26, s27⟩
                        go_simp
                        with_reducible rfl
                      rotate_left
                      · simp only [Act.put, List.setIfInBounds_toArray, List.set_cons_zero, List.set_cons_succ, i64_w, i32_w]
                        rfl
                      refine take_ (i := 15) (N := some 40) (v := ?_) (a' := ?_) #[true, true, true, true, true, true, true, true, true, true, true, true, true, true, true, true, false, false, false, false, false, false, false, false, false, false, false, false, false, false, false, false, false, false, false, false, false, false, false, false, false, false, false, false, false, false] rfl rfl (take_ofW HT_.out HW_.out (by kernel_rfl)) (fun _ _ _ h => h) (Or.inl ⟨by rfl, ?_⟩) hHeld ?_ ?_
                      rotate_left
                      · rintro w' ⟨s0, s1, s2, s3, s4, s5, s6, s7, s8, s9, s10, s11, s12, s13, s14, s15, s16, s17, s18, s19, s20, s21, s22, s23, s24, s25, s26, s27⟩
                        go_simp
                        with_reducible rfl
                      rotate_left
                      · simp only [Act.put, List.setIfInBounds_toArray, List.set_cons_zero, List.set_cons_succ, i64_w, i32_w]
                        rfl
                      refine pure_ (i := 16) (N := some 41) (v := ?_) (a' := ?_) #[true, true, true, true, true, true, true, true, true, true, true, true, true, true, true, true, true, false, false, false, false, false, false, false, false, false, false, false, false, false, false, false, false, false, false, false, false, false, false, false, false, false, false, false, false, false] rfl rfl (any_of HT_.out (by kernel_rfl)) (fun _ _ _ h => h) (Or.inl ⟨by rfl, ?_⟩) ?_ ?_
                      rotate_left
                      · intro w'
                        go_simp
                        with_reducible rfl
                      rotate_left
                      · simp only [Act.put, List.setIfInBounds_toArray, List.set_cons_zero, List.set_cons_succ, i64_w, i32_w]
                        rfl
                      refine pure_ (i := 17) (N := some 42) (v := ?_) (a' := ?_) #[true, true, true, true, true, true, true, true, true, true, true, true, true, true, true, true, true, true, false, false, false, false, false, false, false, false, false, false, false, false, false, false, false, false, false, false, false, false, false, false, false, false, false, false, false, false] rfl rfl (any_of HT_.out (by kernel_rfl)) (fun _ _ _ h => h) (Or.inl ⟨by rfl, ?_⟩) ?_ ?_
                      rotate_left
                      · intro w'
                        go_simp
                        with_reducible rfl
                      rotate_left
                      · simp only [Act.put, List.setIfInBounds_toArray, List.set_cons_zero, List.set_cons_succ, i64_w, i32_w]
                        rfl
                      refine pure_ (i := 18) (N := some 43) (v := ?_) (a' := ?_) #[true, true, true, true, true, true, true, true, true, true, true, true, true, true, true, true, true, true, true, false, false, false, false, false, false, false, false, false, false, false, false, false, false, false, false, false, false, false, false, false, false, false, false, false, false, false] rfl rfl (any_of HT_.out (by kernel_rfl)) (fun _ _ _ h => h) (Or.inl ⟨by rfl, ?_⟩) ?_ ?_
                      rotate_left
                      · intro w'
                        go_simp
                        with_reducible rfl
                      rotate_left
                      · simp only [Act.put, List.setIfInBounds_toArray, List.set_cons_zero, List.set_cons_succ, i64_w, i32_w]
                        rfl
                      refine pure_ (i := 19) (N := some 44) (v := ?_) (a' := ?_) #[true, true, true, true, true, true, true, true, true, true, true, true, true, true, true, true, true, true, true, true, false, false, false, false, false, false, false, false, false, false, false, false, false, false, false, false, false, false, false, false, false, false, false, false, false, false] rfl rfl (any_of HT_.out (by kernel_rfl)) (fun _ _ _ h => h) (Or.inl ⟨by rfl, ?_⟩) ?_ ?_
                      rotate_left
                      · intro w'
                        go_simp
                        with_reducible rfl
                      rotate_left
                      · simp only [Act.put, List.setIfInBounds_toArray, List.set_cons_zero, List.set_cons_succ, i64_w, i32_w]
                        rfl
                      refine pure_ (i := 20) (N := some 45) (v := ?_) (a' := ?_) #[true, true, true, true, true, true, true, true, true, true, true, true, true, true, true, true, true, true, true, true, true, false, false, false, false, false, false, false, false, false, false, false, false, false, false, false, false, false, false, false, false, false, false, false, false, false] rfl rfl (any_of HT_.out (by kernel_rfl)) (fun _ _ _ h => h) (Or.inl ⟨by rfl, ?_⟩) ?_ ?_
                      rotate_left
                      · intro w'
                        go_simp
                        with_reducible rfl
                      rotate_left
                      · simp only [Act.put, List.setIfInBounds_toArray, List.set_cons_zero, List.set_cons_succ, i64_w, i32_w]
                        rfl
                      refine pure_ (i := 21) (N := some 46) (v := ?_) (a' := ?_) #[true, true, true, true, true, true, true, true, true, true, true, true, true, true, true, true, true, true, true, true, true, true, false, false, false, false, false, false, false, false, false, false, false, false, false, false, false, false, false, false, false, false, false, false, false, false] rfl rfl (any_of HT_.out (by kernel_rfl)) (fun _ _ _ h => h) (Or.inl ⟨by rfl, ?_⟩) ?_ ?_
                      rotate_left
                      · intro w'
                        go_simp
                        with_reducible rfl
                      rotate_left
                      · simp only [Act.put, List.setIfInBounds_toArray, List.set_cons_zero, List.set_cons_succ, i64_w, i32_w]
                        rfl
                      refine pure_ (i := 22) (N := some 47) (v := ?_) (a' := ?_) #[true, true, true, true, true, true, true, true, true, true, true, true, true, true, true, true, true, true, true, true, true, true, true, false, false, false, false, false, false, false, false, false, false, false, false, false, false, false, false, false, false, false, false, false, false, false] rfl rfl (any_of HT_.out (by kernel_rfl)) (fun _ _ _ h => h) (Or.inl ⟨by rfl, ?_⟩) ?_ ?_
                      rotate_left
                      · intro w'
                        go_simp
                        with_reducible rfl
                      rotate_left
                      · simp only [Act.put, List.setIfInBounds_toArray, List.set_cons_zero, List.set_cons_succ, i64_w, i32_w]
                        rfl
                      refine pure_ (i := 23) (N := some 48) (v := ?_) (a' := ?_) #[true, true, true, true, true, true, true, true, true, true, true, true, true, true, true, true, true, true, true, true, true, true, true, true, false, false, false, false, false, false, false, false, false, false, false, false, false, false, false, false, false, false, false, false, false, false] rfl rfl (any_of HT_.out (by kernel_rfl)) (fun _ _ _ h => h) (Or.inl ⟨by rfl, ?_⟩) ?_ ?_
                      rotate_left
                      · intro w'
                        go_simp
                        with_reducible rfl
                      rotate_left
                      · simp only [Act.put, List.setIfInBounds_toArray, List.set_cons_zero, List.set_cons_succ, i64_w, i32_w]
                        rfl
                      refine pure_ (i := 24) (N := some 49) (v := ?_) (a' := ?_) #[true, true, true, true, true, true, true, true, true, true, true, true, true, true, true, true, true, true, true, true, true, true, true, true, true, false, false, false, false, false, false, false, false, false, false, false, false, false, false, false, false, false, false, false, false, false] rfl rfl (any_of HT_.out (by kernel_rfl)) (fun _ _ _ h => h) (Or.inl ⟨by rfl, ?_⟩) ?_ ?_
                      rotate_left
                      · intro w'
                        go_simp
                        with_reducible rfl
                      rotate_left
                      · simp only [Act.put, List.setIfInBounds_toArray, List.set_cons_zero, List.set_cons_succ, i64_w, i32_w]
                        rfl
                      refine pure_ (i := 25) (N := some 50) (v := ?_) (a' := ?_) #[true, true, true, true, true, true, true, true, true, true, true, true, true, true, true, true, true, true, true, true, true, true, true, true, true, true, false, false, false, false, false, false, false, false, false, false, false, false, false, false, false, false, false, false, false, false] rfl rfl (any_of HT_.out (by kernel_rfl)) (fun _ _ _ h => h) (Or.inl ⟨by rfl, ?_⟩) ?_ ?_
                      rotate_left
                      · intro w'
                        go_simp
                        with_reducible rfl
                      rotate_left
                      · simp only [Act.put, List.setIfInBounds_toArray, List.set_cons_zero, List.set_cons_succ, i64_w, i32_w]
                        rfl
                      refine take_ (i := 26) (N := some 51) (v := ?_) (a' := ?_) #[true, true, true, true, true, true, true, true, true, true, true, true, true, true, true, true, true, true, true, true, true, true, true, true, true, true, true, false, false, false, false, false, false, false, false, false, false, false, false, false, false, false, false, false, false, false] rfl rfl (take_ofW HT_.out HW_.out (by kernel_rfl)) (fun _ _ _ h => h) (Or.inl ⟨by rfl, ?_⟩) hHeld ?_ ?_
                      rotate_left
                      · rintro w' ⟨s0, s1, s2, s3, s4, s5, s6, s7, s8, s9, s10, s11, s12, s13, s14, s15, s16, s17, s18, s19, s20, s21, s22, s23, s24, s25, s26, s27⟩
                        go_simp
                        with_reducible rfl
                      rotate_left
                      · simp only [Act.put, List.setIfInBounds_toArray, List.set_cons_zero, List.set_cons_succ, i64_w, i32_w]
                        rfl
                      refine take_ (i := 27) (N := some 52) (v := ?_) (a' := ?_) #[true, true, true, true, true, true, true, true, true, true, true, true, true, true, true, true, true, true, true, true, true, true, true, true, true, true, true, true, false, false, false, false, false, false, false, false, false, false, false, false, false, false, false, false, false, false] rfl rfl (take_ofW HT_.out HW_.out (by kernel_rfl)) (fun _ _ _ h => h) (Or.inl ⟨by rfl, ?_⟩) hHeld ?_ ?_
                      rotate_left
                      · rintro w' ⟨s0, s1, s2, s3, s4, s5, s6, s7, s8, s9, s10, s11, s12, s13, s14, s15, s16, s17, s18, s19, s20, s21, s22, s23, s24, s25, s26, s27⟩
                        go_simp
                        with_reducible rfl
                      rotate_left
                      · simp only [Act.put, List.setIfInBounds_toArray, List.set_cons_zero, List.set_cons_succ, i64_w, i32_w]
                        rfl
                      refine pure_ (i := 28) (N := some 53) (v := ?_) (a' := ?_) #[true, true, true, true, true, true, true, true, true, true, true, true, true, true, true, true, true, true, true, true, true, true, true, true, true, true, true, true, true, false, false, false, false, false, false, false, false, false, false, false, false, false, false, false, false, false] rfl rfl (any_of HT_.out (by kernel_rfl)) (fun _ _ _ h => h) (Or.inl ⟨by rfl, ?_⟩) ?_ ?_
                      rotate_left
                      · intro w'
                        go_simp
                        with_reducible rfl
                      rotate_left
                      · simp only [Act.put, List.setIfInBounds_toArray, List.set_cons_zero, List.set_cons_succ, i64_w, i32_w]
                        rfl
                      refine pure_ (i := 29) (N := some 54) (v := ?_) (a' := ?_) #[true, true, true, true, true, true, true, true, true, true, true, true, true, true, true, true, true, true, true, true, true, true, true, true, true, true, true, true, true, true, false, false, false, false, false, false, false, false, false, false, false, false, false, false, false, false] rfl rfl (any_of HT_.out (by kernel_rfl)) (fun _ _ _ h => h) (Or.inl ⟨by rfl, ?_⟩) ?_ ?_
                      rotate_left
                      · intro w'
                        go_simp
                        with_reducible rfl
                      rotate_left
                      · simp only [Act.put, List.setIfInBounds_toArray, List.set_cons_zero, List.set_cons_succ, i64_w, i32_w]
                        rfl
                      refine pure_ (i := 30) (N := some 55) (v := ?_) (a' := ?_) #[true, true, true, true, true, true, true, true, true, true, true, true, true, true, true, true, true, true, true, true, true, true, true, true, true, true, true, true, true, true, true, false, false, false, false, false, false, false, false, false, false, false, false, false, false, false] rfl rfl (any_of HT_.out (by kernel_rfl)) (fun _ _ _ h => h) (Or.inl ⟨by rfl, ?_⟩) ?_ ?_
                      rotate_left
                      · intro w'
                        go_simp
                        with_reducible rfl
                      rotate_left
                      · simp only [Act.put, List.setIfInBounds_toArray, List.set_cons_zero, List.set_cons_succ, i64_w, i32_w]
                        rfl
                      refine take_ (i := 31) (N := some 56) (v := ?_) (a' := ?_) #[true, true, true, true, true, true, true, true, true, true, true, true, true, true, true, true, true, true, true, true, true, true, true, true, true, true, true, true, true, true, true, true, false, false, false, false, false, false, false, false, false, false, false, false, false, false] rfl rfl (take_ofW HT_.out HW_.out (by kernel_rfl)) (fun _ _ _ h => h) (Or.inl ⟨by rfl, ?_⟩) hHeld ?_ ?_
                      rotate_left
                      · rintro w' ⟨s0, s1, s2, s3, s4, s5, s6, s7, s8, s9, s10, s11, s12, s13, s14, s15, s16, s17, s18, s19, s20, s21, s22, s23, s24, s25, s26, s27⟩
                        go_simp
                        with_reducible rfl
                      rotate_left
                      · simp only [Act.put, List.setIfInBounds_toArray, List.set_cons_zero, List.set_cons_succ, i64_w, i32_w]
                        rfl
                      refine one_ (i := 32) (N := some 57) #[true, true, true, true, true, true, true, true, true, true, true, true, true, true, true, true, true, true, true, true, true, true, true, true, true, true, true, true, true, true, true, true, true, false, false, false, false, false, false, false, false, false, false, false, false, false] rfl rfl (one_of HT_.out (by kernel_rfl)) (by decide) (fun K hK => ?_)
                      refine goes_ Try.func22 (by kernel_rfl) rfl #[.agg #[.int .u8 3, .int .u8 0, .int .u32 1, .int .u32 2, .int .i64 1, .int .u8 1, .int .u32 9], .int .u8 2] (by rfl) rfl rfl (by (try simp only [List.map_toArray, List.map_cons, List.map_nil]); first | done | rfl | (simp only [List.length_drop, List.length_take]; rfl)) ?_
                      with_reducible refine (item_In.calls 3 0 1 2 1 1 9 2 true _ A9.out).mono ?_
                      rintro e w56 ⟨rfl, hb⟩
                      have HS14_ := (hb.cell (World.block_lt_of_cell? _ _ (hHeld.2.2.2.2.2.2.2.2.2.2.2.2.2.2.1))).trans (hHeld.2.2.2.2.2.2.2.2.2.2.2.2.2.2.1)
                      have HS15_ := (hb.cell (World.block_lt_of_cell? _ _ (hHeld.2.2.2.2.2.2.2.2.2.2.2.2.2.2.2.1))).trans (hHeld.2.2.2.2.2.2.2.2.2.2.2.2.2.2.2.1)
                      have HS16_ := (hb.cell (World.block_lt_of_cell? _ _ (hHeld.2.2.2.2.2.2.2.2.2.2.2.2.2.2.2.2.1))).trans (hHeld.2.2.2.2.2.2.2.2.2.2.2.2.2.2.2.2.1)
                      have HS17_ := (hb.cell (World.block_lt_of_cell? _ _ (hHeld.2.2.2.2.2.2.2.2.2.2.2.2.2.2.2.2.2.1))).trans (hHeld.2.2.2.2.2.2.2.2.2.2.2.2.2.2.2.2.2.1)
                      have HS18_ := (hb.cell (World.block_lt_of_cell? _ _ (hHeld.2.2.2.2.2.2.2.2.2.2.2.2.2.2.2.2.2.2.1))).trans (hHeld.2.2.2.2.2.2.2.2.2.2.2.2.2.2.2.2.2.2.1)
                      have HS19_ := (hb.cell (World.block_lt_of_cell? _ _ (hHeld.2.2.2.2.2.2.2.2.2.2.2.2.2.2.2.2.2.2.2.1))).trans (hHeld.2.2.2.2.2.2.2.2.2.2.2.2.2.2.2.2.2.2.2.1)
                      have HS20_ := (hb.cell (World.block_lt_of_cell? _ _ (hHeld.2.2.2.2.2.2.2.2.2.2.2.2.2.2.2.2.2.2.2.2.1))).trans (hHeld.2.2.2.2.2.2.2.2.2.2.2.2.2.2.2.2.2.2.2.2.1)
                      have HS21_ := (hb.cell (World.block_lt_of_cell? _ _ (hHeld.2.2.2.2.2.2.2.2.2.2.2.2.2.2.2.2.2.2.2.2.2.1))).trans (hHeld.2.2.2.2.2.2.2.2.2.2.2.2.2.2.2.2.2.2.2.2.2.1)
                      have HS22_ := (hb.cell (World.block_lt_of_cell? _ _ (hHeld.2.2.2.2.2.2.2.2.2.2.2.2.2.2.2.2.2.2.2.2.2.2.1))).trans (hHeld.2.2.2.2.2.2.2.2.2.2.2.2.2.2.2.2.2.2.2.2.2.2.1)
                      have HS23_ := (hb.cell (World.block_lt_of_cell? _ _ (hHeld.2.2.2.2.2.2.2.2.2.2.2.2.2.2.2.2.2.2.2.2.2.2.2.1))).trans (hHeld.2.2.2.2.2.2.2.2.2.2.2.2.2.2.2.2.2.2.2.2.2.2.2.1)
                      have HS24_ := (hb.cell (World.block_lt_of_cell? _ _ (hHeld.2.2.2.2.2.2.2.2.2.2.2.2.2.2.2.2.2.2.2.2.2.2.2.2.1))).trans (hHeld.2.2.2.2.2.2.2.2.2.2.2.2.2.2.2.2.2.2.2.2.2.2.2.2.1)
                      have HS25_ := (hb.cell (World.block_lt_of_cell? _ _ (hHeld.2.2.2.2.2.2.2.2.2.2.2.2.2.2.2.2.2.2.2.2.2.2.2.2.2.1))).trans (hHeld.2.2.2.2.2.2.2.2.2.2.2.2.2.2.2.2.2.2.2.2.2.2.2.2.2.1)
                      have HS26_ := (hb.cell (World.block_lt_of_cell? _ _ (hHeld.2.2.2.2.2.2.2.2.2.2.2.2.2.2.2.2.2.2.2.2.2.2.2.2.2.2.1))).trans (hHeld.2.2.2.2.2.2.2.2.2.2.2.2.2.2.2.2.2.2.2.2.2.2.2.2.2.2.1)
                      have HS27_ := (hb.cell (World.block_lt_of_cell? _ _ (hHeld.2.2.2.2.2.2.2.2.2.2.2.2.2.2.2.2.2.2.2.2.2.2.2.2.2.2.2))).trans (hHeld.2.2.2.2.2.2.2.2.2.2.2.2.2.2.2.2.2.2.2.2.2.2.2.2.2.2.2)
                      refine ⟨_, rfl, ?_⟩
                      have n0_ := Aside0.mk (Kd.R_below (by (with_reducible repeat (first | apply Kd.R_alloc | apply Kd.R_drewN | apply Kd.R_drew)); exact HO153.out) hb)
                      have n1_ := Aside0.mk (Kd.R_below (by (with_reducible repeat (first | apply Kd.R_alloc | apply Kd.R_drewN | apply Kd.R_drew)); exact HO156.out) hb)
                      have n2_ := Aside0.mk (Kd.R_below (by (with_reducible repeat (first | apply Kd.R_alloc | apply Kd.R_drewN | apply Kd.R_drew)); exact HO160.out) hb)
                      have n3_ := Aside0.mk (Kd.R_below (by (with_reducible repeat (first | apply Kd.R_alloc | apply Kd.R_drewN | apply Kd.R_drew)); exact HO163.out) hb)
                      have n4_ := Aside0.mk (blk_below (g := gb149) (o := .cells #[.int .u8 3, .int .u8 0, .int .u32 1, .int .u32 2, .int .i64 1, .int .u8 1, .int .u32 9] 27 (0, 0)) (by (with_reducible repeat (first | refine blk_drewN ?_ _ | refine blk_drew ?_ | refine blk_alloc ?_ _)); exact BK149.out) hb)
                      have n5_ := Aside0.mk (blk_below (g := gb150) (o := .cells #[.int .u8 3, .int .u8 1, .int .u32 1, .int .u32 2, .int .i64 3, .int .u8 0, .int .u32 0] 27 (0, 0)) (by (with_reducible repeat (first | refine blk_drewN ?_ _ | refine blk_drew ?_ | refine blk_alloc ?_ _)); exact BK150.out) hb)
                      have n6_ := Aside0.mk (below_step (by repeat (first | (with_reducible first | exact HB.out | apply below_alloc | apply pw_below_drewN | apply below_drew1 | refine below_set ?_ GE149.out | refine below_set ?_ GE150.out) | exact HB.out)) hb)
                      clear HO153
                      clear HO156
                      clear HO160
                      clear HO163
                      clear BK149
                      clear BK150
                      clear HB
                      have HO153 := n0_
                      have HO156 := n1_
                      have HO160 := n2_
                      have HO163 := n3_
                      have BK149 := n4_
                      have BK150 := n5_
                      have HB := n6_
                      clear n0_ n1_ n2_ n3_ n4_ n5_ n6_
                      (try clear hb)
                      (try clear hb2)
                      (try clear hk)
                      (try clear hi)
                      refine hK.out _ _ ⟨(blk_cell BK150.out 0).trans rfl, (blk_cell BK150.out 1).trans rfl, (blk_cell BK150.out 2).trans rfl, (blk_cell BK150.out 3).trans rfl, (blk_cell BK150.out 4).trans rfl, (blk_cell BK150.out 5).trans rfl, (blk_cell BK150.out 6).trans rfl, (blk_cell BK149.out 0).trans rfl, (blk_cell BK149.out 1).trans rfl, (blk_cell BK149.out 2).trans rfl, (blk_cell BK149.out 3).trans rfl, (blk_cell BK149.out 4).trans rfl, (blk_cell BK149.out 5).trans rfl, (blk_cell BK149.out 6).trans rfl, HS14_, HS15_, HS16_, HS17_, HS18_, HS19_, HS20_, HS21_, HS22_, HS23_, HS24_, HS25_, HS26_, HS27_⟩ (fun hHeld => ?_)
                      clear hK K
                      refine norm_ (a' := ?_) ?_ ?_
                      rotate_left
                      · show Act.put _ (some 57) _ = _
                        simp only [Act.put, List.setIfInBounds_toArray, List.set_cons_zero, List.set_cons_succ, i64_w, i32_w]
                        rfl
                      refine pure_ (i := 33) (N := some 58) (v := ?_) (a' := ?_) #[true, true, true, true, true, true, true, true, true, true, true, true, true, true, true, true, true, true, true, true, true, true, true, true, true, true, true, true, true, true, true, true, true, true, false, false, false, false, false, false, false, false, false, false, false, false] rfl rfl (any_of HT_.out (by kernel_rfl)) (fun _ _ _ h => h) (Or.inl ⟨by rfl, ?_⟩) ?_ ?_
                      rotate_left
                      · intro w'
                        go_simp
                        with_reducible rfl
                      rotate_left
                      · simp only [Act.put, List.setIfInBounds_toArray, List.set_cons_zero, List.set_cons_succ, i64_w, i32_w]
                        rfl
                      refine pure_ (i := 34) (N := some 59) (v := ?_) (a' := ?_) #[true, true, true, true, true, true, true, true, true, true, true, true, true, true, true, true, true, true, true, true, true, true, true, true, true, true, true, true, true, true, true, true, true, true, true, false, false, false, false, false, false, false, false, false, false, false] rfl rfl (any_of HT_.out (by kernel_rfl)) (fun _ _ _ h => h) (Or.inl ⟨by rfl, ?_⟩) ?_ ?_
                      rotate_left
                      · intro w'
                        go_simp
                        with_reducible rfl
                      rotate_left
                      · simp only [Act.put, List.setIfInBounds_toArray, List.set_cons_zero, List.set_cons_succ, i64_w, i32_w]
                        rfl
                      refine take_ (i := 35) (N := some 60) (v := ?_) (a' := ?_) #[true, true, true, true, true, true, true, true, true, true, true, true, true, true, true, true, true, true, true, true, true, true, true, true, true, true, true, true, true, true, true, true, true, true, true, true, false, false, false, false, false, false, false, false, false, false] rfl rfl (take_ofW HT_.out HW_.out (by kernel_rfl)) (fun _ _ _ h => h) (Or.inl ⟨by rfl, ?_⟩) hHeld ?_ ?_
                      rotate_left
                      · rintro w' ⟨s0, s1, s2, s3, s4, s5, s6, s7, s8, s9, s10, s11, s12, s13, s14, s15, s16, s17, s18, s19, s20, s21, s22, s23, s24, s25, s26, s27⟩
                        go_simp
                        with_reducible rfl
                      rotate_left
                      · simp only [Act.put, List.setIfInBounds_toArray, List.set_cons_zero, List.set_cons_succ, i64_w, i32_w]
                        rfl
                      refine one_ (i := 36) (N := some 61) #[true, true, true, true, true, true, true, true, true, true, true, true, true, true, true, true, true, true, true, true, true, true, true, true, true, true, true, true, true, true, true, true, true, true, true, true, true, false, false, false, false, false, false, false, false, false] rfl rfl (one_of HT_.out (by kernel_rfl)) (by decide) (fun K hK => ?_)
                      refine goes_ Try.func22 (by kernel_rfl) rfl #[.agg #[.int .u8 3, .int .u8 0, .int .u32 1, .int .u32 2, .int .i64 1, .int .u8 1, .int .u32 9], .int .u8 1] (by rfl) rfl rfl (by (try simp only [List.map_toArray, List.map_cons, List.map_nil]); first | done | rfl | (simp only [List.length_drop, List.length_take]; rfl)) ?_
                      with_reducible refine (item_In.calls 3 0 1 2 1 1 9 1 false _ A11.out).mono ?_
                      rintro e w57 ⟨rfl, hb⟩
                      have HS14_ := (hb.cell (World.block_lt_of_cell? _ _ (hHeld.2.2.2.2.2.2.2.2.2.2.2.2.2.2.1))).trans (hHeld.2.2.2.2.2.2.2.2.2.2.2.2.2.2.1)
                      have HS15_ := (hb.cell (World.block_lt_of_cell? _ _ (hHeld.2.2.2.2.2.2.2.2.2.2.2.2.2.2.2.1))).trans (hHeld.2.2.2.2.2.2.2.2.2.2.2.2.2.2.2.1)
                      have HS16_ := (hb.cell (World.block_lt_of_cell? _ _ (hHeld.2.2.2.2.2.2.2.2.2.2.2.2.2.2.2.2.1))).trans (hHeld.2.2.2.2.2.2.2.2.2.2.2.2.2.2.2.2.1)
                      have HS17_ := (hb.cell (World.block_lt_of_cell? _ _ (hHeld.2.2.2.2.2.2.2.2.2.2.2.2.2.2.2.2.2.1))).trans (hHeld.2.2.2.2.2.2.2.2.2.2.2.2.2.2.2.2.2.1)
                      have HS18_ := (hb.cell (World.block_lt_of_cell? _ _ (hHeld.2.2.2.2.2.2.2.2.2.2.2.2.2.2.2.2.2.2.1))).trans (hHeld.2.2.2.2.2.2.2.2.2.2.2.2.2.2.2.2.2.2.1)
                      have HS19_ := (hb.cell (World.block_lt_of_cell? _ _ (hHeld.2.2.2.2.2.2.2.2.2.2.2.2.2.2.2.2.2.2.2.1))).trans (hHeld.2.2.2.2.2.2.2.2.2.2.2.2.2.2.2.2.2.2.2.1)
                      have HS20_ := (hb.cell (World.block_lt_of_cell? _ _ (hHeld.2.2.2.2.2.2.2.2.2.2.2.2.2.2.2.2.2.2.2.2.1))).trans (hHeld.2.2.2.2.2.2.2.2.2.2.2.2.2.2.2.2.2.2.2.2.1)
                      have HS21_ := (hb.cell (World.block_lt_of_cell? _ _ (hHeld.2.2.2.2.2.2.2.2.2.2.2.2.2.2.2.2.2.2.2.2.2.1))).trans (hHeld.2.2.2.2.2.2.2.2.2.2.2.2.2.2.2.2.2.2.2.2.2.1)
                      have HS22_ := (hb.cell (World.block_lt_of_cell? _ _ (hHeld.2.2.2.2.2.2.2.2.2.2.2.2.2.2.2.2.2.2.2.2.2.2.1))).trans (hHeld.2.2.2.2.2.2.2.2.2.2.2.2.2.2.2.2.2.2.2.2.2.2.1)
                      have HS23_ := (hb.cell (World.block_lt_of_cell? _ _ (hHeld.2.2.2.2.2.2.2.2.2.2.2.2.2.2.2.2.2.2.2.2.2.2.2.1))).trans (hHeld.2.2.2.2.2.2.2.2.2.2.2.2.2.2.2.2.2.2.2.2.2.2.2.1)
                      have HS24_ := (hb.cell (World.block_lt_of_cell? _ _ (hHeld.2.2.2.2.2.2.2.2.2.2.2.2.2.2.2.2.2.2.2.2.2.2.2.2.1))).trans (hHeld.2.2.2.2.2.2.2.2.2.2.2.2.2.2.2.2.2.2.2.2.2.2.2.2.1)
                      have HS25_ := (hb.cell (World.block_lt_of_cell? _ _ (hHeld.2.2.2.2.2.2.2.2.2.2.2.2.2.2.2.2.2.2.2.2.2.2.2.2.2.1))).trans (hHeld.2.2.2.2.2.2.2.2.2.2.2.2.2.2.2.2.2.2.2.2.2.2.2.2.2.1)
                      have HS26_ := (hb.cell (World.block_lt_of_cell? _ _ (hHeld.2.2.2.2.2.2.2.2.2.2.2.2.2.2.2.2.2.2.2.2.2.2.2.2.2.2.1))).trans (hHeld.2.2.2.2.2.2.2.2.2.2.2.2.2.2.2.2.2.2.2.2.2.2.2.2.2.2.1)
                      have HS27_ := (hb.cell (World.block_lt_of_cell? _ _ (hHeld.2.2.2.2.2.2.2.2.2.2.2.2.2.2.2.2.2.2.2.2.2.2.2.2.2.2.2))).trans (hHeld.2.2.2.2.2.2.2.2.2.2.2.2.2.2.2.2.2.2.2.2.2.2.2.2.2.2.2)
                      refine ⟨_, rfl, ?_⟩
                      have n0_ := Aside0.mk (Kd.R_below (by (with_reducible repeat (first | apply Kd.R_alloc | apply Kd.R_drewN | apply Kd.R_drew)); exact HO153.out) hb)
                      have n1_ := Aside0.mk (Kd.R_below (by (with_reducible repeat (first | apply Kd.R_alloc | apply Kd.R_drewN | apply Kd.R_drew)); exact HO156.out) hb)
                      have n2_ := Aside0.mk (Kd.R_below (by (with_reducible repeat (first | apply Kd.R_alloc | apply Kd.R_drewN | apply Kd.R_drew)); exact HO160.out) hb)
                      have n3_ := Aside0.mk (Kd.R_below (by (with_reducible repeat (first | apply Kd.R_alloc | apply Kd.R_drewN | apply Kd.R_drew)); exact HO163.out) hb)
                      have n4_ := Aside0.mk (blk_below (g := gb149) (o := .cells #[.int .u8 3, .int .u8 0, .int .u32 1, .int .u32 2, .int .i64 1, .int .u8 1, .int .u32 9] 27 (0, 0)) (by (with_reducible repeat (first | refine blk_drewN ?_ _ | refine blk_drew ?_ | refine blk_alloc ?_ _)); exact BK149.out) hb)
                      have n5_ := Aside0.mk (blk_below (g := gb150) (o := .cells #[.int .u8 3, .int .u8 1, .int .u32 1, .int .u32 2, .int .i64 3, .int .u8 0, .int .u32 0] 27 (0, 0)) (by (with_reducible repeat (first | refine blk_drewN ?_ _ | refine blk_drew ?_ | refine blk_alloc ?_ _)); exact BK150.out) hb)
                      have n6_ := Aside0.mk (below_step (by repeat (first | (with_reducible first | exact HB.out | apply below_alloc | apply pw_below_drewN | apply below_drew1 | refine below_set ?_ GE149.out | refine below_set ?_ GE150.out) | exact HB.out)) hb)
                      clear HO153
                      clear HO156
                      clear HO160
                      clear HO163
                      clear BK149
                      clear BK150
                      clear HB
                      have HO153 := n0_
                      have HO156 := n1_
                      have HO160 := n2_
                      have HO163 := n3_
                      have BK149 := n4_
                      have BK150 := n5_
                      have HB := n6_
                      clear n0_ n1_ n2_ n3_ n4_ n5_ n6_
                      (try clear hb)
                      (try clear hb2)
                      (try clear hk)
                      (try clear hi)
                      refine hK.out _ _ ⟨(blk_cell BK150.out 0).trans rfl, (blk_cell BK150.out 1).trans rfl, (blk_cell BK150.out 2).trans rfl, (blk_cell BK150.out 3).trans rfl, (blk_cell BK150.out 4).trans rfl, (blk_cell BK150.out 5).trans rfl, (blk_cell BK150.out 6).trans rfl, (blk_cell BK149.out 0).trans rfl, (blk_cell BK149.out 1).trans rfl, (blk_cell BK149.out 2).trans rfl, (blk_cell BK149.out 3).trans rfl, (blk_cell BK149.out 4).trans rfl, (blk_cell BK149.out 5).trans rfl, (blk_cell BK149.out 6).trans rfl, HS14_, HS15_, HS16_, HS17_, HS18_, HS19_, HS20_, HS21_, HS22_, HS23_, HS24_, HS25_, HS26_, HS27_⟩ (fun hHeld => ?_)
                      clear hK K
                      refine norm_ (a' := ?_) ?_ ?_
                      rotate_left
                      · show Act.put _ (some 61) _ = _
                        simp only [Act.put, List.setIfInBounds_toArray, List.set_cons_zero, List.set_cons_succ, i64_w, i32_w]
                        rfl
                      refine pure_ (i := 37) (N := some 62) (v := ?_) (a' := ?_) #[true, true, true, true, true, true, true, true, true, true, true, true, true, true, true, true, true, true, true, true, true, true, true, true, true, true, true, true, true, true, true, true, true, true, true, true, true, true, false, false, false, false, false, false, false, false] rfl rfl (any_of HT_.out (by kernel_rfl)) (fun _ _ _ h => h) (Or.inl ⟨by rfl, ?_⟩) ?_ ?_
                      rotate_left
                      · intro w'
                        go_simp
                        with_reducible rfl
                      rotate_left
                      · simp only [Act.put, List.setIfInBounds_toArray, List.set_cons_zero, List.set_cons_succ, i64_w, i32_w]
                        rfl
                      refine pure_ (i := 38) (N := some 63) (v := ?_) (a' := ?_) #[true, true, true, true, true, true, true, true, true, true, true, true, true, true, true, true, true, true, true, true, true, true, true, true, true, true, true, true, true, true, true, true, true, true, true, true, true, true, true, false, false, false, false, false, false, false] rfl rfl (any_of HT_.out (by kernel_rfl)) (fun _ _ _ h => h) (Or.inl ⟨by rfl, ?_⟩) ?_ ?_
                      rotate_left
                      · intro w'
                        go_simp
                        with_reducible rfl
                      rotate_left
                      · simp only [Act.put, List.setIfInBounds_toArray, List.set_cons_zero, List.set_cons_succ, i64_w, i32_w]
                        rfl
                      refine pure_ (i := 39) (N := some 64) (v := ?_) (a' := ?_) #[true, true, true, true, true, true, true, true, true, true, true, true, true, true, true, true, true, true, true, true, true, true, true, true, true, true, true, true, true, true, true, true, true, true, true, true, true, true, true, true, false, false, false, false, false, false] rfl rfl (any_of HT_.out (by kernel_rfl)) (fun _ _ _ h => h) (Or.inl ⟨by rfl, ?_⟩) ?_ ?_
                      rotate_left
                      · intro w'
                        go_simp
                        with_reducible rfl
                      rotate_left
                      · simp only [Act.put, List.setIfInBounds_toArray, List.set_cons_zero, List.set_cons_succ, i64_w, i32_w]
                        rfl
                      refine take_ (i := 40) (N := some 65) (v := ?_) (a' := ?_) #[true, true, true, true, true, true, true, true, true, true, true, true, true, true, true, true, true, true, true, true, true, true, true, true, true, true, true, true, true, true, true, true, true, true, true, true, true, true, true, true, true, false, false, false, false, false] rfl rfl (take_ofW HT_.out HW_.out (by kernel_rfl)) (fun _ _ _ h => h) (Or.inl ⟨by rfl, ?_⟩) hHeld ?_ ?_
                      rotate_left
                      · rintro w' ⟨s0, s1, s2, s3, s4, s5, s6, s7, s8, s9, s10, s11, s12, s13, s14, s15, s16, s17, s18, s19, s20, s21, s22, s23, s24, s25, s26, s27⟩
                        go_simp
                        with_reducible rfl
                      rotate_left
                      · simp only [Act.put, List.setIfInBounds_toArray, List.set_cons_zero, List.set_cons_succ, i64_w, i32_w]
                        rfl
                      refine one_ (i := 41) (N := some 66) #[true, true, true, true, true, true, true, true, true, true, true, true, true, true, true, true, true, true, true, true, true, true, true, true, true, true, true, true, true, true, true, true, true, true, true, true, true, true, true, true, true, true, false, false, false, false] rfl rfl (one_of HT_.out (by kernel_rfl)) (by decide) (fun K hK => ?_)
                      refine goes_ Try.func19 (by kernel_rfl) rfl #[.agg #[.int .u8 3, .int .u8 0, .int .u32 1, .int .u32 2, .int .i64 1, .int .u8 1, .int .u32 9]] (by rfl) rfl rfl (by (try simp only [List.map_toArray, List.map_cons, List.map_nil]); first | done | rfl | (simp only [List.length_drop, List.length_take]; rfl)) ?_
                      with_reducible refine (item_Fade.calls 3 0 1 2 1 1 9 t171 t172 t173 t174 t175 t176 t177 _ A35.out).mono ?_
                      rintro e w58 ⟨rfl, hb⟩
                      have HS14_ := (hb.cell (World.block_lt_of_cell? _ _ (hHeld.2.2.2.2.2.2.2.2.2.2.2.2.2.2.1))).trans (hHeld.2.2.2.2.2.2.2.2.2.2.2.2.2.2.1)
                      have HS15_ := (hb.cell (World.block_lt_of_cell? _ _ (hHeld.2.2.2.2.2.2.2.2.2.2.2.2.2.2.2.1))).trans (hHeld.2.2.2.2.2.2.2.2.2.2.2.2.2.2.2.1)
                      have HS16_ := (hb.cell (World.block_lt_of_cell? _ _ (hHeld.2.2.2.2.2.2.2.2.2.2.2.2.2.2.2.2.1))).trans (hHeld.2.2.2.2.2.2.2.2.2.2.2.2.2.2.2.2.1)
                      have HS17_ := (hb.cell (World.block_lt_of_cell? _ _ (hHeld.2.2.2.2.2.2.2.2.2.2.2.2.2.2.2.2.2.1))).trans (hHeld.2.2.2.2.2.2.2.2.2.2.2.2.2.2.2.2.2.1)
                      have HS18_ := (hb.cell (World.block_lt_of_cell? _ _ (hHeld.2.2.2.2.2.2.2.2.2.2.2.2.2.2.2.2.2.2.1))).trans (hHeld.2.2.2.2.2.2.2.2.2.2.2.2.2.2.2.2.2.2.1)
                      have HS19_ := (hb.cell (World.block_lt_of_cell? _ _ (hHeld.2.2.2.2.2.2.2.2.2.2.2.2.2.2.2.2.2.2.2.1))).trans (hHeld.2.2.2.2.2.2.2.2.2.2.2.2.2.2.2.2.2.2.2.1)
                      have HS20_ := (hb.cell (World.block_lt_of_cell? _ _ (hHeld.2.2.2.2.2.2.2.2.2.2.2.2.2.2.2.2.2.2.2.2.1))).trans (hHeld.2.2.2.2.2.2.2.2.2.2.2.2.2.2.2.2.2.2.2.2.1)
                      have HS21_ := (hb.cell (World.block_lt_of_cell? _ _ (hHeld.2.2.2.2.2.2.2.2.2.2.2.2.2.2.2.2.2.2.2.2.2.1))).trans (hHeld.2.2.2.2.2.2.2.2.2.2.2.2.2.2.2.2.2.2.2.2.2.1)
                      have HS22_ := (hb.cell (World.block_lt_of_cell? _ _ (hHeld.2.2.2.2.2.2.2.2.2.2.2.2.2.2.2.2.2.2.2.2.2.2.1))).trans (hHeld.2.2.2.2.2.2.2.2.2.2.2.2.2.2.2.2.2.2.2.2.2.2.1)
                      have HS23_ := (hb.cell (World.block_lt_of_cell? _ _ (hHeld.2.2.2.2.2.2.2.2.2.2.2.2.2.2.2.2.2.2.2.2.2.2.2.1))).trans (hHeld.2.2.2.2.2.2.2.2.2.2.2.2.2.2.2.2.2.2.2.2.2.2.2.1)
                      have HS24_ := (hb.cell (World.block_lt_of_cell? _ _ (hHeld.2.2.2.2.2.2.2.2.2.2.2.2.2.2.2.2.2.2.2.2.2.2.2.2.1))).trans (hHeld.2.2.2.2.2.2.2.2.2.2.2.2.2.2.2.2.2.2.2.2.2.2.2.2.1)
                      have HS25_ := (hb.cell (World.block_lt_of_cell? _ _ (hHeld.2.2.2.2.2.2.2.2.2.2.2.2.2.2.2.2.2.2.2.2.2.2.2.2.2.1))).trans (hHeld.2.2.2.2.2.2.2.2.2.2.2.2.2.2.2.2.2.2.2.2.2.2.2.2.2.1)
                      have HS26_ := (hb.cell (World.block_lt_of_cell? _ _ (hHeld.2.2.2.2.2.2.2.2.2.2.2.2.2.2.2.2.2.2.2.2.2.2.2.2.2.2.1))).trans (hHeld.2.2.2.2.2.2.2.2.2.2.2.2.2.2.2.2.2.2.2.2.2.2.2.2.2.2.1)
                      have HS27_ := (hb.cell (World.block_lt_of_cell? _ _ (hHeld.2.2.2.2.2.2.2.2.2.2.2.2.2.2.2.2.2.2.2.2.2.2.2.2.2.2.2))).trans (hHeld.2.2.2.2.2.2.2.2.2.2.2.2.2.2.2.2.2.2.2.2.2.2.2.2.2.2.2)
                      refine ⟨_, rfl, ?_⟩
                      have n0_ := Aside0.mk (Kd.R_below (by (with_reducible repeat (first | apply Kd.R_alloc | apply Kd.R_drewN | apply Kd.R_drew)); exact HO153.out) hb)
                      have n1_ := Aside0.mk (Kd.R_below (by (with_reducible repeat (first | apply Kd.R_alloc | apply Kd.R_drewN | apply Kd.R_drew)); exact HO156.out) hb)
                      have n2_ := Aside0.mk (Kd.R_below (by (with_reducible repeat (first | apply Kd.R_alloc | apply Kd.R_drewN | apply Kd.R_drew)); exact HO160.out) hb)
                      have n3_ := Aside0.mk (Kd.R_below (by (with_reducible repeat (first | apply Kd.R_alloc | apply Kd.R_drewN | apply Kd.R_drew)); exact HO163.out) hb)
                      have n4_ := Aside0.mk (blk_below (g := gb149) (o := .cells #[.int .u8 3, .int .u8 0, .int .u32 1, .int .u32 2, .int .i64 1, .int .u8 1, .int .u32 9] 27 (0, 0)) (by (with_reducible repeat (first | refine blk_drewN ?_ _ | refine blk_drew ?_ | refine blk_alloc ?_ _)); exact BK149.out) hb)
                      have n5_ := Aside0.mk (blk_below (g := gb150) (o := .cells #[.int .u8 3, .int .u8 1, .int .u32 1, .int .u32 2, .int .i64 3, .int .u8 0, .int .u32 0] 27 (0, 0)) (by (with_reducible repeat (first | refine blk_drewN ?_ _ | refine blk_drew ?_ | refine blk_alloc ?_ _)); exact BK150.out) hb)
                      have n6_ := Aside0.mk (below_step (by repeat (first | (with_reducible first | exact HB.out | apply below_alloc | apply pw_below_drewN | apply below_drew1 | refine below_set ?_ GE149.out | refine below_set ?_ GE150.out) | exact HB.out)) hb)
                      clear HO153
                      clear HO156
                      clear HO160
                      clear HO163
                      clear BK149
                      clear BK150
                      clear HB
                      have HO153 := n0_
                      have HO156 := n1_
                      have HO160 := n2_
                      have HO163 := n3_
                      have BK149 := n4_
                      have BK150 := n5_
                      have HB := n6_
                      clear n0_ n1_ n2_ n3_ n4_ n5_ n6_
                      (try clear hb)
                      (try clear hb2)
                      (try clear hk)
                      (try clear hi)
                      refine hK.out _ _ ⟨(blk_cell BK150.out 0).trans rfl, (blk_cell BK150.out 1).trans rfl, (blk_cell BK150.out 2).trans rfl, (blk_cell BK150.out 3).trans rfl, (blk_cell BK150.out 4).trans rfl, (blk_cell BK150.out 5).trans rfl, (blk_cell BK150.out 6).trans rfl, (blk_cell BK149.out 0).trans rfl, (blk_cell BK149.out 1).trans rfl, (blk_cell BK149.out 2).trans rfl, (blk_cell BK149.out 3).trans rfl, (blk_cell BK149.out 4).trans rfl, (blk_cell BK149.out 5).trans rfl, (blk_cell BK149.out 6).trans rfl, HS14_, HS15_, HS16_, HS17_, HS18_, HS19_, HS20_, HS21_, HS22_, HS23_, HS24_, HS25_, HS26_, HS27_⟩ (fun hHeld => ?_)
                      clear hK K
                      refine norm_ (a' := ?_) ?_ ?_
                      rotate_left
                      · show Act.put _ (some 66) _ = _
                        simp only [Act.put, List.setIfInBounds_toArray, List.set_cons_zero, List.set_cons_succ, i64_w, i32_w]
                        rfl
                      refine pure_ (i := 42) (N := some 67) (v := ?_) (a' := ?_) #[true, true, true, true, true, true, true, true, true, true, true, true, true, true, true, true, true, true, true, true, true, true, true, true, true, true, true, true, true, true, true, true, true, true, true, true, true, true, true, true, true, true, true, false, false, false] rfl rfl (any_of HT_.out (by kernel_rfl)) (fun _ _ _ h => h) (Or.inl ⟨by rfl, ?_⟩) ?_ ?_
                      rotate_left
                      · intro w'
                        go_simp
                        with_reducible rfl
                      rotate_left
                      · simp only [Act.put, List.setIfInBounds_toArray, List.set_cons_zero, List.set_cons_succ, i64_w, i32_w]
                        rfl
                      refine pure_ (i := 43) (N := some 68) (v := ?_) (a' := ?_) #[true, true, true, true, true, true, true, true, true, true, true, true, true, true, true, true, true, true, true, true, true, true, true, true, true, true, true, true, true, true, true, true, true, true, true, true, true, true, true, true, true, true, true, true, false, false] rfl rfl (any_of HT_.out (by kernel_rfl)) (fun _ _ _ h => h) (Or.inl ⟨by rfl, ?_⟩) ?_ ?_
                      rotate_left
                      · intro w'
                        go_simp
                        with_reducible rfl
                      rotate_left
                      · simp only [Act.put, List.setIfInBounds_toArray, List.set_cons_zero, List.set_cons_succ, i64_w, i32_w]
                        rfl
                      refine pure_ (i := 44) (N := some 69) (v := ?_) (a' := ?_) #[true, true, true, true, true, true, true, true, true, true, true, true, true, true, true, true, true, true, true, true, true, true, true, true, true, true, true, true, true, true, true, true, true, true, true, true, true, true, true, true, true, true, true, true, true, false] rfl rfl (any_of HT_.out (by kernel_rfl)) (fun _ _ _ h => h) (Or.inl ⟨by rfl, ?_⟩) ?_ ?_
                      rotate_left
                      · intro w'
                        go_simp
                        with_reducible rfl
                      rotate_left
                      · simp only [Act.put, List.setIfInBounds_toArray, List.set_cons_zero, List.set_cons_succ, i64_w, i32_w]
                        rfl
                      refine pure_ (i := 45) (N := some 0) (v := ?_) (a' := ?_) #[true, true, true, true, true, true, true, true, true, true, true, true, true, true, true, true, true, true, true, true, true, true, true, true, true, true, true, true, true, true, true, true, true, true, true, true, true, true, true, true, true, true, true, true, true, true] rfl rfl (any_of HT_.out (by kernel_rfl)) (fun _ _ _ h => h) (Or.inl ⟨by rfl, ?_⟩) ?_ ?_
                      rotate_left
                      · intro w'
                        go_simp
                        with_reducible rfl
                      rotate_left
                      · simp only [Act.put, List.setIfInBounds_toArray, List.set_cons_zero, List.set_cons_succ, i64_w, i32_w]
                        rfl
                      refine done_ (done_of HT_.out (by kernel_rfl)) ?_
                      try go_wp2
                      go_ret
                      exact ⟨by first | rfl | (simp [errW_none, errW_some] <;> rfl) | (simp [*, errW_none, errW_some] <;> rfl), by repeat (first | (with_reducible first | exact HB.out | apply below_alloc | apply pw_below_drewN | apply below_drew1 | refine below_set ?_ GE149.out | refine below_set ?_ GE150.out) | exact HB.out)⟩
                  · replace c10 := Bool.eq_false_iff.mpr c10
                    subst c10
                    have H1 : (some false) = some r := by rw [if_neg (show ¬ (false = true) by decide)] at H; exact H
                    clear H
                    have H := H1
                    clear H1
                    exact absurd ((Option.some.inj H).trans HRT.out) (by decide)
                · rw [if_neg c8] at H
                  have c8b0 : (((rd_T27 t161 0).f0) == 3 && ((((rd_T27 t161 0).f1.f0) == 1 && (((rd_T27 t161 0).f1.f1) == 1 && (((rd_T27 t161 0).f1.f2) == 2))) && (((rd_T27 t161 0).f2) == 3 && (((rd_T27 t161 0).f3) == 0 && (((rd_T27 t161 0).f4) == 0))))) = false := by simpa using c8
                  (try (have c8b1 : decide (((rd_T27 t161 0).f0) = 3 && ((((rd_T27 t161 0).f1.f0) == 1 && (((rd_T27 t161 0).f1.f1) == 1 && (((rd_T27 t161 0).f1.f2) == 2))) && (((rd_T27 t161 0).f2) == 3 && (((rd_T27 t161 0).f3) == 0 && (((rd_T27 t161 0).f4) == 0))))) = false := by simpa using c8))
                  (try (have c8b2 : (((rd_T27 t161 0).f0) == 3 && ((((rd_T27 t161 0).f1.f0) == 1 && (((rd_T27 t161 0).f1.f1) == 1 && (((rd_T27 t161 0).f1.f2) == 2))) && (((rd_T27 t161 0).f2) == 3 && (((rd_T27 t161 0).f3) == 0 && (((rd_T27 t161 0).f4) == 0))))) = false := by simpa using c8))
                  (try (have c8b3 : ¬ (((rd_T27 t161 0).f0) = 3 && ((((rd_T27 t161 0).f1.f0) == 1 && (((rd_T27 t161 0).f1.f1) == 1 && (((rd_T27 t161 0).f1.f2) == 2))) && (((rd_T27 t161 0).f2) == 3 && (((rd_T27 t161 0).f3) == 0 && (((rd_T27 t161 0).f4) == 0))))) := by simpa using c8))
                  clear c8
                  exact absurd ((Option.some.inj H).trans HRT.out) (by decide)
              · rw [if_neg c7] at H
                exact absurd H (by simp)
            · rw [if_neg c6] at H
              have c6b0 : ((t161.length : Int) == 1) = false := beq_eq_false_iff_ne.mpr c6
              have c6b1 : ((t161.length : Int) != 1) = true := bne_iff_ne.mpr c6
              exact absurd ((Option.some.inj H).trans HRT.out) (by decide)
          · rw [if_neg c5] at H
            have c5b0 : (((rd_T27 t154 0).f0) == 3 && ((((rd_T27 t154 0).f1.f0) == 1 && (((rd_T27 t154 0).f1.f1) == 1 && (((rd_T27 t154 0).f1.f2) == 2))) && (((rd_T27 t154 0).f2) == 3 && (((rd_T27 t154 0).f3) == 0 && (((rd_T27 t154 0).f4) == 0))))) = false := by simpa using c5
            (try (have c5b1 : decide (((rd_T27 t154 0).f0) = 3 && ((((rd_T27 t154 0).f1.f0) == 1 && (((rd_T27 t154 0).f1.f1) == 1 && (((rd_T27 t154 0).f1.f2) == 2))) && (((rd_T27 t154 0).f2) == 3 && (((rd_T27 t154 0).f3) == 0 && (((rd_T27 t154 0).f4) == 0))))) = false := by simpa using c5))
            (try (have c5b2 : (((rd_T27 t154 0).f0) == 3 && ((((rd_T27 t154 0).f1.f0) == 1 && (((rd_T27 t154 0).f1.f1) == 1 && (((rd_T27 t154 0).f1.f2) == 2))) && (((rd_T27 t154 0).f2) == 3 && (((rd_T27 t154 0).f3) == 0 && (((rd_T27 t154 0).f4) == 0))))) = false := by simpa using c5))
            (try (have c5b3 : ¬ (((rd_T27 t154 0).f0) = 3 && ((((rd_T27 t154 0).f1.f0) == 1 && (((rd_T27 t154 0).f1.f1) == 1 && (((rd_T27 t154 0).f1.f2) == 2))) && (((rd_T27 t154 0).f2) == 3 && (((rd_T27 t154 0).f3) == 0 && (((rd_T27 t154 0).f4) == 0))))) := by simpa using c5))
            clear c5
            exact absurd ((Option.some.inj H).trans HRT.out) (by decide)
        · rw [if_neg c4] at H
          exact absurd H (by simp)
      · rw [if_neg c3] at H
        have c3b0 : ((t154.length : Int) == 1) = false := beq_eq_false_iff_ne.mpr c3
        have c3b1 : ((t154.length : Int) != 1) = true := bne_iff_ne.mpr c3
        exact absurd ((Option.some.inj H).trans HRT.out) (by decide)
    · have H1 : (some false) = some r := by rw [if_neg (show ¬ (some q166).isNone = true by simp)] at H; exact H
      clear H
      have H := H1
      clear H1
      try simp only [errW_none, errW_some]
      exact absurd ((Option.some.inj H).trans HRT.out) (by decide)
  · have H1 : (some false) = some r := by rw [if_neg (show ¬ (some q165).isNone = true by simp)] at H; exact H
    clear H
    have H := H1
    clear H1
    try simp only [errW_none, errW_some]
    exact absurd ((Option.some.inj H).trans HRT.out) (by decide)
/-! ### tidingsref02_Less: function 13 -/
def tidingsref02_Less.f (a0_0 : Int) (a0_1 : Int) (a0_2 : Int) (a1_0 : Int) (a1_1 : Int) (a1_2 : Int) : Option (Bool) := if a0_2 = a1_2 then (if a0_0 = a1_0 then (some (decide (a0_1 < a1_1))) else (some (decide (a0_0 < a1_0)))) else (some (decide (a0_2 < a1_2)))
set_option maxHeartbeats 8000000 in
set_option maxRecDepth 100000 in
theorem tidingsref02_Less.calls (a0_0 : Int) (a0_1 : Int) (a0_2 : Int) (a1_0 : Int) (a1_1 : Int) (a1_2 : Int) (r : Bool) (w : World) (h : tidingsref02_Less.f a0_0 a0_1 a0_2 a1_0 a1_1 a1_2 = some r) :
    Calls Try.prog 13 #[.agg #[.int .u8 a0_0, .int .u32 a0_1, .int .u32 a0_2], .agg #[.int .u8 a1_0, .int .u32 a1_1, .int .u32 a1_2]] w fun e w' => e = .returned (.bool r) ∧ Below w.heap.size w w' := by
  have hu25 := Try.underlying25
  have HB := Aside0.mk (Below.refl w.heap.size w)
  have H : (if a0_2 = a1_2 then (if a0_0 = a1_0 then (some (decide (a0_1 < a1_1))) else (some (decide (a0_0 < a1_0)))) else (some (decide (a0_2 < a1_2)))) = some r := h
  clear h
  by_cases c3 : a0_2 = a1_2
  · rw [if_pos c3] at H
    have c3b0 : (a0_2 == a1_2) = true := beq_iff_eq.mpr c3
    have c3b1 : (a0_2 != a1_2) = false := bne_eq_false_iff_eq.mpr c3
    clear c3
    by_cases c4 : a0_0 = a1_0
    · rw [if_pos c4] at H
      have c4b0 : (a0_0 == a1_0) = true := beq_iff_eq.mpr c4
      have c4b1 : (a0_0 != a1_0) = false := bne_eq_false_iff_eq.mpr c4
      clear c4
      obtain rfl := Option.some.inj H
      go_enter Try.func13, Try.ntmps13
      go_wp2_with (first | ((with_reducible refine gate_dst (N := 2) rfl ?_); refine box_event ?hg (N := 2) ?hd (cs := #[.int .u8 a0_0, .int .u32 a0_1, .int .u32 a0_2]) (t := 25) ?hr ?_; (case hd => rfl); (case hg => rfl); (case hr => first | (go_simp; done) | (go_simp; rfl)); intro gb178 hg w5 hbox hb; have n0_ := Aside0.mk (below_step (by repeat (first | (with_reducible first | exact HB.out | apply below_alloc | apply pw_below_drewN | apply below_drew1) | exact HB.out)) hb); have n1_ := Aside0.mk (hbox); have n2_ := Aside0.mk ((by rw [hg]; exact (below_size (by repeat (first | (with_reducible first | exact HB.out | apply below_alloc | apply pw_below_drewN | apply below_drew1) | exact HB.out))) : w.heap.size ≤ gb178)); have n3_ := Aside0.mk ((by rw [hg]; exact (below_size (by repeat (first | (with_reducible first | exact HB.out | apply below_alloc | apply pw_below_drewN | apply below_drew1) | exact HB.out))) : w.heap.size ≤ gb178)); clear HB; have HB := n0_; have BK178 := n1_; have GW178 := n2_; have GE178 := n3_; clear n0_ n1_ n2_ n3_; clear hb hbox hg) | ((with_reducible refine gate_dst (N := 3) rfl ?_); refine box_event ?hg (N := 3) ?hd (cs := #[.int .u8 a1_0, .int .u32 a1_1, .int .u32 a1_2]) (t := 25) ?hr ?_; (case hd => rfl); (case hg => rfl); (case hr => first | (go_simp; done) | (go_simp; rfl)); intro gb179 hg w6 hbox hb; have n0_ := Aside0.mk (blk_below (g := gb178) (o := .cells #[.int .u8 a0_0, .int .u32 a0_1, .int .u32 a0_2] 25 (0, 0)) (by (with_reducible repeat (first | refine blk_drewN ?_ _ | refine blk_drew ?_ | refine blk_alloc ?_ _)); exact BK178.out) hb); have n1_ := Aside0.mk (below_step (by repeat (first | (with_reducible first | exact HB.out | apply below_alloc | apply pw_below_drewN | apply below_drew1 | refine below_set ?_ GE178.out) | exact HB.out)) hb); have n2_ := Aside0.mk (hbox); have n3_ := Aside0.mk ((by rw [hg]; exact (below_size (by repeat (first | (with_reducible first | exact HB.out | apply below_alloc | apply pw_below_drewN | apply below_drew1 | refine below_set ?_ GE178.out) | exact HB.out))) : w.heap.size ≤ gb179)); have n4_ := Aside0.mk ((by rw [hg]; exact (below_size (by repeat (first | (with_reducible first | exact HB.out | apply below_alloc | apply pw_below_drewN | apply below_drew1 | refine below_set ?_ GE178.out) | exact HB.out))) : w.heap.size ≤ gb179)); have n5_ := Aside0.mk ((by rw [hg]; exact Nat.ne_of_lt (blk_lt (g := gb178) (o := .cells #[.int .u8 a0_0, .int .u32 a0_1, .int .u32 a0_2] 25 (0, 0)) (by (with_reducible repeat (first | refine blk_drewN ?_ _ | refine blk_drew ?_ | refine blk_alloc ?_ _)); exact BK178.out)) : gb178 ≠ gb179)); have n6_ := Aside0.mk ((by rw [hg]; exact Nat.ne_of_gt (blk_lt (g := gb178) (o := .cells #[.int .u8 a0_0, .int .u32 a0_1, .int .u32 a0_2] 25 (0, 0)) (by (with_reducible repeat (first | refine blk_drewN ?_ _ | refine blk_drew ?_ | refine blk_alloc ?_ _)); exact BK178.out)) : gb179 ≠ gb178)); clear BK178; clear HB; have BK178 := n0_; have HB := n1_; have BK179 := n2_; have GW179 := n3_; have GE179 := n4_; have NB178_179 := n5_; have NB179_178 := n6_; clear n0_ n1_ n2_ n3_ n4_ n5_ n6_; clear hb hbox hg; have hnb7 := NB178_179.out; have hnc7 := NB179_178.out; have hcz8_0 : w6.cell? ⟨gb178, 0, none⟩ = some (.int .u8 a0_0) := (blk_cell BK178.out 0).trans rfl; have hcz8_1 : w6.cell? ⟨gb178, 1, none⟩ = some (.int .u32 a0_1) := (blk_cell BK178.out 1).trans rfl; have hcz8_2 : w6.cell? ⟨gb178, 2, none⟩ = some (.int .u32 a0_2) := (blk_cell BK178.out 2).trans rfl; have hfz8_0 := blk_frozen BK178.out 0; have hfz8_1 := blk_frozen BK178.out 1; have hfz8_2 := blk_frozen BK178.out 2; have hcz9_0 : w6.cell? ⟨gb179, 0, none⟩ = some (.int .u8 a1_0) := (blk_cell BK179.out 0).trans rfl; have hcz9_1 : w6.cell? ⟨gb179, 1, none⟩ = some (.int .u32 a1_1) := (blk_cell BK179.out 1).trans rfl; have hcz9_2 : w6.cell? ⟨gb179, 2, none⟩ = some (.int .u32 a1_2) := (blk_cell BK179.out 2).trans rfl; have hfz9_0 := blk_frozen BK179.out 0; have hfz9_1 := blk_frozen BK179.out 1; have hfz9_2 := blk_frozen BK179.out 2))
      go_ret
      exact ⟨by first | rfl | (simp [errW_none, errW_some] <;> rfl) | (simp [*, errW_none, errW_some] <;> rfl), by repeat (first | (with_reducible first | exact HB.out | apply below_alloc | apply pw_below_drewN | apply below_drew1 | refine below_set ?_ GE178.out | refine below_set ?_ GE179.out) | exact HB.out)⟩
    · rw [if_neg c4] at H
      have c4b0 : (a0_0 == a1_0) = false := beq_eq_false_iff_ne.mpr c4
      have c4b1 : (a0_0 != a1_0) = true := bne_iff_ne.mpr c4
      obtain rfl := Option.some.inj H
      go_enter Try.func13, Try.ntmps13
      go_wp2_with (first | ((with_reducible refine gate_dst (N := 2) rfl ?_); refine box_event ?hg (N := 2) ?hd (cs := #[.int .u8 a0_0, .int .u32 a0_1, .int .u32 a0_2]) (t := 25) ?hr ?_; (case hd => rfl); (case hg => rfl); (case hr => first | (go_simp; done) | (go_simp; rfl)); intro gb178 hg w10 hbox hb; have n0_ := Aside0.mk (below_step (by repeat (first | (with_reducible first | exact HB.out | apply below_alloc | apply pw_below_drewN | apply below_drew1) | exact HB.out)) hb); have n1_ := Aside0.mk (hbox); have n2_ := Aside0.mk ((by rw [hg]; exact (below_size (by repeat (first | (with_reducible first | exact HB.out | apply below_alloc | apply pw_below_drewN | apply below_drew1) | exact HB.out))) : w.heap.size ≤ gb178)); have n3_ := Aside0.mk ((by rw [hg]; exact (below_size (by repeat (first | (with_reducible first | exact HB.out | apply below_alloc | apply pw_below_drewN | apply below_drew1) | exact HB.out))) : w.heap.size ≤ gb178)); clear HB; have HB := n0_; have BK178 := n1_; have GW178 := n2_; have GE178 := n3_; clear n0_ n1_ n2_ n3_; clear hb hbox hg) | ((with_reducible refine gate_dst (N := 3) rfl ?_); refine box_event ?hg (N := 3) ?hd (cs := #[.int .u8 a1_0, .int .u32 a1_1, .int .u32 a1_2]) (t := 25) ?hr ?_; (case hd => rfl); (case hg => rfl); (case hr => first | (go_simp; done) | (go_simp; rfl)); intro gb179 hg w11 hbox hb; have n0_ := Aside0.mk (blk_below (g := gb178) (o := .cells #[.int .u8 a0_0, .int .u32 a0_1, .int .u32 a0_2] 25 (0, 0)) (by (with_reducible repeat (first | refine blk_drewN ?_ _ | refine blk_drew ?_ | refine blk_alloc ?_ _)); exact BK178.out) hb); have n1_ := Aside0.mk (below_step (by repeat (first | (with_reducible first | exact HB.out | apply below_alloc | apply pw_below_drewN | apply below_drew1 | refine below_set ?_ GE178.out) | exact HB.out)) hb); have n2_ := Aside0.mk (hbox); have n3_ := Aside0.mk ((by rw [hg]; exact (below_size (by repeat (first | (with_reducible first | exact HB.out | apply below_alloc | apply pw_below_drewN | apply below_drew1 | refine below_set ?_ GE178.out) | exact HB.out))) : w.heap.size ≤ gb179)); have n4_ := Aside0.mk ((by rw [hg]; exact (below_size (by repeat (first | (with_reducible first | exact HB.out | apply below_alloc | apply pw_below_drewN | apply below_drew1 | refine below_set ?_ GE178.out) | exact HB.out))) : w.heap.size ≤ gb179)); have n5_ := Aside0.mk ((by rw [hg]; exact Nat.ne_of_lt (blk_lt (g := gb178) (o := .cells #[.int .u8 a0_0, .int .u32 a0_1, .int .u32 a0_2] 25 (0, 0)) (by (with_reducible repeat (first | refine blk_drewN ?_ _ | refine blk_drew ?_ | refine blk_alloc ?_ _)); exact BK178.out)) : gb178 ≠ gb179)); have n6_ := Aside0.mk ((by rw [hg]; exact Nat.ne_of_gt (blk_lt (g := gb178) (o := .cells #[.int .u8 a0_0, .int .u32 a0_1, .int .u32 a0_2] 25 (0, 0)) (by (with_reducible repeat (first | refine blk_drewN ?_ _ | refine blk_drew ?_ | refine blk_alloc ?_ _)); exact BK178.out)) : gb179 ≠ gb178)); clear BK178; clear HB; have BK178 := n0_; have HB := n1_; have BK179 := n2_; have GW179 := n3_; have GE179 := n4_; have NB178_179 := n5_; have NB179_178 := n6_; clear n0_ n1_ n2_ n3_ n4_ n5_ n6_; clear hb hbox hg; have hnb12 := NB178_179.out; have hnc12 := NB179_178.out; have hcz13_0 : w11.cell? ⟨gb178, 0, none⟩ = some (.int .u8 a0_0) := (blk_cell BK178.out 0).trans rfl; have hcz13_1 : w11.cell? ⟨gb178, 1, none⟩ = some (.int .u32 a0_1) := (blk_cell BK178.out 1).trans rfl; have hcz13_2 : w11.cell? ⟨gb178, 2, none⟩ = some (.int .u32 a0_2) := (blk_cell BK178.out 2).trans rfl; have hfz13_0 := blk_frozen BK178.out 0; have hfz13_1 := blk_frozen BK178.out 1; have hfz13_2 := blk_frozen BK178.out 2; have hcz14_0 : w11.cell? ⟨gb179, 0, none⟩ = some (.int .u8 a1_0) := (blk_cell BK179.out 0).trans rfl; have hcz14_1 : w11.cell? ⟨gb179, 1, none⟩ = some (.int .u32 a1_1) := (blk_cell BK179.out 1).trans rfl; have hcz14_2 : w11.cell? ⟨gb179, 2, none⟩ = some (.int .u32 a1_2) := (blk_cell BK179.out 2).trans rfl; have hfz14_0 := blk_frozen BK179.out 0; have hfz14_1 := blk_frozen BK179.out 1; have hfz14_2 := blk_frozen BK179.out 2))
      go_ret
      exact ⟨by first | rfl | (simp [errW_none, errW_some] <;> rfl) | (simp [*, errW_none, errW_some] <;> rfl), by repeat (first | (with_reducible first | exact HB.out | apply below_alloc | apply pw_below_drewN | apply below_drew1 | refine below_set ?_ GE178.out | refine below_set ?_ GE179.out) | exact HB.out)⟩
  · rw [if_neg c3] at H
    have c3b0 : (a0_2 == a1_2) = false := beq_eq_false_iff_ne.mpr c3
    have c3b1 : (a0_2 != a1_2) = true := bne_iff_ne.mpr c3
    obtain rfl := Option.some.inj H
    go_enter Try.func13, Try.ntmps13
    go_wp2_with (first | ((with_reducible refine gate_dst (N := 2) rfl ?_); refine box_event ?hg (N := 2) ?hd (cs := #[.int .u8 a0_0, .int .u32 a0_1, .int .u32 a0_2]) (t := 25) ?hr ?_; (case hd => rfl); (case hg => rfl); (case hr => first | (go_simp; done) | (go_simp; rfl)); intro gb178 hg w15 hbox hb; have n0_ := Aside0.mk (below_step (by repeat (first | (with_reducible first | exact HB.out | apply below_alloc | apply pw_below_drewN | apply below_drew1) | exact HB.out)) hb); have n1_ := Aside0.mk (hbox); have n2_ := Aside0.mk ((by rw [hg]; exact (below_size (by repeat (first | (with_reducible first | exact HB.out | apply below_alloc | apply pw_below_drewN | apply below_drew1) | exact HB.out))) : w.heap.size ≤ gb178)); have n3_ := Aside0.mk ((by rw [hg]; exact (below_size (by repeat (first | (with_reducible first | exact HB.out | apply below_alloc | apply pw_below_drewN | apply below_drew1) | exact HB.out))) : w.heap.size ≤ gb178)); clear HB; have HB := n0_; have BK178 := n1_; have GW178 := n2_; have GE178 := n3_; clear n0_ n1_ n2_ n3_; clear hb hbox hg) | ((with_reducible refine gate_dst (N := 3) rfl ?_); refine box_event ?hg (N := 3) ?hd (cs := #[.int .u8 a1_0, .int .u32 a1_1, .int .u32 a1_2]) (t := 25) ?hr ?_; (case hd => rfl); (case hg => rfl); (case hr => first | (go_simp; done) | (go_simp; rfl)); intro gb179 hg w16 hbox hb; have n0_ := Aside0.mk (blk_below (g := gb178) (o := .cells #[.int .u8 a0_0, .int .u32 a0_1, .int .u32 a0_2] 25 (0, 0)) (by (with_reducible repeat (first | refine blk_drewN ?_ _ | refine blk_drew ?_ | refine blk_alloc ?_ _)); exact BK178.out) hb); have n1_ := Aside0.mk (below_step (by repeat (first | (with_reducible first | exact HB.out | apply below_alloc | apply pw_below_drewN | apply below_drew1 | refine below_set ?_ GE178.out) | exact HB.out)) hb); have n2_ := Aside0.mk (hbox); have n3_ := Aside0.mk ((by rw [hg]; exact (below_size (by repeat (first | (with_reducible first | exact HB.out | apply below_alloc | apply pw_below_drewN | apply below_drew1 | refine below_set ?_ GE178.out) | exact HB.out))) : w.heap.size ≤ gb179)); have n4_ := Aside0.mk ((by rw [hg]; exact (below_size (by repeat (first | (with_reducible first | exact HB.out | apply below_alloc | apply pw_below_drewN | apply below_drew1 | refine below_set ?_ GE178.out) | exact HB.out))) : w.heap.size ≤ gb179)); have n5_ := Aside0.mk ((by rw [hg]; exact Nat.ne_of_lt (blk_lt (g := gb178) (o := .cells #[.int .u8 a0_0, .int .u32 a0_1, .int .u32 a0_2] 25 (0, 0)) (by (with_reducible repeat (first | refine blk_drewN ?_ _ | refine blk_drew ?_ | refine blk_alloc ?_ _)); exact BK178.out)) : gb178 ≠ gb179)); have n6_ := Aside0.mk ((by rw [hg]; exact Nat.ne_of_gt (blk_lt (g := gb178) (o := .cells #[.int .u8 a0_0, .int .u32 a0_1, .int .u32 a0_2] 25 (0, 0)) (by (with_reducible repeat (first | refine blk_drewN ?_ _ | refine blk_drew ?_ | refine blk_alloc ?_ _)); exact BK178.out)) : gb179 ≠ gb178)); clear BK178; clear HB; have BK178 := n0_; have HB := n1_; have BK179 := n2_; have GW179 := n3_; have GE179 := n4_; have NB178_179 := n5_; have NB179_178 := n6_; clear n0_ n1_ n2_ n3_ n4_ n5_ n6_; clear hb hbox hg; have hnb17 := NB178_179.out; have hnc17 := NB179_178.out; have hcz18_0 : w16.cell? ⟨gb178, 0, none⟩ = some (.int .u8 a0_0) := (blk_cell BK178.out 0).trans rfl; have hcz18_1 : w16.cell? ⟨gb178, 1, none⟩ = some (.int .u32 a0_1) := (blk_cell BK178.out 1).trans rfl; have hcz18_2 : w16.cell? ⟨gb178, 2, none⟩ = some (.int .u32 a0_2) := (blk_cell BK178.out 2).trans rfl; have hfz18_0 := blk_frozen BK178.out 0; have hfz18_1 := blk_frozen BK178.out 1; have hfz18_2 := blk_frozen BK178.out 2; have hcz19_0 : w16.cell? ⟨gb179, 0, none⟩ = some (.int .u8 a1_0) := (blk_cell BK179.out 0).trans rfl; have hcz19_1 : w16.cell? ⟨gb179, 1, none⟩ = some (.int .u32 a1_1) := (blk_cell BK179.out 1).trans rfl; have hcz19_2 : w16.cell? ⟨gb179, 2, none⟩ = some (.int .u32 a1_2) := (blk_cell BK179.out 2).trans rfl; have hfz19_0 := blk_frozen BK179.out 0; have hfz19_1 := blk_frozen BK179.out 1; have hfz19_2 := blk_frozen BK179.out 2))
    go_ret
    exact ⟨by first | rfl | (simp [errW_none, errW_some] <;> rfl) | (simp [*, errW_none, errW_some] <;> rfl), by repeat (first | (with_reducible first | exact HB.out | apply below_alloc | apply pw_below_drewN | apply below_drew1 | refine below_set ?_ GE178.out | refine below_set ?_ GE179.out) | exact HB.out)⟩
end Go.Proofs.Ytiminjibcafkaaa.X
