-- MADE BY wip/prx.py (the kit's printer, with contracts proved by hand). Not trusted: Lean checks it.
import Derived.Test.YtiminjibcafkaaaITX0
namespace Go.Proofs.Ytiminjibcafkaaa.X
open Go.RowKit Go.Proofs.YtiminjibcafkaaaW.PrintWords Go.Proofs.YtiminjibcafkaaaW.PrintLast Go.Proofs.YtiminjibcafkaaaW.PrintMore
attribute [local go_sem] max2_int min2_int max_two min_two max_three min_three max_four min_four   -- for this text's walks alone
set_option linter.unusedVariables false
set_option linter.unusedSimpArgs false
/-! ### tidingsref02_In: function 23 -/
def tidingsref02_In.l0 : Nat → Int → Int → Int → Int → Int → Int → Int → Int → Int → Option (Bool)
  | 0, _, _, _, _, _, _, _, _, _ => none
  | k + 1, x5, x6, x214000, x214001, x214002, x214003, x214004, x214005, x214006 => if x6 < (wrap64 (x214005)) then (tidingsref02_In.l0 k (wrap64 (Int.tdiv x5 2)) (wrap64 (x6 + 1)) x214000 x214001 x214002 x214003 x214004 x214005 x214006) else (some ((Int.tmod x5 2) == 1))
def tidingsref02_In.f (k : Nat) (a0_0 : Int) (a0_1 : Int) (a0_2 : Int) (a0_3 : Int) (a0_4 : Int) (a0_5 : Int) (a0_6 : Int) (a1 : Int) : Option (Bool) := if a0_4 = 3 then (some true) else (tidingsref02_In.l0 k (wrap64 (a1)) 0 a0_0 a0_1 a0_2 a0_3 a0_4 a0_5 a0_6)
set_option maxHeartbeats 8000000 in
set_option maxRecDepth 100000 in
theorem tidingsref02_In.calls (k : Nat) (a0_0 : Int) (a0_1 : Int) (a0_2 : Int) (a0_3 : Int) (a0_4 : Int) (a0_5 : Int) (a0_6 : Int) (a1 : Int) (r : Bool) (w : World) (h : tidingsref02_In.f k a0_0 a0_1 a0_2 a0_3 a0_4 a0_5 a0_6 a1 = some r) :
    Calls Try.prog 23 #[.agg #[.int .u8 a0_0, .int .u8 a0_1, .int .u32 a0_2, .int .u32 a0_3, .int .i64 a0_4, .int .u8 a0_5, .int .u32 a0_6], .int .u8 a1] w fun e w' => e = .returned (.bool r) ∧ Below w.heap.size w w' := by
  have hu27 := Try.underlying27
  have HB := Aside0.mk (Below.refl w.heap.size w)
  have H : (if a0_4 = 3 then (some true) else (tidingsref02_In.l0 k (wrap64 (a1)) 0 a0_0 a0_1 a0_2 a0_3 a0_4 a0_5 a0_6)) = some r := h
  clear h
  by_cases c3 : a0_4 = 3
  · rw [if_pos c3] at H
    have c3b0 : (a0_4 == 3) = true := beq_iff_eq.mpr c3
    have c3b1 : (a0_4 != 3) = false := bne_eq_false_iff_eq.mpr c3
    clear c3
    obtain rfl := Option.some.inj H
    go_enter Try.func23, Try.ntmps23
    go_wp2_with (first | ((with_reducible refine gate_dst (N := 2) rfl ?_); refine box_event ?hg (N := 2) ?hd (cs := #[.int .u8 a0_0, .int .u8 a0_1, .int .u32 a0_2, .int .u32 a0_3, .int .i64 a0_4, .int .u8 a0_5, .int .u32 a0_6]) (t := 27) ?hr ?_; (case hd => rfl); (case hg => rfl); (case hr => first | (go_simp; done) | (go_simp; rfl)); intro gb213 hg w4 hbox hb; have n0_ := Aside0.mk (below_step (by repeat (first | (with_reducible first | exact HB.out | apply below_alloc | apply pw_below_drewN | apply below_drew1) | exact HB.out)) hb); have n1_ := Aside0.mk (hbox); have n2_ := Aside0.mk ((by rw [hg]; exact (below_size (by repeat (first | (with_reducible first | exact HB.out | apply below_alloc | apply pw_below_drewN | apply below_drew1) | exact HB.out))) : w.heap.size ≤ gb213)); have n3_ := Aside0.mk ((by rw [hg]; exact (below_size (by repeat (first | (with_reducible first | exact HB.out | apply below_alloc | apply pw_below_drewN | apply below_drew1) | exact HB.out))) : w.heap.size ≤ gb213)); clear HB; have HB := n0_; have BK213 := n1_; have GW213 := n2_; have GE213 := n3_; clear n0_ n1_ n2_ n3_; clear hb hbox hg; have hcz5_0 : w4.cell? ⟨gb213, 0, none⟩ = some (.int .u8 a0_0) := (blk_cell BK213.out 0).trans rfl; have hcz5_1 : w4.cell? ⟨gb213, 1, none⟩ = some (.int .u8 a0_1) := (blk_cell BK213.out 1).trans rfl; have hcz5_2 : w4.cell? ⟨gb213, 2, none⟩ = some (.int .u32 a0_2) := (blk_cell BK213.out 2).trans rfl; have hcz5_3 : w4.cell? ⟨gb213, 3, none⟩ = some (.int .u32 a0_3) := (blk_cell BK213.out 3).trans rfl; have hcz5_4 : w4.cell? ⟨gb213, 4, none⟩ = some (.int .i64 a0_4) := (blk_cell BK213.out 4).trans rfl; have hcz5_5 : w4.cell? ⟨gb213, 5, none⟩ = some (.int .u8 a0_5) := (blk_cell BK213.out 5).trans rfl; have hcz5_6 : w4.cell? ⟨gb213, 6, none⟩ = some (.int .u32 a0_6) := (blk_cell BK213.out 6).trans rfl; have hfz5_0 := blk_frozen BK213.out 0; have hfz5_1 := blk_frozen BK213.out 1; have hfz5_2 := blk_frozen BK213.out 2; have hfz5_3 := blk_frozen BK213.out 3; have hfz5_4 := blk_frozen BK213.out 4; have hfz5_5 := blk_frozen BK213.out 5; have hfz5_6 := blk_frozen BK213.out 6))
    go_ret
    exact ⟨by first | rfl | (simp [errW_none, errW_some] <;> rfl) | (simp [*, errW_none, errW_some] <;> rfl), by repeat (first | (with_reducible first | exact HB.out | apply below_alloc | apply pw_below_drewN | apply below_drew1 | refine below_set ?_ GE213.out) | exact HB.out)⟩
  · rw [if_neg c3] at H
    have c3b0 : (a0_4 == 3) = false := beq_eq_false_iff_ne.mpr c3
    have c3b1 : (a0_4 != 3) = true := bne_iff_ne.mpr c3
    have H' := Aside0.mk H
    clear H
    go_enter Try.func23, Try.ntmps23
    go_wp2_with (first | ((with_reducible refine gate_dst (N := 2) rfl ?_); refine box_event ?hg (N := 2) ?hd (cs := #[.int .u8 a0_0, .int .u8 a0_1, .int .u32 a0_2, .int .u32 a0_3, .int .i64 a0_4, .int .u8 a0_5, .int .u32 a0_6]) (t := 27) ?hr ?_; (case hd => rfl); (case hg => rfl); (case hr => first | (go_simp; done) | (go_simp; rfl)); intro gb213 hg w6 hbox hb; have n0_ := Aside0.mk (below_step (by repeat (first | (with_reducible first | exact HB.out | apply below_alloc | apply pw_below_drewN | apply below_drew1) | exact HB.out)) hb); have n1_ := Aside0.mk (hbox); have n2_ := Aside0.mk ((by rw [hg]; exact (below_size (by repeat (first | (with_reducible first | exact HB.out | apply below_alloc | apply pw_below_drewN | apply below_drew1) | exact HB.out))) : w.heap.size ≤ gb213)); have n3_ := Aside0.mk ((by rw [hg]; exact (below_size (by repeat (first | (with_reducible first | exact HB.out | apply below_alloc | apply pw_below_drewN | apply below_drew1) | exact HB.out))) : w.heap.size ≤ gb213)); clear HB; have HB := n0_; have BK213 := n1_; have GW213 := n2_; have GE213 := n3_; clear n0_ n1_ n2_ n3_; clear hb hbox hg; have hcz7_0 : w6.cell? ⟨gb213, 0, none⟩ = some (.int .u8 a0_0) := (blk_cell BK213.out 0).trans rfl; have hcz7_1 : w6.cell? ⟨gb213, 1, none⟩ = some (.int .u8 a0_1) := (blk_cell BK213.out 1).trans rfl; have hcz7_2 : w6.cell? ⟨gb213, 2, none⟩ = some (.int .u32 a0_2) := (blk_cell BK213.out 2).trans rfl; have hcz7_3 : w6.cell? ⟨gb213, 3, none⟩ = some (.int .u32 a0_3) := (blk_cell BK213.out 3).trans rfl; have hcz7_4 : w6.cell? ⟨gb213, 4, none⟩ = some (.int .i64 a0_4) := (blk_cell BK213.out 4).trans rfl; have hcz7_5 : w6.cell? ⟨gb213, 5, none⟩ = some (.int .u8 a0_5) := (blk_cell BK213.out 5).trans rfl; have hcz7_6 : w6.cell? ⟨gb213, 6, none⟩ = some (.int .u32 a0_6) := (blk_cell BK213.out 6).trans rfl; have hfz7_0 := blk_frozen BK213.out 0; have hfz7_1 := blk_frozen BK213.out 1; have hfz7_2 := blk_frozen BK213.out 2; have hfz7_3 := blk_frozen BK213.out 3; have hfz7_4 := blk_frozen BK213.out 4; have hfz7_5 := blk_frozen BK213.out 5; have hfz7_6 := blk_frozen BK213.out 6))
    go_loopg [5, 6] k (fun kq v5 v6 w' => ∃ (x5_1 : Int) (x6_1 : Int), v5 = .int .i64 x5_1 ∧ v6 = .int .i64 x6_1 ∧ Aside0 (tidingsref02_In.l0 kq x5_1 x6_1 a0_0 a0_1 a0_2 a0_3 a0_4 a0_5 a0_6 = some r) ∧ Aside0 (kq ≤ k) ∧ Aside0 (w'.heap[gb213]? = some (.cells #[.int .u8 a0_0, .int .u8 a0_1, .int .u32 a0_2, .int .u32 a0_3, .int .i64 a0_4, .int .u8 a0_5, .int .u32 a0_6] 27 (0, 0))) ∧ Aside0 (Below w.heap.size w w'))
    case atStart => exact ⟨(wrap64 (a1)), (0), (by first | rfl | (simp; done) | (simp [*]; done)), (by first | rfl | (simp; done) | (simp [*]; done)), H', ⟨Nat.le_refl _⟩, ⟨by (with_reducible repeat (first | refine blk_drewN ?_ _ | refine blk_drew ?_ | refine blk_alloc ?_ _)); exact BK213.out⟩, ⟨by repeat (first | (with_reducible first | exact HB.out | apply below_alloc | apply pw_below_drewN | apply below_drew1 | refine below_set ?_ GE213.out) | exact HB.out)⟩⟩
    case round =>
      clear H'
      try clear c2
      try clear p2
      try clear c3
      try clear c3b0
      try clear c3b1
      try clear p6
      try clear hcz5_0
      try clear hcz5_1
      try clear hcz5_2
      try clear hcz5_3
      try clear hcz5_4
      try clear hcz5_5
      try clear hcz5_6
      try clear hcz7_0
      try clear hcz7_1
      try clear hcz7_2
      try clear hcz7_3
      try clear hcz7_4
      try clear hcz7_5
      try clear hcz7_6
      try clear hfz5_0
      try clear hfz5_1
      try clear hfz5_2
      try clear hfz5_3
      try clear hfz5_4
      try clear hfz5_5
      try clear hfz5_6
      try clear hfz7_0
      try clear hfz7_1
      try clear hfz7_2
      try clear hfz7_3
      try clear hfz7_4
      try clear hfz7_5
      try clear hfz7_6
      obtain ⟨x5_1, x6_1, rfl, rfl, HA, HK1, BK213, HB⟩ := hrel
      cases gk with
      | zero => exact absurd HA.out (by simp [tidingsref02_In.l0])
      | succ k1 =>
        have H := HA.out
        clear HA
        simp only [tidingsref02_In.l0] at H
        by_cases c8 : x6_1 < (wrap64 (a0_5))
        · rw [if_pos c8] at H
          have c8b0 : decide (x6_1 < (wrap64 (a0_5))) = true := decide_eq_true c8
          clear c8
          have H' := Aside0.mk H
          clear H
          have hcz9_0 : wr.cell? ⟨gb213, 0, none⟩ = some (.int .u8 a0_0) := (blk_cell BK213.out 0).trans rfl
          have hcz9_1 : wr.cell? ⟨gb213, 1, none⟩ = some (.int .u8 a0_1) := (blk_cell BK213.out 1).trans rfl
          have hcz9_2 : wr.cell? ⟨gb213, 2, none⟩ = some (.int .u32 a0_2) := (blk_cell BK213.out 2).trans rfl
          have hcz9_3 : wr.cell? ⟨gb213, 3, none⟩ = some (.int .u32 a0_3) := (blk_cell BK213.out 3).trans rfl
          have hcz9_4 : wr.cell? ⟨gb213, 4, none⟩ = some (.int .i64 a0_4) := (blk_cell BK213.out 4).trans rfl
          have hcz9_5 : wr.cell? ⟨gb213, 5, none⟩ = some (.int .u8 a0_5) := (blk_cell BK213.out 5).trans rfl
          have hcz9_6 : wr.cell? ⟨gb213, 6, none⟩ = some (.int .u32 a0_6) := (blk_cell BK213.out 6).trans rfl
          have hfz9_0 := blk_frozen BK213.out 0
          have hfz9_1 := blk_frozen BK213.out 1
          have hfz9_2 := blk_frozen BK213.out 2
          have hfz9_3 := blk_frozen BK213.out 3
          have hfz9_4 := blk_frozen BK213.out 4
          have hfz9_5 := blk_frozen BK213.out 5
          have hfz9_6 := blk_frozen BK213.out 6
          go_wp2
          go_roundg k1
          case measure => have := HK1.out; omega
          case rel => exact ⟨(wrap64 (Int.tdiv x5_1 2)), (wrap64 (x6_1 + 1)), (by first | rfl | (simp; done) | (simp [*]; done)), (by first | rfl | (simp; done) | (simp [*]; done)), H', ⟨by have := HK1.out; omega⟩, ⟨by (with_reducible repeat (first | refine blk_drewN ?_ _ | refine blk_drew ?_ | refine blk_alloc ?_ _)); exact BK213.out⟩, ⟨by repeat (first | (with_reducible first | exact HB.out | apply below_alloc | apply pw_below_drewN | apply below_drew1 | refine below_set ?_ GE213.out) | exact HB.out)⟩⟩
        · rw [if_neg c8] at H
          have c8b0 : decide (x6_1 < (wrap64 (a0_5))) = false := decide_eq_false c8
          clear c8
          obtain rfl := Option.some.inj H
          have hcz10_0 : wr.cell? ⟨gb213, 0, none⟩ = some (.int .u8 a0_0) := (blk_cell BK213.out 0).trans rfl
          have hcz10_1 : wr.cell? ⟨gb213, 1, none⟩ = some (.int .u8 a0_1) := (blk_cell BK213.out 1).trans rfl
          have hcz10_2 : wr.cell? ⟨gb213, 2, none⟩ = some (.int .u32 a0_2) := (blk_cell BK213.out 2).trans rfl
          have hcz10_3 : wr.cell? ⟨gb213, 3, none⟩ = some (.int .u32 a0_3) := (blk_cell BK213.out 3).trans rfl
          have hcz10_4 : wr.cell? ⟨gb213, 4, none⟩ = some (.int .i64 a0_4) := (blk_cell BK213.out 4).trans rfl
          have hcz10_5 : wr.cell? ⟨gb213, 5, none⟩ = some (.int .u8 a0_5) := (blk_cell BK213.out 5).trans rfl
          have hcz10_6 : wr.cell? ⟨gb213, 6, none⟩ = some (.int .u32 a0_6) := (blk_cell BK213.out 6).trans rfl
          have hfz10_0 := blk_frozen BK213.out 0
          have hfz10_1 := blk_frozen BK213.out 1
          have hfz10_2 := blk_frozen BK213.out 2
          have hfz10_3 := blk_frozen BK213.out 3
          have hfz10_4 := blk_frozen BK213.out 4
          have hfz10_5 := blk_frozen BK213.out 5
          have hfz10_6 := blk_frozen BK213.out 6
          go_wp2
          go_ret
          exact ⟨by first | rfl | (simp [errW_none, errW_some] <;> rfl) | (simp [*, errW_none, errW_some] <;> rfl), by repeat (first | (with_reducible first | exact HB.out | apply below_alloc | apply pw_below_drewN | apply below_drew1 | refine below_set ?_ GE213.out) | exact HB.out)⟩
-- NOT PRINTED: function 5 (tidingslaw02_ItemTells)
/-! ### know_run: function 55 -/
/-! ### know_apart: function 59 -/
end Go.Proofs.Ytiminjibcafkaaa.X
