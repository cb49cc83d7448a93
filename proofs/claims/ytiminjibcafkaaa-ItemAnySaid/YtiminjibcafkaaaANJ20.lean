/- Texts that this claim's law comes to, joined by wip/slim.py: X11, Xquiet, X12. -/
import Derived.Test.YtiminjibcafkaaaANX0
import Derived.Test.YtiminjibcafkaaaANX7
import Derived.Test.YtiminjibcafkaaaANXhcommon
import Derived.Deep.QuietTactic
import Derived.BigQuiet
section
-- MADE BY wip/prx.py (the kit's printer, with contracts proved by hand). Not trusted: Lean checks it.
namespace Go.Proofs.Ytiminjibcafkaaa.X
open Go.RowKit Go.Proofs.YtiminjibcafkaaaW.PrintWords Go.Proofs.YtiminjibcafkaaaW.PrintLast Go.Proofs.YtiminjibcafkaaaW.PrintMore
attribute [local go_sem] max2_int min2_int max_two min_two max_three min_three max_four min_four   -- for this text's walks alone
set_option linter.unusedVariables false
set_option linter.unusedSimpArgs false
/-! ### tidingsref02_Find: function 12 -/
def tidingsref02_Find.l0 : Nat → List (S27) → Int → Int → Option (Int × Int × Int × Int × Int × Int × Int × Bool)
  | 0, _, _, _ => none
  | k + 1, x0, x1, x6 => if x6 < (x0.length : Int) then (if 0 ≤ x6 then (if ((rd_T27 x0 x6).f0) = x1 then (some ((rd_T27 x0 x6).f0, (rd_T27 x0 x6).f1.f0, (rd_T27 x0 x6).f1.f1, (rd_T27 x0 x6).f1.f2, (rd_T27 x0 x6).f2, (rd_T27 x0 x6).f3, (rd_T27 x0 x6).f4, true)) else (tidingsref02_Find.l0 k x0 x1 (wrap64 (x6 + 1)))) else (none)) else (some (0, 0, 0, 0, 0, 0, 0, false))
def tidingsref02_Find.f (k : Nat) (l0 : List (S27)) (a1 : Int) : Option (Int × Int × Int × Int × Int × Int × Int × Bool) := tidingsref02_Find.l0 k l0 a1 0
set_option maxHeartbeats 8000000 in
set_option maxRecDepth 100000 in
theorem tidingsref02_Find.calls (k : Nat) (A0 : Option Addr) (c0 : Nat) (l0 : List (S27)) (a1 : Int) (r1 : Int) (r2 : Int) (r3 : Int) (r4 : Int) (r5 : Int) (r6 : Int) (r7 : Int) (r8 : Bool) (w : World) (hr0 : Kd.C k27 w A0 l0.length l0) (hc0 : l0.length ≤ c0) (h : tidingsref02_Find.f k l0 a1 = some (r1, r2, r3, r4, r5, r6, r7, r8)) :
    Calls Try.prog 12 #[.slice A0 l0.length c0, .int .u8 a1] w fun e w' => e = .returned (.tuple #[.agg #[.int .u8 r1, .int .u8 r2, .int .u32 r3, .int .u32 r4, .int .i64 r5, .int .u8 r6, .int .u32 r7], .bool r8]) ∧ Below w.heap.size w w' := by
  have hu27 := Try.underlying27
  have HR0 := Aside0.mk hr0
  have HC0 := Aside0.mk hc0
  clear hr0 hc0
  have HB := Aside0.mk (Below.refl w.heap.size w)
  have H : (tidingsref02_Find.l0 k l0 a1 0) = some (r1, r2, r3, r4, r5, r6, r7, r8) := h
  clear h
  have H' := Aside0.mk H
  clear H
  go_enter Try.func12, Try.ntmps12
  go_wp2_with (first | ((with_reducible refine gate_dst (N := 4) rfl ?_); refine box_event ?hg (N := 4) ?hd (cs := #[.int .u8 0, .int .u8 0, .int .u32 0, .int .u32 0, .int .i64 0, .int .u8 0, .int .u32 0]) (t := 27) ?hr ?_; (case hd => rfl); (case hg => rfl); (case hr => first | (go_simp; done) | (go_simp; rfl)); intro gb204 hg w3 hbox hb; have n0_ := Aside0.mk (below_step (by repeat (first | (with_reducible first | exact HB.out | apply below_alloc | apply pw_below_drewN | apply below_drew1) | exact HB.out)) hb); have n1_ := Aside0.mk (hbox); have n2_ := Aside0.mk ((by rw [hg]; exact (below_size (by repeat (first | (with_reducible first | exact HB.out | apply below_alloc | apply pw_below_drewN | apply below_drew1) | exact HB.out))) : w.heap.size ≤ gb204)); have n3_ := Aside0.mk ((by rw [hg]; exact (below_size (by repeat (first | (with_reducible first | exact HB.out | apply below_alloc | apply pw_below_drewN | apply below_drew1) | exact HB.out))) : w.heap.size ≤ gb204)); clear HB; have HB := n0_; have BK204 := n1_; have GW204 := n2_; have GE204 := n3_; clear n0_ n1_ n2_ n3_; clear hb hbox hg))
  go_loopg [6] k (fun kq v6 w' => ∃ (x6_1 : Int) (x205000_1 : Int) (x205001_1 : Int) (x205002_1 : Int) (x205003_1 : Int) (x205004_1 : Int) (x205005_1 : Int) (x205006_1 : Int), v6 = .int .i64 x6_1 ∧ Aside0 (tidingsref02_Find.l0 kq l0 a1 x6_1 = some (r1, r2, r3, r4, r5, r6, r7, r8)) ∧ Aside0 (kq ≤ k) ∧ Aside0 (w'.heap[gb204]? = some (.cells #[.int .u8 x205000_1, .int .u8 x205001_1, .int .u32 x205002_1, .int .u32 x205003_1, .int .i64 x205004_1, .int .u8 x205005_1, .int .u32 x205006_1] 27 (0, 0))) ∧ Aside0 (Below w.heap.size w w'))
  case atStart => exact ⟨(0), (0), (0), (0), (0), (0), (0), (0), (by first | rfl | (simp; done) | (simp [*]; done)), H', ⟨Nat.le_refl _⟩, ⟨by (with_reducible repeat (first | refine blk_drewN ?_ _ | refine blk_drew ?_ | refine blk_alloc ?_ _)); exact BK204.out⟩, ⟨by repeat (first | (with_reducible first | exact HB.out | apply below_alloc | apply pw_below_drewN | apply below_drew1 | refine below_set ?_ GE204.out) | exact HB.out)⟩⟩
  case round =>
    clear H'
    try clear c1
    try clear p2
    obtain ⟨x6_1, x205000_1, x205001_1, x205002_1, x205003_1, x205004_1, x205005_1, x205006_1, rfl, HA, HK1, BK204, HB⟩ := hrel
    cases gk with
    | zero => exact absurd HA.out (by simp [tidingsref02_Find.l0])
    | succ k1 =>
      have H := HA.out
      clear HA
      simp only [tidingsref02_Find.l0] at H
      by_cases c4 : x6_1 < (l0.length : Int)
      · rw [if_pos c4] at H
        have c4b0 : decide (x6_1 < (l0.length : Int)) = true := decide_eq_true c4
        clear c4
        by_cases c5 : 0 ≤ x6_1
        · rw [if_pos c5] at H
          have c5b0 : decide (0 ≤ x6_1) = true := decide_eq_true c5
          clear c5
          by_cases c6 : ((rd_T27 l0 x6_1).f0) = a1
          · rw [if_pos c6] at H
            have c6b0 : (((rd_T27 l0 x6_1).f0) == a1) = true := beq_iff_eq.mpr c6
            have c6b1 : (((rd_T27 l0 x6_1).f0) != a1) = false := bne_eq_false_iff_eq.mpr c6
            clear c6
            simp only [Option.some.injEq, Prod.mk.injEq] at H
            obtain ⟨rfl, rfl, rfl, rfl, rfl, rfl, rfl, rfl⟩ := H
            have p205 : 0 ≤ (x6_1 : Int) := of_decide_eq_true (by first | (with_reducible assumption) | assumption)
            have q205 : x6_1 < (l0.length : Int) := of_decide_eq_true (by first | (with_reducible assumption) | assumption)
            obtain ⟨ad205, e205, hx205_0, hx205_1, hx205_2, hx205_3, hx205_4, hx205_5, hx205_6⟩ := at_T27 HR0.out x6_1 p205 q205
            cases e205
            replace hx205_0 := (HB.out.cell (World.block_lt_of_cell? w _ hx205_0)).trans hx205_0
            replace hx205_1 := (HB.out.cell (World.block_lt_of_cell? w _ hx205_1)).trans hx205_1
            replace hx205_2 := (HB.out.cell (World.block_lt_of_cell? w _ hx205_2)).trans hx205_2
            replace hx205_3 := (HB.out.cell (World.block_lt_of_cell? w _ hx205_3)).trans hx205_3
            replace hx205_4 := (HB.out.cell (World.block_lt_of_cell? w _ hx205_4)).trans hx205_4
            replace hx205_5 := (HB.out.cell (World.block_lt_of_cell? w _ hx205_5)).trans hx205_5
            replace hx205_6 := (HB.out.cell (World.block_lt_of_cell? w _ hx205_6)).trans hx205_6
            replace p205 := eq_true p205
            replace q205 := eq_true q205
            have p206 : 0 ≤ (x6_1 : Int) := of_decide_eq_true (by first | (with_reducible assumption) | assumption)
            have q206 : x6_1 < (l0.length : Int) := of_decide_eq_true (by first | (with_reducible assumption) | assumption)
            obtain ⟨ad206, e206, hx206_0, hx206_1, hx206_2, hx206_3, hx206_4, hx206_5, hx206_6⟩ := at_T27 HR0.out x6_1 p206 q206
            obtain rfl : ad205 = ad206 := (by injection e206)
            replace hx206_0 := (HB.out.cell (World.block_lt_of_cell? w _ hx206_0)).trans hx206_0
            replace hx206_1 := (HB.out.cell (World.block_lt_of_cell? w _ hx206_1)).trans hx206_1
            replace hx206_2 := (HB.out.cell (World.block_lt_of_cell? w _ hx206_2)).trans hx206_2
            replace hx206_3 := (HB.out.cell (World.block_lt_of_cell? w _ hx206_3)).trans hx206_3
            replace hx206_4 := (HB.out.cell (World.block_lt_of_cell? w _ hx206_4)).trans hx206_4
            replace hx206_5 := (HB.out.cell (World.block_lt_of_cell? w _ hx206_5)).trans hx206_5
            replace hx206_6 := (HB.out.cell (World.block_lt_of_cell? w _ hx206_6)).trans hx206_6
            replace p206 := eq_true p206
            replace q206 := eq_true q206
            have hcz7_0 : wr.cell? ⟨gb204, 0, none⟩ = some (.int .u8 x205000_1) := (blk_cell BK204.out 0).trans rfl
            have hcz7_1 : wr.cell? ⟨gb204, 1, none⟩ = some (.int .u8 x205001_1) := (blk_cell BK204.out 1).trans rfl
            have hcz7_2 : wr.cell? ⟨gb204, 2, none⟩ = some (.int .u32 x205002_1) := (blk_cell BK204.out 2).trans rfl
            have hcz7_3 : wr.cell? ⟨gb204, 3, none⟩ = some (.int .u32 x205003_1) := (blk_cell BK204.out 3).trans rfl
            have hcz7_4 : wr.cell? ⟨gb204, 4, none⟩ = some (.int .i64 x205004_1) := (blk_cell BK204.out 4).trans rfl
            have hcz7_5 : wr.cell? ⟨gb204, 5, none⟩ = some (.int .u8 x205005_1) := (blk_cell BK204.out 5).trans rfl
            have hcz7_6 : wr.cell? ⟨gb204, 6, none⟩ = some (.int .u32 x205006_1) := (blk_cell BK204.out 6).trans rfl
            have hfz7_0 := blk_frozen BK204.out 0
            have hfz7_1 := blk_frozen BK204.out 1
            have hfz7_2 := blk_frozen BK204.out 2
            have hfz7_3 := blk_frozen BK204.out 3
            have hfz7_4 := blk_frozen BK204.out 4
            have hfz7_5 := blk_frozen BK204.out 5
            have hfz7_6 := blk_frozen BK204.out 6
            go_wp2
            refine bodyPost_ret (results_ct rfl _ _ gb204 27 #[.int .u8 ((rd_T27 l0 x6_1).f0), .int .u8 ((rd_T27 l0 x6_1).f1.f0), .int .u32 ((rd_T27 l0 x6_1).f1.f1), .int .u32 ((rd_T27 l0 x6_1).f1.f2), .int .i64 ((rd_T27 l0 x6_1).f2), .int .u8 ((rd_T27 l0 x6_1).f3), .int .u32 ((rd_T27 l0 x6_1).f4)] (0, 0) _ rfl (by (with_reducible repeat (first | refine blk_drewN ?_ _ | refine blk_drew ?_ | refine blk_alloc ?_ _)); refine blk_put (cs := #[.int .u8 ((rd_T27 l0 x6_1).f0), .int .u8 ((rd_T27 l0 x6_1).f1.f0), .int .u32 ((rd_T27 l0 x6_1).f1.f1), .int .u32 ((rd_T27 l0 x6_1).f1.f2), .int .i64 ((rd_T27 l0 x6_1).f2), .int .u8 ((rd_T27 l0 x6_1).f3), .int .u32 x205006_1]) ?_ 6 _ rfl; (with_reducible repeat (first | refine blk_drewN ?_ _ | refine blk_drew ?_ | refine blk_alloc ?_ _)); refine blk_put (cs := #[.int .u8 ((rd_T27 l0 x6_1).f0), .int .u8 ((rd_T27 l0 x6_1).f1.f0), .int .u32 ((rd_T27 l0 x6_1).f1.f1), .int .u32 ((rd_T27 l0 x6_1).f1.f2), .int .i64 ((rd_T27 l0 x6_1).f2), .int .u8 x205005_1, .int .u32 x205006_1]) ?_ 5 _ rfl; (with_reducible repeat (first | refine blk_drewN ?_ _ | refine blk_drew ?_ | refine blk_alloc ?_ _)); refine blk_put (cs := #[.int .u8 ((rd_T27 l0 x6_1).f0), .int .u8 ((rd_T27 l0 x6_1).f1.f0), .int .u32 ((rd_T27 l0 x6_1).f1.f1), .int .u32 ((rd_T27 l0 x6_1).f1.f2), .int .i64 x205004_1, .int .u8 x205005_1, .int .u32 x205006_1]) ?_ 4 _ rfl; (with_reducible repeat (first | refine blk_drewN ?_ _ | refine blk_drew ?_ | refine blk_alloc ?_ _)); refine blk_put (cs := #[.int .u8 ((rd_T27 l0 x6_1).f0), .int .u8 ((rd_T27 l0 x6_1).f1.f0), .int .u32 ((rd_T27 l0 x6_1).f1.f1), .int .u32 x205003_1, .int .i64 x205004_1, .int .u8 x205005_1, .int .u32 x205006_1]) ?_ 3 _ rfl; (with_reducible repeat (first | refine blk_drewN ?_ _ | refine blk_drew ?_ | refine blk_alloc ?_ _)); refine blk_put (cs := #[.int .u8 ((rd_T27 l0 x6_1).f0), .int .u8 ((rd_T27 l0 x6_1).f1.f0), .int .u32 x205002_1, .int .u32 x205003_1, .int .i64 x205004_1, .int .u8 x205005_1, .int .u32 x205006_1]) ?_ 2 _ rfl; (with_reducible repeat (first | refine blk_drewN ?_ _ | refine blk_drew ?_ | refine blk_alloc ?_ _)); refine blk_put (cs := #[.int .u8 ((rd_T27 l0 x6_1).f0), .int .u8 x205001_1, .int .u32 x205002_1, .int .u32 x205003_1, .int .i64 x205004_1, .int .u8 x205005_1, .int .u32 x205006_1]) ?_ 1 _ rfl; (with_reducible repeat (first | refine blk_drewN ?_ _ | refine blk_drew ?_ | refine blk_alloc ?_ _)); refine blk_put (cs := #[.int .u8 x205000_1, .int .u8 x205001_1, .int .u32 x205002_1, .int .u32 x205003_1, .int .i64 x205004_1, .int .u8 x205005_1, .int .u32 x205006_1]) ?_ 0 _ rfl; (with_reducible repeat (first | refine blk_drewN ?_ _ | refine blk_drew ?_ | refine blk_alloc ?_ _)); exact BK204.out) Try.underlying27 rfl (by kernel_rfl)) rfl ?_
            exact ⟨by first | rfl | (simp [errW_none, errW_some] <;> rfl) | (simp [*, errW_none, errW_some] <;> rfl), by repeat (first | (with_reducible first | exact HB.out | apply below_alloc | apply pw_below_drewN | apply below_drew1 | refine below_set ?_ GE204.out) | exact HB.out)⟩
          · rw [if_neg c6] at H
            have c6b0 : (((rd_T27 l0 x6_1).f0) == a1) = false := beq_eq_false_iff_ne.mpr c6
            have c6b1 : (((rd_T27 l0 x6_1).f0) != a1) = true := bne_iff_ne.mpr c6
            have H' := Aside0.mk H
            clear H
            have p205 : 0 ≤ (x6_1 : Int) := of_decide_eq_true (by first | (with_reducible assumption) | assumption)
            have q205 : x6_1 < (l0.length : Int) := of_decide_eq_true (by first | (with_reducible assumption) | assumption)
            obtain ⟨ad205, e205, hx205_0, hx205_1, hx205_2, hx205_3, hx205_4, hx205_5, hx205_6⟩ := at_T27 HR0.out x6_1 p205 q205
            cases e205
            replace hx205_0 := (HB.out.cell (World.block_lt_of_cell? w _ hx205_0)).trans hx205_0
            replace hx205_1 := (HB.out.cell (World.block_lt_of_cell? w _ hx205_1)).trans hx205_1
            replace hx205_2 := (HB.out.cell (World.block_lt_of_cell? w _ hx205_2)).trans hx205_2
            replace hx205_3 := (HB.out.cell (World.block_lt_of_cell? w _ hx205_3)).trans hx205_3
            replace hx205_4 := (HB.out.cell (World.block_lt_of_cell? w _ hx205_4)).trans hx205_4
            replace hx205_5 := (HB.out.cell (World.block_lt_of_cell? w _ hx205_5)).trans hx205_5
            replace hx205_6 := (HB.out.cell (World.block_lt_of_cell? w _ hx205_6)).trans hx205_6
            replace p205 := eq_true p205
            replace q205 := eq_true q205
            go_wp2
            go_roundg k1
            case measure => have := HK1.out; omega
            case rel => exact ⟨(wrap64 (x6_1 + 1)), (x205000_1), (x205001_1), (x205002_1), (x205003_1), (x205004_1), (x205005_1), (x205006_1), (by first | rfl | (simp; done) | (simp [*]; done)), H', ⟨by have := HK1.out; omega⟩, ⟨by (with_reducible repeat (first | refine blk_drewN ?_ _ | refine blk_drew ?_ | refine blk_alloc ?_ _)); exact BK204.out⟩, ⟨by repeat (first | (with_reducible first | exact HB.out | apply below_alloc | apply pw_below_drewN | apply below_drew1 | refine below_set ?_ GE204.out) | exact HB.out)⟩⟩
        · rw [if_neg c5] at H
          exact absurd H (by simp)
      · rw [if_neg c4] at H
        have c4b0 : decide (x6_1 < (l0.length : Int)) = false := decide_eq_false c4
        clear c4
        simp only [Option.some.injEq, Prod.mk.injEq] at H
        obtain ⟨rfl, rfl, rfl, rfl, rfl, rfl, rfl, rfl⟩ := H
        have hcz8_0 : wr.cell? ⟨gb204, 0, none⟩ = some (.int .u8 x205000_1) := (blk_cell BK204.out 0).trans rfl
        have hcz8_1 : wr.cell? ⟨gb204, 1, none⟩ = some (.int .u8 x205001_1) := (blk_cell BK204.out 1).trans rfl
        have hcz8_2 : wr.cell? ⟨gb204, 2, none⟩ = some (.int .u32 x205002_1) := (blk_cell BK204.out 2).trans rfl
        have hcz8_3 : wr.cell? ⟨gb204, 3, none⟩ = some (.int .u32 x205003_1) := (blk_cell BK204.out 3).trans rfl
        have hcz8_4 : wr.cell? ⟨gb204, 4, none⟩ = some (.int .i64 x205004_1) := (blk_cell BK204.out 4).trans rfl
        have hcz8_5 : wr.cell? ⟨gb204, 5, none⟩ = some (.int .u8 x205005_1) := (blk_cell BK204.out 5).trans rfl
        have hcz8_6 : wr.cell? ⟨gb204, 6, none⟩ = some (.int .u32 x205006_1) := (blk_cell BK204.out 6).trans rfl
        have hfz8_0 := blk_frozen BK204.out 0
        have hfz8_1 := blk_frozen BK204.out 1
        have hfz8_2 := blk_frozen BK204.out 2
        have hfz8_3 := blk_frozen BK204.out 3
        have hfz8_4 := blk_frozen BK204.out 4
        have hfz8_5 := blk_frozen BK204.out 5
        have hfz8_6 := blk_frozen BK204.out 6
        go_wp2
        refine bodyPost_ret (results_ct rfl _ _ gb204 27 #[.int .u8 0, .int .u8 0, .int .u32 0, .int .u32 0, .int .i64 0, .int .u8 0, .int .u32 0] (0, 0) _ rfl (by (with_reducible repeat (first | refine blk_drewN ?_ _ | refine blk_drew ?_ | refine blk_alloc ?_ _)); refine blk_put (cs := #[.int .u8 0, .int .u8 0, .int .u32 0, .int .u32 0, .int .i64 0, .int .u8 0, .int .u32 x205006_1]) ?_ 6 _ rfl; (with_reducible repeat (first | refine blk_drewN ?_ _ | refine blk_drew ?_ | refine blk_alloc ?_ _)); refine blk_put (cs := #[.int .u8 0, .int .u8 0, .int .u32 0, .int .u32 0, .int .i64 0, .int .u8 x205005_1, .int .u32 x205006_1]) ?_ 5 _ rfl; (with_reducible repeat (first | refine blk_drewN ?_ _ | refine blk_drew ?_ | refine blk_alloc ?_ _)); refine blk_put (cs := #[.int .u8 0, .int .u8 0, .int .u32 0, .int .u32 0, .int .i64 x205004_1, .int .u8 x205005_1, .int .u32 x205006_1]) ?_ 4 _ rfl; (with_reducible repeat (first | refine blk_drewN ?_ _ | refine blk_drew ?_ | refine blk_alloc ?_ _)); refine blk_put (cs := #[.int .u8 0, .int .u8 0, .int .u32 0, .int .u32 x205003_1, .int .i64 x205004_1, .int .u8 x205005_1, .int .u32 x205006_1]) ?_ 3 _ rfl; (with_reducible repeat (first | refine blk_drewN ?_ _ | refine blk_drew ?_ | refine blk_alloc ?_ _)); refine blk_put (cs := #[.int .u8 0, .int .u8 0, .int .u32 x205002_1, .int .u32 x205003_1, .int .i64 x205004_1, .int .u8 x205005_1, .int .u32 x205006_1]) ?_ 2 _ rfl; (with_reducible repeat (first | refine blk_drewN ?_ _ | refine blk_drew ?_ | refine blk_alloc ?_ _)); refine blk_put (cs := #[.int .u8 0, .int .u8 x205001_1, .int .u32 x205002_1, .int .u32 x205003_1, .int .i64 x205004_1, .int .u8 x205005_1, .int .u32 x205006_1]) ?_ 1 _ rfl; (with_reducible repeat (first | refine blk_drewN ?_ _ | refine blk_drew ?_ | refine blk_alloc ?_ _)); refine blk_put (cs := #[.int .u8 x205000_1, .int .u8 x205001_1, .int .u32 x205002_1, .int .u32 x205003_1, .int .i64 x205004_1, .int .u8 x205005_1, .int .u32 x205006_1]) ?_ 0 _ rfl; (with_reducible repeat (first | refine blk_drewN ?_ _ | refine blk_drew ?_ | refine blk_alloc ?_ _)); exact BK204.out) Try.underlying27 rfl (by kernel_rfl)) rfl ?_
        exact ⟨by first | rfl | (simp [errW_none, errW_some] <;> rfl) | (simp [*, errW_none, errW_some] <;> rfl), by repeat (first | (with_reducible first | exact HB.out | apply below_alloc | apply pw_below_drewN | apply below_drew1 | refine below_set ?_ GE204.out) | exact HB.out)⟩
/-! ### tidingsref02_Cmp: function 17 -/
/-! ### tidingsref02_Fade: function 20 -/
end Go.Proofs.Ytiminjibcafkaaa.X
end
section
/- Regions that draw their order, walked once in the text's order, in the class of worlds that leave what was: words for such walks. -/
namespace Go.Proofs.Ytiminjibcafkaaa.X
open Go.RowKit Go.Proofs.YtiminjibcafkaaaW.PrintWords Go.Proofs.YtiminjibcafkaaaW.PrintLast Go.Proofs.YtiminjibcafkaaaW.PrintMore
set_option linter.unusedVariables false
/-- The worlds that leave what was below block B. -/
def Qc (B : Nat) (w0 : World) (w : World) : Prop := Below B w0 w
theorem region_qc {P : Program} {id : Nat} {Q : Exit → Act → World → Prop} {a : Act} {w : World} {l : List Oper} (hm : P.follows .mixedOrders = true) (hB : Region.lexB .any l.toArray = true)
    (h : wpQuiet P l.toArray (Qc w.heap.size w) (fun a' => ∀ w', Below w.heap.size w w' → Q .normal a' w') l a) : (Code.region id l.toArray true).wp P Q a w :=
  wp_region_quiet (C := Qc w.heap.size w) hm hB (by
    have h1 : ({ w with drawn := w.drawn + 1 } : World) = w.drewN 1 := rfl
    show Below w.heap.size w _
    rw [h1]
    exact pw_below_drewN (Below.refl _ _) 1) (by simpa [Qc] using h)
theorem Qc.out {B : Nat} {w0 w : World} (h : Qc B w0 w) : Below B w0 w := h
theorem Qc.cell {B : Nat} {w0 w : World} (h : Qc B w0 w) {b o : Nat} (hb : b < B) {v : Value} (hv : w0.cell? ⟨b, o, none⟩ = some v) : w.cell? ⟨b, o, none⟩ = some v := (Below.cell (p := ⟨b, o, none⟩) h hb).trans hv
end Go.Proofs.Ytiminjibcafkaaa.X
end
section
-- MADE BY wip/prx.py (the kit's printer, with contracts proved by hand). Not trusted: Lean checks it.
namespace Go.Proofs.Ytiminjibcafkaaa.X
open Go.RowKit Go.Proofs.YtiminjibcafkaaaW.PrintWords Go.Proofs.YtiminjibcafkaaaW.PrintLast Go.Proofs.YtiminjibcafkaaaW.PrintMore
attribute [local go_sem] max2_int min2_int max_two min_two max_three min_three max_four min_four   -- for this text's walks alone
set_option linter.unusedVariables false
set_option linter.unusedSimpArgs false
/-! ### tidingsref02_In: function 23 -/
-- NOT PRINTED: function 5 (tidingslaw02_ItemTells)
/-! ### know_run: function 55 -/
/-! ### know_apart: function 59 -/
end Go.Proofs.Ytiminjibcafkaaa.X
end
