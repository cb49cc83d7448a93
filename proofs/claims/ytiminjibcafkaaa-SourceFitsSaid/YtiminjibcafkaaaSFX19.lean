-- MADE BY wip/prx.py (the kit's printer, with contracts proved by hand). Not trusted: Lean checks it.
import Derived.Test.YtiminjibcafkaaaSFX0
import Derived.Test.YtiminjibcafkaaaSFX13
import Derived.Test.YtiminjibcafkaaaSFX17
import Derived.Test.YtiminjibcafkaaaSFX18
namespace Go.Proofs.Ytiminjibcafkaaa.X
open Go.RowKit Go.Proofs.YtiminjibcafkaaaW.PrintWords Go.Proofs.YtiminjibcafkaaaW.PrintLast Go.Proofs.YtiminjibcafkaaaW.PrintMore
attribute [local go_sem] max2_int min2_int max_two min_two max_three min_three max_four min_four   -- for this text's walks alone
set_option linter.unusedVariables false
set_option linter.unusedSimpArgs false
/-! ### note_Right: function 29 -/
def note_Right.j0 : Nat → Bool → Int → Int → Int → Int → Int → Int → List (S78) → Int → List (S27) → Int → Bool → List (S78) → Option (Bool)
  | 0, _, _, _, _, _, _, _, _, _, _, _, _, _ => none
  | k + 1, x27, x361000, x361001, x361002, x361003, x361004, x361005, x361006, x361007, x361008, x361009, x361010, x361011 => if x27 = true then (some false) else (if x361000 = 1 then ((note_pull.f k x361000 x361001 x361002 x361003 x361004 x361005 x361006 x361007 x361008 x361009 x361010 x361011).bind fun t361 => (if t361 = true then (some true) else (if x361000 = 2 then ((note_batch.f k x361000 x361001 x361002 x361003 x361004 x361005 x361006 x361007 x361008 x361009 x361010 x361011).bind fun t362 => (some t362)) else (some false)))) else (if x361000 = 2 then ((note_batch.f k x361000 x361001 x361002 x361003 x361004 x361005 x361006 x361007 x361008 x361009 x361010 x361011).bind fun t363 => (some t363)) else (some false)))
def note_Right.f (k : Nat) (a0_0 : Int) (a0_1 : Int) (a0_2 : Int) (a0_3 : Int) (a0_4 : Int) (a0_5 : Int) (l0_6 : List (S78)) (a0_7 : Int) (l0_8 : List (S27)) (a0_9 : Int) (a0_10 : Bool) (l0_11 : List (S78)) : Option (Bool) := if a0_1 ≥ 8 then (note_Right.j0 k true a0_0 a0_1 a0_2 a0_3 a0_4 a0_5 l0_6 a0_7 l0_8 a0_9 a0_10 l0_11) else (if a0_2 ≥ 8 then (note_Right.j0 k true a0_0 a0_1 a0_2 a0_3 a0_4 a0_5 l0_6 a0_7 l0_8 a0_9 a0_10 l0_11) else (if a0_1 = a0_2 then (note_Right.j0 k true a0_0 a0_1 a0_2 a0_3 a0_4 a0_5 l0_6 a0_7 l0_8 a0_9 a0_10 l0_11) else (if a0_3 = 0 then (note_Right.j0 k true a0_0 a0_1 a0_2 a0_3 a0_4 a0_5 l0_6 a0_7 l0_8 a0_9 a0_10 l0_11) else (note_Right.j0 k (decide (a0_4 ≥ 64)) a0_0 a0_1 a0_2 a0_3 a0_4 a0_5 l0_6 a0_7 l0_8 a0_9 a0_10 l0_11))))
set_option maxHeartbeats 8000000 in
set_option maxRecDepth 100000 in
theorem note_Right.calls (k : Nat) (a0_0 : Int) (a0_1 : Int) (a0_2 : Int) (a0_3 : Int) (a0_4 : Int) (a0_5 : Int) (A0_6 : Option Addr) (c0_6 : Nat) (l0_6 : List (S78)) (a0_7 : Int) (A0_8 : Option Addr) (c0_8 : Nat) (l0_8 : List (S27)) (a0_9 : Int) (a0_10 : Bool) (A0_11 : Option Addr) (c0_11 : Nat) (l0_11 : List (S78)) (r : Bool) (w : World) (hr0_6 : Kd.C k78 w A0_6 l0_6.length l0_6) (hc0_6 : l0_6.length ≤ c0_6) (hr0_8 : Kd.C k27 w A0_8 l0_8.length l0_8) (hc0_8 : l0_8.length ≤ c0_8) (hr0_11 : Kd.C k78 w A0_11 l0_11.length l0_11) (hc0_11 : l0_11.length ≤ c0_11) (h : note_Right.f k a0_0 a0_1 a0_2 a0_3 a0_4 a0_5 l0_6 a0_7 l0_8 a0_9 a0_10 l0_11 = some r) :
    Calls Try.prog 29 #[.agg #[.int .i64 a0_0, .int .u8 a0_1, .int .u8 a0_2, .int .u32 a0_3, .int .u8 a0_4, .int .u8 a0_5, .slice A0_6 l0_6.length c0_6, .int .u32 a0_7, .slice A0_8 l0_8.length c0_8, .int .u8 a0_9, .bool a0_10, .slice A0_11 l0_11.length c0_11]] w fun e w' => e = .returned (.bool r) ∧ Below w.heap.size w w' := by
  have hu53 := Try.underlying53
  have HR0_6 := Aside0.mk hr0_6
  have HC0_6 := Aside0.mk hc0_6
  clear hr0_6 hc0_6
  have HR0_8 := Aside0.mk hr0_8
  have HC0_8 := Aside0.mk hc0_8
  clear hr0_8 hc0_8
  have HR0_11 := Aside0.mk hr0_11
  have HC0_11 := Aside0.mk hc0_11
  clear hr0_11 hc0_11
  have HB := Aside0.mk (Below.refl w.heap.size w)
  have H : (if a0_1 ≥ 8 then (note_Right.j0 k true a0_0 a0_1 a0_2 a0_3 a0_4 a0_5 l0_6 a0_7 l0_8 a0_9 a0_10 l0_11) else (if a0_2 ≥ 8 then (note_Right.j0 k true a0_0 a0_1 a0_2 a0_3 a0_4 a0_5 l0_6 a0_7 l0_8 a0_9 a0_10 l0_11) else (if a0_1 = a0_2 then (note_Right.j0 k true a0_0 a0_1 a0_2 a0_3 a0_4 a0_5 l0_6 a0_7 l0_8 a0_9 a0_10 l0_11) else (if a0_3 = 0 then (note_Right.j0 k true a0_0 a0_1 a0_2 a0_3 a0_4 a0_5 l0_6 a0_7 l0_8 a0_9 a0_10 l0_11) else (note_Right.j0 k (decide (a0_4 ≥ 64)) a0_0 a0_1 a0_2 a0_3 a0_4 a0_5 l0_6 a0_7 l0_8 a0_9 a0_10 l0_11))))) = some r := h
  clear h
  have HC2 := Aside0.mk H
  clear H
  go_enter Try.func29, Try.ntmps29
  go_upto_region 1 with (first | ((with_reducible refine gate_dst (N := 1) rfl ?_); refine box_event ?hg (N := 1) ?hd (cs := #[.int .i64 a0_0, .int .u8 a0_1, .int .u8 a0_2, .int .u32 a0_3, .int .u8 a0_4, .int .u8 a0_5, .slice A0_6 l0_6.length c0_6, .int .u32 a0_7, .slice A0_8 l0_8.length c0_8, .int .u8 a0_9, .bool a0_10, .slice A0_11 l0_11.length c0_11]) (t := 53) ?hr ?_; (case hd => rfl); (case hg => rfl); (case hr => first | (go_simp; done) | (go_simp; rfl)); intro gb360 hg w3 hbox hb; have n0_ := Aside0.mk (below_step (by repeat (first | (with_reducible first | exact HB.out | apply below_alloc | apply pw_below_drewN | apply below_drew1) | exact HB.out)) hb); have n1_ := Aside0.mk (hbox); have n2_ := Aside0.mk ((by rw [hg]; exact (below_size (by repeat (first | (with_reducible first | exact HB.out | apply below_alloc | apply pw_below_drewN | apply below_drew1) | exact HB.out))) : w.heap.size ≤ gb360)); have n3_ := Aside0.mk ((by rw [hg]; exact (below_size (by repeat (first | (with_reducible first | exact HB.out | apply below_alloc | apply pw_below_drewN | apply below_drew1) | exact HB.out))) : w.heap.size ≤ gb360)); clear HB; have HB := n0_; have BK360 := n1_; have GW360 := n2_; have GE360 := n3_; clear n0_ n1_ n2_ n3_; clear hb hbox hg))
  (try simp only [Act.put, List.setIfInBounds_toArray, List.set_cons_zero, List.set_cons_succ])
  go_cut [27] (fun v27 wc => ∃ (kq : Nat) (x27_1 : Bool), v27 = .bool x27_1 ∧ Aside0 (note_Right.j0 kq x27_1 a0_0 a0_1 a0_2 a0_3 a0_4 a0_5 l0_6 a0_7 l0_8 a0_9 a0_10 l0_11 = some r) ∧ Aside0 (kq ≤ k) ∧ Aside0 (wc.heap[gb360]? = some (.cells #[.int .i64 a0_0, .int .u8 a0_1, .int .u8 a0_2, .int .u32 a0_3, .int .u8 a0_4, .int .u8 a0_5, (.slice A0_6 l0_6.length c0_6), .int .u32 a0_7, (.slice A0_8 l0_8.length c0_8), .int .u8 a0_9, .bool a0_10, (.slice A0_11 l0_11.length c0_11)] 53 (0, 0))) ∧ Aside0 (Below w.heap.size w wc))
  case first =>
    have H := HC2.out
    clear HC2
    by_cases c4 : a0_1 ≥ 8
    · rw [if_pos c4] at H
      have c4b0 : decide (8 ≤ a0_1) = true := decide_eq_true c4
      clear c4
      (first | rw [c4b0] | (simp only [i64_w, i32_w]; rw [c4b0]) | skip)
      have H' := Aside0.mk H
      clear H
      have hcz5_0 : w3.cell? ⟨gb360, 0, none⟩ = some (.int .i64 a0_0) := (blk_cell BK360.out 0).trans rfl
      have hcz5_1 : w3.cell? ⟨gb360, 1, none⟩ = some (.int .u8 a0_1) := (blk_cell BK360.out 1).trans rfl
      have hcz5_2 : w3.cell? ⟨gb360, 2, none⟩ = some (.int .u8 a0_2) := (blk_cell BK360.out 2).trans rfl
      have hcz5_3 : w3.cell? ⟨gb360, 3, none⟩ = some (.int .u32 a0_3) := (blk_cell BK360.out 3).trans rfl
      have hcz5_4 : w3.cell? ⟨gb360, 4, none⟩ = some (.int .u8 a0_4) := (blk_cell BK360.out 4).trans rfl
      have hcz5_5 : w3.cell? ⟨gb360, 5, none⟩ = some (.int .u8 a0_5) := (blk_cell BK360.out 5).trans rfl
      have hcz5_6 : w3.cell? ⟨gb360, 6, none⟩ = some (.slice A0_6 l0_6.length c0_6) := (blk_cell BK360.out 6).trans rfl
      have hcz5_7 : w3.cell? ⟨gb360, 7, none⟩ = some (.int .u32 a0_7) := (blk_cell BK360.out 7).trans rfl
      have hcz5_8 : w3.cell? ⟨gb360, 8, none⟩ = some (.slice A0_8 l0_8.length c0_8) := (blk_cell BK360.out 8).trans rfl
      have hcz5_9 : w3.cell? ⟨gb360, 9, none⟩ = some (.int .u8 a0_9) := (blk_cell BK360.out 9).trans rfl
      have hcz5_10 : w3.cell? ⟨gb360, 10, none⟩ = some (.bool a0_10) := (blk_cell BK360.out 10).trans rfl
      have hcz5_11 : w3.cell? ⟨gb360, 11, none⟩ = some (.slice A0_11 l0_11.length c0_11) := (blk_cell BK360.out 11).trans rfl
      have hfz5_0 := blk_frozen BK360.out 0
      have hfz5_1 := blk_frozen BK360.out 1
      have hfz5_2 := blk_frozen BK360.out 2
      have hfz5_3 := blk_frozen BK360.out 3
      have hfz5_4 := blk_frozen BK360.out 4
      have hfz5_5 := blk_frozen BK360.out 5
      have hfz5_6 := blk_frozen BK360.out 6
      have hfz5_7 := blk_frozen BK360.out 7
      have hfz5_8 := blk_frozen BK360.out 8
      have hfz5_9 := blk_frozen BK360.out 9
      have hfz5_10 := blk_frozen BK360.out 10
      have hfz5_11 := blk_frozen BK360.out 11
      go_wp2
      go_meet
      case rel => exact ⟨_, (true), (by first | rfl | (simp; done) | (simp [*]; done)), H', ⟨by first | omega | exact Nat.le_refl _⟩, ⟨by (with_reducible repeat (first | refine blk_drewN ?_ _ | refine blk_drew ?_ | refine blk_alloc ?_ _)); exact BK360.out⟩, ⟨by repeat (first | (with_reducible first | exact HB.out | apply below_alloc | apply pw_below_drewN | apply below_drew1 | refine below_set ?_ GE360.out) | exact HB.out)⟩⟩
    · rw [if_neg c4] at H
      have c4b0 : decide (8 ≤ a0_1) = false := decide_eq_false c4
      clear c4
      (first | rw [c4b0] | (simp only [i64_w, i32_w]; rw [c4b0]) | skip)
      by_cases c6 : a0_2 ≥ 8
      · rw [if_pos c6] at H
        have c6b0 : decide (8 ≤ a0_2) = true := decide_eq_true c6
        clear c6
        have H' := Aside0.mk H
        clear H
        have hcz7_0 : w3.cell? ⟨gb360, 0, none⟩ = some (.int .i64 a0_0) := (blk_cell BK360.out 0).trans rfl
        have hcz7_1 : w3.cell? ⟨gb360, 1, none⟩ = some (.int .u8 a0_1) := (blk_cell BK360.out 1).trans rfl
        have hcz7_2 : w3.cell? ⟨gb360, 2, none⟩ = some (.int .u8 a0_2) := (blk_cell BK360.out 2).trans rfl
        have hcz7_3 : w3.cell? ⟨gb360, 3, none⟩ = some (.int .u32 a0_3) := (blk_cell BK360.out 3).trans rfl
        have hcz7_4 : w3.cell? ⟨gb360, 4, none⟩ = some (.int .u8 a0_4) := (blk_cell BK360.out 4).trans rfl
        have hcz7_5 : w3.cell? ⟨gb360, 5, none⟩ = some (.int .u8 a0_5) := (blk_cell BK360.out 5).trans rfl
        have hcz7_6 : w3.cell? ⟨gb360, 6, none⟩ = some (.slice A0_6 l0_6.length c0_6) := (blk_cell BK360.out 6).trans rfl
        have hcz7_7 : w3.cell? ⟨gb360, 7, none⟩ = some (.int .u32 a0_7) := (blk_cell BK360.out 7).trans rfl
        have hcz7_8 : w3.cell? ⟨gb360, 8, none⟩ = some (.slice A0_8 l0_8.length c0_8) := (blk_cell BK360.out 8).trans rfl
        have hcz7_9 : w3.cell? ⟨gb360, 9, none⟩ = some (.int .u8 a0_9) := (blk_cell BK360.out 9).trans rfl
        have hcz7_10 : w3.cell? ⟨gb360, 10, none⟩ = some (.bool a0_10) := (blk_cell BK360.out 10).trans rfl
        have hcz7_11 : w3.cell? ⟨gb360, 11, none⟩ = some (.slice A0_11 l0_11.length c0_11) := (blk_cell BK360.out 11).trans rfl
        have hfz7_0 := blk_frozen BK360.out 0
        have hfz7_1 := blk_frozen BK360.out 1
        have hfz7_2 := blk_frozen BK360.out 2
        have hfz7_3 := blk_frozen BK360.out 3
        have hfz7_4 := blk_frozen BK360.out 4
        have hfz7_5 := blk_frozen BK360.out 5
        have hfz7_6 := blk_frozen BK360.out 6
        have hfz7_7 := blk_frozen BK360.out 7
        have hfz7_8 := blk_frozen BK360.out 8
        have hfz7_9 := blk_frozen BK360.out 9
        have hfz7_10 := blk_frozen BK360.out 10
        have hfz7_11 := blk_frozen BK360.out 11
        go_wp2
        go_meet
        case rel => exact ⟨_, (true), (by first | rfl | (simp; done) | (simp [*]; done)), H', ⟨by first | omega | exact Nat.le_refl _⟩, ⟨by (with_reducible repeat (first | refine blk_drewN ?_ _ | refine blk_drew ?_ | refine blk_alloc ?_ _)); exact BK360.out⟩, ⟨by repeat (first | (with_reducible first | exact HB.out | apply below_alloc | apply pw_below_drewN | apply below_drew1 | refine below_set ?_ GE360.out) | exact HB.out)⟩⟩
      · rw [if_neg c6] at H
        have c6b0 : decide (8 ≤ a0_2) = false := decide_eq_false c6
        clear c6
        by_cases c8 : a0_1 = a0_2
        · rw [if_pos c8] at H
          have c8b0 : (a0_1 == a0_2) = true := beq_iff_eq.mpr c8
          have c8b1 : (a0_1 != a0_2) = false := bne_eq_false_iff_eq.mpr c8
          clear c8
          have H' := Aside0.mk H
          clear H
          have hcz9_0 : w3.cell? ⟨gb360, 0, none⟩ = some (.int .i64 a0_0) := (blk_cell BK360.out 0).trans rfl
          have hcz9_1 : w3.cell? ⟨gb360, 1, none⟩ = some (.int .u8 a0_1) := (blk_cell BK360.out 1).trans rfl
          have hcz9_2 : w3.cell? ⟨gb360, 2, none⟩ = some (.int .u8 a0_2) := (blk_cell BK360.out 2).trans rfl
          have hcz9_3 : w3.cell? ⟨gb360, 3, none⟩ = some (.int .u32 a0_3) := (blk_cell BK360.out 3).trans rfl
          have hcz9_4 : w3.cell? ⟨gb360, 4, none⟩ = some (.int .u8 a0_4) := (blk_cell BK360.out 4).trans rfl
          have hcz9_5 : w3.cell? ⟨gb360, 5, none⟩ = some (.int .u8 a0_5) := (blk_cell BK360.out 5).trans rfl
          have hcz9_6 : w3.cell? ⟨gb360, 6, none⟩ = some (.slice A0_6 l0_6.length c0_6) := (blk_cell BK360.out 6).trans rfl
          have hcz9_7 : w3.cell? ⟨gb360, 7, none⟩ = some (.int .u32 a0_7) := (blk_cell BK360.out 7).trans rfl
          have hcz9_8 : w3.cell? ⟨gb360, 8, none⟩ = some (.slice A0_8 l0_8.length c0_8) := (blk_cell BK360.out 8).trans rfl
          have hcz9_9 : w3.cell? ⟨gb360, 9, none⟩ = some (.int .u8 a0_9) := (blk_cell BK360.out 9).trans rfl
          have hcz9_10 : w3.cell? ⟨gb360, 10, none⟩ = some (.bool a0_10) := (blk_cell BK360.out 10).trans rfl
          have hcz9_11 : w3.cell? ⟨gb360, 11, none⟩ = some (.slice A0_11 l0_11.length c0_11) := (blk_cell BK360.out 11).trans rfl
          have hfz9_0 := blk_frozen BK360.out 0
          have hfz9_1 := blk_frozen BK360.out 1
          have hfz9_2 := blk_frozen BK360.out 2
          have hfz9_3 := blk_frozen BK360.out 3
          have hfz9_4 := blk_frozen BK360.out 4
          have hfz9_5 := blk_frozen BK360.out 5
          have hfz9_6 := blk_frozen BK360.out 6
          have hfz9_7 := blk_frozen BK360.out 7
          have hfz9_8 := blk_frozen BK360.out 8
          have hfz9_9 := blk_frozen BK360.out 9
          have hfz9_10 := blk_frozen BK360.out 10
          have hfz9_11 := blk_frozen BK360.out 11
          go_wp2
          go_meet
          case rel => exact ⟨_, (true), (by first | rfl | (simp; done) | (simp [*]; done)), H', ⟨by first | omega | exact Nat.le_refl _⟩, ⟨by (with_reducible repeat (first | refine blk_drewN ?_ _ | refine blk_drew ?_ | refine blk_alloc ?_ _)); exact BK360.out⟩, ⟨by repeat (first | (with_reducible first | exact HB.out | apply below_alloc | apply pw_below_drewN | apply below_drew1 | refine below_set ?_ GE360.out) | exact HB.out)⟩⟩
        · rw [if_neg c8] at H
          have c8b0 : (a0_1 == a0_2) = false := beq_eq_false_iff_ne.mpr c8
          have c8b1 : (a0_1 != a0_2) = true := bne_iff_ne.mpr c8
          by_cases c10 : a0_3 = 0
          · rw [if_pos c10] at H
            have c10b0 : (a0_3 == 0) = true := beq_iff_eq.mpr c10
            have c10b1 : (a0_3 != 0) = false := bne_eq_false_iff_eq.mpr c10
            clear c10
            have H' := Aside0.mk H
            clear H
            have hcz11_0 : w3.cell? ⟨gb360, 0, none⟩ = some (.int .i64 a0_0) := (blk_cell BK360.out 0).trans rfl
            have hcz11_1 : w3.cell? ⟨gb360, 1, none⟩ = some (.int .u8 a0_1) := (blk_cell BK360.out 1).trans rfl
            have hcz11_2 : w3.cell? ⟨gb360, 2, none⟩ = some (.int .u8 a0_2) := (blk_cell BK360.out 2).trans rfl
            have hcz11_3 : w3.cell? ⟨gb360, 3, none⟩ = some (.int .u32 a0_3) := (blk_cell BK360.out 3).trans rfl
            have hcz11_4 : w3.cell? ⟨gb360, 4, none⟩ = some (.int .u8 a0_4) := (blk_cell BK360.out 4).trans rfl
            have hcz11_5 : w3.cell? ⟨gb360, 5, none⟩ = some (.int .u8 a0_5) := (blk_cell BK360.out 5).trans rfl
            have hcz11_6 : w3.cell? ⟨gb360, 6, none⟩ = some (.slice A0_6 l0_6.length c0_6) := (blk_cell BK360.out 6).trans rfl
            have hcz11_7 : w3.cell? ⟨gb360, 7, none⟩ = some (.int .u32 a0_7) := (blk_cell BK360.out 7).trans rfl
            have hcz11_8 : w3.cell? ⟨gb360, 8, none⟩ = some (.slice A0_8 l0_8.length c0_8) := (blk_cell BK360.out 8).trans rfl
            have hcz11_9 : w3.cell? ⟨gb360, 9, none⟩ = some (.int .u8 a0_9) := (blk_cell BK360.out 9).trans rfl
            have hcz11_10 : w3.cell? ⟨gb360, 10, none⟩ = some (.bool a0_10) := (blk_cell BK360.out 10).trans rfl
            have hcz11_11 : w3.cell? ⟨gb360, 11, none⟩ = some (.slice A0_11 l0_11.length c0_11) := (blk_cell BK360.out 11).trans rfl
            have hfz11_0 := blk_frozen BK360.out 0
            have hfz11_1 := blk_frozen BK360.out 1
            have hfz11_2 := blk_frozen BK360.out 2
            have hfz11_3 := blk_frozen BK360.out 3
            have hfz11_4 := blk_frozen BK360.out 4
            have hfz11_5 := blk_frozen BK360.out 5
            have hfz11_6 := blk_frozen BK360.out 6
            have hfz11_7 := blk_frozen BK360.out 7
            have hfz11_8 := blk_frozen BK360.out 8
            have hfz11_9 := blk_frozen BK360.out 9
            have hfz11_10 := blk_frozen BK360.out 10
            have hfz11_11 := blk_frozen BK360.out 11
            go_wp2
            go_meet
            case rel => exact ⟨_, (true), (by first | rfl | (simp; done) | (simp [*]; done)), H', ⟨by first | omega | exact Nat.le_refl _⟩, ⟨by (with_reducible repeat (first | refine blk_drewN ?_ _ | refine blk_drew ?_ | refine blk_alloc ?_ _)); exact BK360.out⟩, ⟨by repeat (first | (with_reducible first | exact HB.out | apply below_alloc | apply pw_below_drewN | apply below_drew1 | refine below_set ?_ GE360.out) | exact HB.out)⟩⟩
          · rw [if_neg c10] at H
            have c10b0 : (a0_3 == 0) = false := beq_eq_false_iff_ne.mpr c10
            have c10b1 : (a0_3 != 0) = true := bne_iff_ne.mpr c10
            have H' := Aside0.mk H
            clear H
            have hcz12_0 : w3.cell? ⟨gb360, 0, none⟩ = some (.int .i64 a0_0) := (blk_cell BK360.out 0).trans rfl
            have hcz12_1 : w3.cell? ⟨gb360, 1, none⟩ = some (.int .u8 a0_1) := (blk_cell BK360.out 1).trans rfl
            have hcz12_2 : w3.cell? ⟨gb360, 2, none⟩ = some (.int .u8 a0_2) := (blk_cell BK360.out 2).trans rfl
            have hcz12_3 : w3.cell? ⟨gb360, 3, none⟩ = some (.int .u32 a0_3) := (blk_cell BK360.out 3).trans rfl
            have hcz12_4 : w3.cell? ⟨gb360, 4, none⟩ = some (.int .u8 a0_4) := (blk_cell BK360.out 4).trans rfl
            have hcz12_5 : w3.cell? ⟨gb360, 5, none⟩ = some (.int .u8 a0_5) := (blk_cell BK360.out 5).trans rfl
            have hcz12_6 : w3.cell? ⟨gb360, 6, none⟩ = some (.slice A0_6 l0_6.length c0_6) := (blk_cell BK360.out 6).trans rfl
            have hcz12_7 : w3.cell? ⟨gb360, 7, none⟩ = some (.int .u32 a0_7) := (blk_cell BK360.out 7).trans rfl
            have hcz12_8 : w3.cell? ⟨gb360, 8, none⟩ = some (.slice A0_8 l0_8.length c0_8) := (blk_cell BK360.out 8).trans rfl
            have hcz12_9 : w3.cell? ⟨gb360, 9, none⟩ = some (.int .u8 a0_9) := (blk_cell BK360.out 9).trans rfl
            have hcz12_10 : w3.cell? ⟨gb360, 10, none⟩ = some (.bool a0_10) := (blk_cell BK360.out 10).trans rfl
            have hcz12_11 : w3.cell? ⟨gb360, 11, none⟩ = some (.slice A0_11 l0_11.length c0_11) := (blk_cell BK360.out 11).trans rfl
            have hfz12_0 := blk_frozen BK360.out 0
            have hfz12_1 := blk_frozen BK360.out 1
            have hfz12_2 := blk_frozen BK360.out 2
            have hfz12_3 := blk_frozen BK360.out 3
            have hfz12_4 := blk_frozen BK360.out 4
            have hfz12_5 := blk_frozen BK360.out 5
            have hfz12_6 := blk_frozen BK360.out 6
            have hfz12_7 := blk_frozen BK360.out 7
            have hfz12_8 := blk_frozen BK360.out 8
            have hfz12_9 := blk_frozen BK360.out 9
            have hfz12_10 := blk_frozen BK360.out 10
            have hfz12_11 := blk_frozen BK360.out 11
            go_wp2
            go_meet
            case rel => exact ⟨_, (decide (a0_4 ≥ 64)), (by first | rfl | (simp; done) | (simp [*]; done)), H', ⟨by first | omega | exact Nat.le_refl _⟩, ⟨by (with_reducible repeat (first | refine blk_drewN ?_ _ | refine blk_drew ?_ | refine blk_alloc ?_ _)); exact BK360.out⟩, ⟨by repeat (first | (with_reducible first | exact HB.out | apply below_alloc | apply pw_below_drewN | apply below_drew1 | refine below_set ?_ GE360.out) | exact HB.out)⟩⟩
  case rest =>
    clear HC2
    try clear c1
    try clear c2
    try clear p2
    try clear c4
    try clear c4b0
    try clear c6
    try clear c6b0
    try clear c8
    try clear c8b0
    try clear c8b1
    try clear c10
    try clear c10b0
    try clear c10b1
    try clear hcz11_0
    try clear hcz11_1
    try clear hcz11_10
    try clear hcz11_11
    try clear hcz11_2
    try clear hcz11_3
    try clear hcz11_4
    try clear hcz11_5
    try clear hcz11_6
    try clear hcz11_7
    try clear hcz11_8
    try clear hcz11_9
    try clear hcz12_0
    try clear hcz12_1
    try clear hcz12_10
    try clear hcz12_11
    try clear hcz12_2
    try clear hcz12_3
    try clear hcz12_4
    try clear hcz12_5
    try clear hcz12_6
    try clear hcz12_7
    try clear hcz12_8
    try clear hcz12_9
    try clear hcz5_0
    try clear hcz5_1
    try clear hcz5_10
    try clear hcz5_11
    try clear hcz5_2
    try clear hcz5_3
    try clear hcz5_4
    try clear hcz5_5
    try clear hcz5_6
    try clear hcz5_7
    try clear hcz5_8
    try clear hcz5_9
    try clear hcz7_0
    try clear hcz7_1
    try clear hcz7_10
    try clear hcz7_11
    try clear hcz7_2
    try clear hcz7_3
    try clear hcz7_4
    try clear hcz7_5
    try clear hcz7_6
    try clear hcz7_7
    try clear hcz7_8
    try clear hcz7_9
    try clear hcz9_0
    try clear hcz9_1
    try clear hcz9_10
    try clear hcz9_11
    try clear hcz9_2
    try clear hcz9_3
    try clear hcz9_4
    try clear hcz9_5
    try clear hcz9_6
    try clear hcz9_7
    try clear hcz9_8
    try clear hcz9_9
    try clear hfz11_0
    try clear hfz11_1
    try clear hfz11_10
    try clear hfz11_11
    try clear hfz11_2
    try clear hfz11_3
    try clear hfz11_4
    try clear hfz11_5
    try clear hfz11_6
    try clear hfz11_7
    try clear hfz11_8
    try clear hfz11_9
    try clear hfz12_0
    try clear hfz12_1
    try clear hfz12_10
    try clear hfz12_11
    try clear hfz12_2
    try clear hfz12_3
    try clear hfz12_4
    try clear hfz12_5
    try clear hfz12_6
    try clear hfz12_7
    try clear hfz12_8
    try clear hfz12_9
    try clear hfz5_0
    try clear hfz5_1
    try clear hfz5_10
    try clear hfz5_11
    try clear hfz5_2
    try clear hfz5_3
    try clear hfz5_4
    try clear hfz5_5
    try clear hfz5_6
    try clear hfz5_7
    try clear hfz5_8
    try clear hfz5_9
    try clear hfz7_0
    try clear hfz7_1
    try clear hfz7_10
    try clear hfz7_11
    try clear hfz7_2
    try clear hfz7_3
    try clear hfz7_4
    try clear hfz7_5
    try clear hfz7_6
    try clear hfz7_7
    try clear hfz7_8
    try clear hfz7_9
    try clear hfz9_0
    try clear hfz9_1
    try clear hfz9_10
    try clear hfz9_11
    try clear hfz9_2
    try clear hfz9_3
    try clear hfz9_4
    try clear hfz9_5
    try clear hfz9_6
    try clear hfz9_7
    try clear hfz9_8
    try clear hfz9_9
    obtain ⟨kq, x27_1, rfl, HA, HJ1, BK360, HB⟩ := hcut
    cases kq with
    | zero => exact absurd HA.out (by simp [note_Right.j0])
    | succ kj1 =>
      have H := HA.out
      clear HA
      simp only [note_Right.j0] at H
      by_cases c13 : x27_1 = true
      · subst c13
        have H1 : (some false) = some r := by rw [if_pos rfl] at H; exact H
        clear H
        have H := H1
        clear H1
        obtain rfl := Option.some.inj H
        go_wp2
        go_ret
        exact ⟨by first | rfl | (simp [errW_none, errW_some] <;> rfl) | (simp [*, errW_none, errW_some] <;> rfl), by repeat (first | (with_reducible first | exact HB.out | apply below_alloc | apply pw_below_drewN | apply below_drew1 | refine below_set ?_ GE360.out) | exact HB.out)⟩
      · replace c13 := Bool.eq_false_iff.mpr c13
        subst c13
        have H1 : (if a0_0 = 1 then ((note_pull.f kj1 a0_0 a0_1 a0_2 a0_3 a0_4 a0_5 l0_6 a0_7 l0_8 a0_9 a0_10 l0_11).bind fun t361 => (if t361 = true then (some true) else (if a0_0 = 2 then ((note_batch.f kj1 a0_0 a0_1 a0_2 a0_3 a0_4 a0_5 l0_6 a0_7 l0_8 a0_9 a0_10 l0_11).bind fun t362 => (some t362)) else (some false)))) else (if a0_0 = 2 then ((note_batch.f kj1 a0_0 a0_1 a0_2 a0_3 a0_4 a0_5 l0_6 a0_7 l0_8 a0_9 a0_10 l0_11).bind fun t363 => (some t363)) else (some false))) = some r := by rw [if_neg (show ¬ (false = true) by decide)] at H; exact H
        clear H
        have H := H1
        clear H1
        by_cases c14 : a0_0 = 1
        · rw [if_pos c14] at H
          have c14b0 : (a0_0 == 1) = true := beq_iff_eq.mpr c14
          have c14b1 : (a0_0 != 1) = false := bne_eq_false_iff_eq.mpr c14
          clear c14
          replace H := Option.bind_eq_some_iff.mp H
          obtain ⟨t361, A150, H⟩ := H
          replace H : (if t361 = true then (some true) else (if a0_0 = 2 then ((note_batch.f kj1 a0_0 a0_1 a0_2 a0_3 a0_4 a0_5 l0_6 a0_7 l0_8 a0_9 a0_10 l0_11).bind fun t362 => (some t362)) else (some false))) = some r := H
          have A15 := Aside0.mk A150
          clear A150
          by_cases c16 : t361 = true
          · subst c16
            have H1 : (some true) = some r := by rw [if_pos rfl] at H; exact H
            clear H
            have H := H1
            clear H1
            obtain rfl := Option.some.inj H
            have hcz17_0 : wc.cell? ⟨gb360, 0, none⟩ = some (.int .i64 a0_0) := (blk_cell BK360.out 0).trans rfl
            have hcz17_1 : wc.cell? ⟨gb360, 1, none⟩ = some (.int .u8 a0_1) := (blk_cell BK360.out 1).trans rfl
            have hcz17_2 : wc.cell? ⟨gb360, 2, none⟩ = some (.int .u8 a0_2) := (blk_cell BK360.out 2).trans rfl
            have hcz17_3 : wc.cell? ⟨gb360, 3, none⟩ = some (.int .u32 a0_3) := (blk_cell BK360.out 3).trans rfl
            have hcz17_4 : wc.cell? ⟨gb360, 4, none⟩ = some (.int .u8 a0_4) := (blk_cell BK360.out 4).trans rfl
            have hcz17_5 : wc.cell? ⟨gb360, 5, none⟩ = some (.int .u8 a0_5) := (blk_cell BK360.out 5).trans rfl
            have hcz17_6 : wc.cell? ⟨gb360, 6, none⟩ = some (.slice A0_6 l0_6.length c0_6) := (blk_cell BK360.out 6).trans rfl
            have hcz17_7 : wc.cell? ⟨gb360, 7, none⟩ = some (.int .u32 a0_7) := (blk_cell BK360.out 7).trans rfl
            have hcz17_8 : wc.cell? ⟨gb360, 8, none⟩ = some (.slice A0_8 l0_8.length c0_8) := (blk_cell BK360.out 8).trans rfl
            have hcz17_9 : wc.cell? ⟨gb360, 9, none⟩ = some (.int .u8 a0_9) := (blk_cell BK360.out 9).trans rfl
            have hcz17_10 : wc.cell? ⟨gb360, 10, none⟩ = some (.bool a0_10) := (blk_cell BK360.out 10).trans rfl
            have hcz17_11 : wc.cell? ⟨gb360, 11, none⟩ = some (.slice A0_11 l0_11.length c0_11) := (blk_cell BK360.out 11).trans rfl
            have hfz17_0 := blk_frozen BK360.out 0
            have hfz17_1 := blk_frozen BK360.out 1
            have hfz17_2 := blk_frozen BK360.out 2
            have hfz17_3 := blk_frozen BK360.out 3
            have hfz17_4 := blk_frozen BK360.out 4
            have hfz17_5 := blk_frozen BK360.out 5
            have hfz17_6 := blk_frozen BK360.out 6
            have hfz17_7 := blk_frozen BK360.out 7
            have hfz17_8 := blk_frozen BK360.out 8
            have hfz17_9 := blk_frozen BK360.out 9
            have hfz17_10 := blk_frozen BK360.out 10
            have hfz17_11 := blk_frozen BK360.out 11
            go_wp2_with (first | (go_at_call 52; (with_reducible refine (note_pull.calls kj1 a0_0 a0_1 a0_2 a0_3 a0_4 a0_5 _ _ l0_6 a0_7 _ _ l0_8 a0_9 a0_10 _ _ l0_11 true _ ?side1 ?side2 ?side3 ?side4 ?side5 ?side6 A15.out).mono ?_); (case side1 => repeat (first | exact (Kd.C_below HR0_6.out HB.out) | (with_reducible refine Kd.C_alloc ?_ _) | (with_reducible refine Kd.C_drewN ?_ _) | (with_reducible refine Kd.C_drew ?_))); (case side2 => exact HC0_6.out); (case side3 => repeat (first | exact (Kd.C_below HR0_8.out HB.out) | (with_reducible refine Kd.C_alloc ?_ _) | (with_reducible refine Kd.C_drewN ?_ _) | (with_reducible refine Kd.C_drew ?_))); (case side4 => exact HC0_8.out); (case side5 => repeat (first | exact (Kd.C_below HR0_11.out HB.out) | (with_reducible refine Kd.C_alloc ?_ _) | (with_reducible refine Kd.C_drewN ?_ _) | (with_reducible refine Kd.C_drew ?_))); (case side6 => exact HC0_11.out); rintro e w18 ⟨rfl, hb⟩; have n0_ := Aside0.mk (blk_below (g := gb360) (o := .cells #[.int .i64 a0_0, .int .u8 a0_1, .int .u8 a0_2, .int .u32 a0_3, .int .u8 a0_4, .int .u8 a0_5, .slice A0_6 l0_6.length c0_6, .int .u32 a0_7, .slice A0_8 l0_8.length c0_8, .int .u8 a0_9, .bool a0_10, .slice A0_11 l0_11.length c0_11] 53 (0, 0)) (by (with_reducible repeat (first | refine blk_drewN ?_ _ | refine blk_drew ?_ | refine blk_alloc ?_ _)); exact BK360.out) hb); have n1_ := Aside0.mk (below_step (by repeat (first | (with_reducible first | exact HB.out | apply below_alloc | apply pw_below_drewN | apply below_drew1 | refine below_set ?_ GE360.out) | exact HB.out)) hb); clear BK360; clear HB; have BK360 := n0_; have HB := n1_; clear n0_ n1_; (try clear hb); (try clear hb2); (try clear hk); (try clear hi)))
            go_ret
            exact ⟨by first | rfl | (simp [errW_none, errW_some] <;> rfl) | (simp [*, errW_none, errW_some] <;> rfl), by repeat (first | (with_reducible first | exact HB.out | apply below_alloc | apply pw_below_drewN | apply below_drew1 | refine below_set ?_ GE360.out) | exact HB.out)⟩
          · replace c16 := Bool.eq_false_iff.mpr c16
            subst c16
            have H1 : (if a0_0 = 2 then ((note_batch.f kj1 a0_0 a0_1 a0_2 a0_3 a0_4 a0_5 l0_6 a0_7 l0_8 a0_9 a0_10 l0_11).bind fun t362 => (some t362)) else (some false)) = some r := by rw [if_neg (show ¬ (false = true) by decide)] at H; exact H
            clear H
            have H := H1
            clear H1
            by_cases c19 : a0_0 = 2
            · rw [if_pos c19] at H
              have c19b0 : (a0_0 == 2) = true := beq_iff_eq.mpr c19
              have c19b1 : (a0_0 != 2) = false := bne_eq_false_iff_eq.mpr c19
              clear c19
              replace H := Option.bind_eq_some_iff.mp H
              obtain ⟨t362, A200, H⟩ := H
              replace H : (some t362) = some r := H
              have A20 := Aside0.mk A200
              clear A200
              obtain rfl := Option.some.inj H
              have hcz21_0 : wc.cell? ⟨gb360, 0, none⟩ = some (.int .i64 a0_0) := (blk_cell BK360.out 0).trans rfl
              have hcz21_1 : wc.cell? ⟨gb360, 1, none⟩ = some (.int .u8 a0_1) := (blk_cell BK360.out 1).trans rfl
              have hcz21_2 : wc.cell? ⟨gb360, 2, none⟩ = some (.int .u8 a0_2) := (blk_cell BK360.out 2).trans rfl
              have hcz21_3 : wc.cell? ⟨gb360, 3, none⟩ = some (.int .u32 a0_3) := (blk_cell BK360.out 3).trans rfl
              have hcz21_4 : wc.cell? ⟨gb360, 4, none⟩ = some (.int .u8 a0_4) := (blk_cell BK360.out 4).trans rfl
              have hcz21_5 : wc.cell? ⟨gb360, 5, none⟩ = some (.int .u8 a0_5) := (blk_cell BK360.out 5).trans rfl
              have hcz21_6 : wc.cell? ⟨gb360, 6, none⟩ = some (.slice A0_6 l0_6.length c0_6) := (blk_cell BK360.out 6).trans rfl
              have hcz21_7 : wc.cell? ⟨gb360, 7, none⟩ = some (.int .u32 a0_7) := (blk_cell BK360.out 7).trans rfl
              have hcz21_8 : wc.cell? ⟨gb360, 8, none⟩ = some (.slice A0_8 l0_8.length c0_8) := (blk_cell BK360.out 8).trans rfl
              have hcz21_9 : wc.cell? ⟨gb360, 9, none⟩ = some (.int .u8 a0_9) := (blk_cell BK360.out 9).trans rfl
              have hcz21_10 : wc.cell? ⟨gb360, 10, none⟩ = some (.bool a0_10) := (blk_cell BK360.out 10).trans rfl
              have hcz21_11 : wc.cell? ⟨gb360, 11, none⟩ = some (.slice A0_11 l0_11.length c0_11) := (blk_cell BK360.out 11).trans rfl
              have hfz21_0 := blk_frozen BK360.out 0
              have hfz21_1 := blk_frozen BK360.out 1
              have hfz21_2 := blk_frozen BK360.out 2
              have hfz21_3 := blk_frozen BK360.out 3
              have hfz21_4 := blk_frozen BK360.out 4
              have hfz21_5 := blk_frozen BK360.out 5
              have hfz21_6 := blk_frozen BK360.out 6
              have hfz21_7 := blk_frozen BK360.out 7
              have hfz21_8 := blk_frozen BK360.out 8
              have hfz21_9 := blk_frozen BK360.out 9
              have hfz21_10 := blk_frozen BK360.out 10
              have hfz21_11 := blk_frozen BK360.out 11
              go_wp2_with (first | (go_at_call 52; (with_reducible refine (note_pull.calls kj1 a0_0 a0_1 a0_2 a0_3 a0_4 a0_5 _ _ l0_6 a0_7 _ _ l0_8 a0_9 a0_10 _ _ l0_11 false _ ?side1 ?side2 ?side3 ?side4 ?side5 ?side6 A15.out).mono ?_); (case side1 => repeat (first | exact (Kd.C_below HR0_6.out HB.out) | (with_reducible refine Kd.C_alloc ?_ _) | (with_reducible refine Kd.C_drewN ?_ _) | (with_reducible refine Kd.C_drew ?_))); (case side2 => exact HC0_6.out); (case side3 => repeat (first | exact (Kd.C_below HR0_8.out HB.out) | (with_reducible refine Kd.C_alloc ?_ _) | (with_reducible refine Kd.C_drewN ?_ _) | (with_reducible refine Kd.C_drew ?_))); (case side4 => exact HC0_8.out); (case side5 => repeat (first | exact (Kd.C_below HR0_11.out HB.out) | (with_reducible refine Kd.C_alloc ?_ _) | (with_reducible refine Kd.C_drewN ?_ _) | (with_reducible refine Kd.C_drew ?_))); (case side6 => exact HC0_11.out); rintro e w22 ⟨rfl, hb⟩; have n0_ := Aside0.mk (blk_below (g := gb360) (o := .cells #[.int .i64 a0_0, .int .u8 a0_1, .int .u8 a0_2, .int .u32 a0_3, .int .u8 a0_4, .int .u8 a0_5, .slice A0_6 l0_6.length c0_6, .int .u32 a0_7, .slice A0_8 l0_8.length c0_8, .int .u8 a0_9, .bool a0_10, .slice A0_11 l0_11.length c0_11] 53 (0, 0)) (by (with_reducible repeat (first | refine blk_drewN ?_ _ | refine blk_drew ?_ | refine blk_alloc ?_ _)); exact BK360.out) hb); have n1_ := Aside0.mk (below_step (by repeat (first | (with_reducible first | exact HB.out | apply below_alloc | apply pw_below_drewN | apply below_drew1 | refine below_set ?_ GE360.out) | exact HB.out)) hb); clear BK360; clear HB; have BK360 := n0_; have HB := n1_; clear n0_ n1_; (try clear hb); (try clear hb2); (try clear hk); (try clear hi); have hcz23_0 : w22.cell? ⟨gb360, 0, none⟩ = some (.int .i64 a0_0) := (blk_cell BK360.out 0).trans rfl; have hcz23_1 : w22.cell? ⟨gb360, 1, none⟩ = some (.int .u8 a0_1) := (blk_cell BK360.out 1).trans rfl; have hcz23_2 : w22.cell? ⟨gb360, 2, none⟩ = some (.int .u8 a0_2) := (blk_cell BK360.out 2).trans rfl; have hcz23_3 : w22.cell? ⟨gb360, 3, none⟩ = some (.int .u32 a0_3) := (blk_cell BK360.out 3).trans rfl; have hcz23_4 : w22.cell? ⟨gb360, 4, none⟩ = some (.int .u8 a0_4) := (blk_cell BK360.out 4).trans rfl; have hcz23_5 : w22.cell? ⟨gb360, 5, none⟩ = some (.int .u8 a0_5) := (blk_cell BK360.out 5).trans rfl; have hcz23_6 : w22.cell? ⟨gb360, 6, none⟩ = some (.slice A0_6 l0_6.length c0_6) := (blk_cell BK360.out 6).trans rfl; have hcz23_7 : w22.cell? ⟨gb360, 7, none⟩ = some (.int .u32 a0_7) := (blk_cell BK360.out 7).trans rfl; have hcz23_8 : w22.cell? ⟨gb360, 8, none⟩ = some (.slice A0_8 l0_8.length c0_8) := (blk_cell BK360.out 8).trans rfl; have hcz23_9 : w22.cell? ⟨gb360, 9, none⟩ = some (.int .u8 a0_9) := (blk_cell BK360.out 9).trans rfl; have hcz23_10 : w22.cell? ⟨gb360, 10, none⟩ = some (.bool a0_10) := (blk_cell BK360.out 10).trans rfl; have hcz23_11 : w22.cell? ⟨gb360, 11, none⟩ = some (.slice A0_11 l0_11.length c0_11) := (blk_cell BK360.out 11).trans rfl; have hfz23_0 := blk_frozen BK360.out 0; have hfz23_1 := blk_frozen BK360.out 1; have hfz23_2 := blk_frozen BK360.out 2; have hfz23_3 := blk_frozen BK360.out 3; have hfz23_4 := blk_frozen BK360.out 4; have hfz23_5 := blk_frozen BK360.out 5; have hfz23_6 := blk_frozen BK360.out 6; have hfz23_7 := blk_frozen BK360.out 7; have hfz23_8 := blk_frozen BK360.out 8; have hfz23_9 := blk_frozen BK360.out 9; have hfz23_10 := blk_frozen BK360.out 10; have hfz23_11 := blk_frozen BK360.out 11) | (go_at_call 53; (with_reducible refine (note_batch.calls kj1 a0_0 a0_1 a0_2 a0_3 a0_4 a0_5 _ _ l0_6 a0_7 _ _ l0_8 a0_9 a0_10 _ _ l0_11 t362 _ ?side1 ?side2 ?side3 ?side4 ?side5 ?side6 A20.out).mono ?_); (case side1 => repeat (first | exact (Kd.C_below HR0_6.out HB.out) | (with_reducible refine Kd.C_alloc ?_ _) | (with_reducible refine Kd.C_drewN ?_ _) | (with_reducible refine Kd.C_drew ?_))); (case side2 => exact HC0_6.out); (case side3 => repeat (first | exact (Kd.C_below HR0_8.out HB.out) | (with_reducible refine Kd.C_alloc ?_ _) | (with_reducible refine Kd.C_drewN ?_ _) | (with_reducible refine Kd.C_drew ?_))); (case side4 => exact HC0_8.out); (case side5 => repeat (first | exact (Kd.C_below HR0_11.out HB.out) | (with_reducible refine Kd.C_alloc ?_ _) | (with_reducible refine Kd.C_drewN ?_ _) | (with_reducible refine Kd.C_drew ?_))); (case side6 => exact HC0_11.out); rintro e w24 ⟨rfl, hb⟩; have n0_ := Aside0.mk (blk_below (g := gb360) (o := .cells #[.int .i64 a0_0, .int .u8 a0_1, .int .u8 a0_2, .int .u32 a0_3, .int .u8 a0_4, .int .u8 a0_5, .slice A0_6 l0_6.length c0_6, .int .u32 a0_7, .slice A0_8 l0_8.length c0_8, .int .u8 a0_9, .bool a0_10, .slice A0_11 l0_11.length c0_11] 53 (0, 0)) (by (with_reducible repeat (first | refine blk_drewN ?_ _ | refine blk_drew ?_ | refine blk_alloc ?_ _)); exact BK360.out) hb); have n1_ := Aside0.mk (below_step (by repeat (first | (with_reducible first | exact HB.out | apply below_alloc | apply pw_below_drewN | apply below_drew1 | refine below_set ?_ GE360.out) | exact HB.out)) hb); clear BK360; clear HB; have BK360 := n0_; have HB := n1_; clear n0_ n1_; (try clear hb); (try clear hb2); (try clear hk); (try clear hi)))
              go_ret
              exact ⟨by first | rfl | (simp [errW_none, errW_some] <;> rfl) | (simp [*, errW_none, errW_some] <;> rfl), by repeat (first | (with_reducible first | exact HB.out | apply below_alloc | apply pw_below_drewN | apply below_drew1 | refine below_set ?_ GE360.out) | exact HB.out)⟩
            · rw [if_neg c19] at H
              have c19b0 : (a0_0 == 2) = false := beq_eq_false_iff_ne.mpr c19
              have c19b1 : (a0_0 != 2) = true := bne_iff_ne.mpr c19
              obtain rfl := Option.some.inj H
              have hcz25_0 : wc.cell? ⟨gb360, 0, none⟩ = some (.int .i64 a0_0) := (blk_cell BK360.out 0).trans rfl
              have hcz25_1 : wc.cell? ⟨gb360, 1, none⟩ = some (.int .u8 a0_1) := (blk_cell BK360.out 1).trans rfl
              have hcz25_2 : wc.cell? ⟨gb360, 2, none⟩ = some (.int .u8 a0_2) := (blk_cell BK360.out 2).trans rfl
              have hcz25_3 : wc.cell? ⟨gb360, 3, none⟩ = some (.int .u32 a0_3) := (blk_cell BK360.out 3).trans rfl
              have hcz25_4 : wc.cell? ⟨gb360, 4, none⟩ = some (.int .u8 a0_4) := (blk_cell BK360.out 4).trans rfl
              have hcz25_5 : wc.cell? ⟨gb360, 5, none⟩ = some (.int .u8 a0_5) := (blk_cell BK360.out 5).trans rfl
              have hcz25_6 : wc.cell? ⟨gb360, 6, none⟩ = some (.slice A0_6 l0_6.length c0_6) := (blk_cell BK360.out 6).trans rfl
              have hcz25_7 : wc.cell? ⟨gb360, 7, none⟩ = some (.int .u32 a0_7) := (blk_cell BK360.out 7).trans rfl
              have hcz25_8 : wc.cell? ⟨gb360, 8, none⟩ = some (.slice A0_8 l0_8.length c0_8) := (blk_cell BK360.out 8).trans rfl
              have hcz25_9 : wc.cell? ⟨gb360, 9, none⟩ = some (.int .u8 a0_9) := (blk_cell BK360.out 9).trans rfl
              have hcz25_10 : wc.cell? ⟨gb360, 10, none⟩ = some (.bool a0_10) := (blk_cell BK360.out 10).trans rfl
              have hcz25_11 : wc.cell? ⟨gb360, 11, none⟩ = some (.slice A0_11 l0_11.length c0_11) := (blk_cell BK360.out 11).trans rfl
              have hfz25_0 := blk_frozen BK360.out 0
              have hfz25_1 := blk_frozen BK360.out 1
              have hfz25_2 := blk_frozen BK360.out 2
              have hfz25_3 := blk_frozen BK360.out 3
              have hfz25_4 := blk_frozen BK360.out 4
              have hfz25_5 := blk_frozen BK360.out 5
              have hfz25_6 := blk_frozen BK360.out 6
              have hfz25_7 := blk_frozen BK360.out 7
              have hfz25_8 := blk_frozen BK360.out 8
              have hfz25_9 := blk_frozen BK360.out 9
              have hfz25_10 := blk_frozen BK360.out 10
              have hfz25_11 := blk_frozen BK360.out 11
              go_wp2_with (first | (go_at_call 52; (with_reducible refine (note_pull.calls kj1 a0_0 a0_1 a0_2 a0_3 a0_4 a0_5 _ _ l0_6 a0_7 _ _ l0_8 a0_9 a0_10 _ _ l0_11 false _ ?side1 ?side2 ?side3 ?side4 ?side5 ?side6 A15.out).mono ?_); (case side1 => repeat (first | exact (Kd.C_below HR0_6.out HB.out) | (with_reducible refine Kd.C_alloc ?_ _) | (with_reducible refine Kd.C_drewN ?_ _) | (with_reducible refine Kd.C_drew ?_))); (case side2 => exact HC0_6.out); (case side3 => repeat (first | exact (Kd.C_below HR0_8.out HB.out) | (with_reducible refine Kd.C_alloc ?_ _) | (with_reducible refine Kd.C_drewN ?_ _) | (with_reducible refine Kd.C_drew ?_))); (case side4 => exact HC0_8.out); (case side5 => repeat (first | exact (Kd.C_below HR0_11.out HB.out) | (with_reducible refine Kd.C_alloc ?_ _) | (with_reducible refine Kd.C_drewN ?_ _) | (with_reducible refine Kd.C_drew ?_))); (case side6 => exact HC0_11.out); rintro e w26 ⟨rfl, hb⟩; have n0_ := Aside0.mk (blk_below (g := gb360) (o := .cells #[.int .i64 a0_0, .int .u8 a0_1, .int .u8 a0_2, .int .u32 a0_3, .int .u8 a0_4, .int .u8 a0_5, .slice A0_6 l0_6.length c0_6, .int .u32 a0_7, .slice A0_8 l0_8.length c0_8, .int .u8 a0_9, .bool a0_10, .slice A0_11 l0_11.length c0_11] 53 (0, 0)) (by (with_reducible repeat (first | refine blk_drewN ?_ _ | refine blk_drew ?_ | refine blk_alloc ?_ _)); exact BK360.out) hb); have n1_ := Aside0.mk (below_step (by repeat (first | (with_reducible first | exact HB.out | apply below_alloc | apply pw_below_drewN | apply below_drew1 | refine below_set ?_ GE360.out) | exact HB.out)) hb); clear BK360; clear HB; have BK360 := n0_; have HB := n1_; clear n0_ n1_; (try clear hb); (try clear hb2); (try clear hk); (try clear hi); have hcz27_0 : w26.cell? ⟨gb360, 0, none⟩ = some (.int .i64 a0_0) := (blk_cell BK360.out 0).trans rfl; have hcz27_1 : w26.cell? ⟨gb360, 1, none⟩ = some (.int .u8 a0_1) := (blk_cell BK360.out 1).trans rfl; have hcz27_2 : w26.cell? ⟨gb360, 2, none⟩ = some (.int .u8 a0_2) := (blk_cell BK360.out 2).trans rfl; have hcz27_3 : w26.cell? ⟨gb360, 3, none⟩ = some (.int .u32 a0_3) := (blk_cell BK360.out 3).trans rfl; have hcz27_4 : w26.cell? ⟨gb360, 4, none⟩ = some (.int .u8 a0_4) := (blk_cell BK360.out 4).trans rfl; have hcz27_5 : w26.cell? ⟨gb360, 5, none⟩ = some (.int .u8 a0_5) := (blk_cell BK360.out 5).trans rfl; have hcz27_6 : w26.cell? ⟨gb360, 6, none⟩ = some (.slice A0_6 l0_6.length c0_6) := (blk_cell BK360.out 6).trans rfl; have hcz27_7 : w26.cell? ⟨gb360, 7, none⟩ = some (.int .u32 a0_7) := (blk_cell BK360.out 7).trans rfl; have hcz27_8 : w26.cell? ⟨gb360, 8, none⟩ = some (.slice A0_8 l0_8.length c0_8) := (blk_cell BK360.out 8).trans rfl; have hcz27_9 : w26.cell? ⟨gb360, 9, none⟩ = some (.int .u8 a0_9) := (blk_cell BK360.out 9).trans rfl; have hcz27_10 : w26.cell? ⟨gb360, 10, none⟩ = some (.bool a0_10) := (blk_cell BK360.out 10).trans rfl; have hcz27_11 : w26.cell? ⟨gb360, 11, none⟩ = some (.slice A0_11 l0_11.length c0_11) := (blk_cell BK360.out 11).trans rfl; have hfz27_0 := blk_frozen BK360.out 0; have hfz27_1 := blk_frozen BK360.out 1; have hfz27_2 := blk_frozen BK360.out 2; have hfz27_3 := blk_frozen BK360.out 3; have hfz27_4 := blk_frozen BK360.out 4; have hfz27_5 := blk_frozen BK360.out 5; have hfz27_6 := blk_frozen BK360.out 6; have hfz27_7 := blk_frozen BK360.out 7; have hfz27_8 := blk_frozen BK360.out 8; have hfz27_9 := blk_frozen BK360.out 9; have hfz27_10 := blk_frozen BK360.out 10; have hfz27_11 := blk_frozen BK360.out 11))
              go_ret
              exact ⟨by first | rfl | (simp [errW_none, errW_some] <;> rfl) | (simp [*, errW_none, errW_some] <;> rfl), by repeat (first | (with_reducible first | exact HB.out | apply below_alloc | apply pw_below_drewN | apply below_drew1 | refine below_set ?_ GE360.out) | exact HB.out)⟩
        · rw [if_neg c14] at H
          have c14b0 : (a0_0 == 1) = false := beq_eq_false_iff_ne.mpr c14
          have c14b1 : (a0_0 != 1) = true := bne_iff_ne.mpr c14
          by_cases c28 : a0_0 = 2
          · rw [if_pos c28] at H
            have c28b0 : (a0_0 == 2) = true := beq_iff_eq.mpr c28
            have c28b1 : (a0_0 != 2) = false := bne_eq_false_iff_eq.mpr c28
            clear c28
            replace H := Option.bind_eq_some_iff.mp H
            obtain ⟨t363, A290, H⟩ := H
            replace H : (some t363) = some r := H
            have A29 := Aside0.mk A290
            clear A290
            obtain rfl := Option.some.inj H
            have hcz30_0 : wc.cell? ⟨gb360, 0, none⟩ = some (.int .i64 a0_0) := (blk_cell BK360.out 0).trans rfl
            have hcz30_1 : wc.cell? ⟨gb360, 1, none⟩ = some (.int .u8 a0_1) := (blk_cell BK360.out 1).trans rfl
            have hcz30_2 : wc.cell? ⟨gb360, 2, none⟩ = some (.int .u8 a0_2) := (blk_cell BK360.out 2).trans rfl
            have hcz30_3 : wc.cell? ⟨gb360, 3, none⟩ = some (.int .u32 a0_3) := (blk_cell BK360.out 3).trans rfl
            have hcz30_4 : wc.cell? ⟨gb360, 4, none⟩ = some (.int .u8 a0_4) := (blk_cell BK360.out 4).trans rfl
            have hcz30_5 : wc.cell? ⟨gb360, 5, none⟩ = some (.int .u8 a0_5) := (blk_cell BK360.out 5).trans rfl
            have hcz30_6 : wc.cell? ⟨gb360, 6, none⟩ = some (.slice A0_6 l0_6.length c0_6) := (blk_cell BK360.out 6).trans rfl
            have hcz30_7 : wc.cell? ⟨gb360, 7, none⟩ = some (.int .u32 a0_7) := (blk_cell BK360.out 7).trans rfl
            have hcz30_8 : wc.cell? ⟨gb360, 8, none⟩ = some (.slice A0_8 l0_8.length c0_8) := (blk_cell BK360.out 8).trans rfl
            have hcz30_9 : wc.cell? ⟨gb360, 9, none⟩ = some (.int .u8 a0_9) := (blk_cell BK360.out 9).trans rfl
            have hcz30_10 : wc.cell? ⟨gb360, 10, none⟩ = some (.bool a0_10) := (blk_cell BK360.out 10).trans rfl
            have hcz30_11 : wc.cell? ⟨gb360, 11, none⟩ = some (.slice A0_11 l0_11.length c0_11) := (blk_cell BK360.out 11).trans rfl
            have hfz30_0 := blk_frozen BK360.out 0
            have hfz30_1 := blk_frozen BK360.out 1
            have hfz30_2 := blk_frozen BK360.out 2
            have hfz30_3 := blk_frozen BK360.out 3
            have hfz30_4 := blk_frozen BK360.out 4
            have hfz30_5 := blk_frozen BK360.out 5
            have hfz30_6 := blk_frozen BK360.out 6
            have hfz30_7 := blk_frozen BK360.out 7
            have hfz30_8 := blk_frozen BK360.out 8
            have hfz30_9 := blk_frozen BK360.out 9
            have hfz30_10 := blk_frozen BK360.out 10
            have hfz30_11 := blk_frozen BK360.out 11
            go_wp2_with (first | (go_at_call 53; (with_reducible refine (note_batch.calls kj1 a0_0 a0_1 a0_2 a0_3 a0_4 a0_5 _ _ l0_6 a0_7 _ _ l0_8 a0_9 a0_10 _ _ l0_11 t363 _ ?side1 ?side2 ?side3 ?side4 ?side5 ?side6 A29.out).mono ?_); (case side1 => repeat (first | exact (Kd.C_below HR0_6.out HB.out) | (with_reducible refine Kd.C_alloc ?_ _) | (with_reducible refine Kd.C_drewN ?_ _) | (with_reducible refine Kd.C_drew ?_))); (case side2 => exact HC0_6.out); (case side3 => repeat (first | exact (Kd.C_below HR0_8.out HB.out) | (with_reducible refine Kd.C_alloc ?_ _) | (with_reducible refine Kd.C_drewN ?_ _) | (with_reducible refine Kd.C_drew ?_))); (case side4 => exact HC0_8.out); (case side5 => repeat (first | exact (Kd.C_below HR0_11.out HB.out) | (with_reducible refine Kd.C_alloc ?_ _) | (with_reducible refine Kd.C_drewN ?_ _) | (with_reducible refine Kd.C_drew ?_))); (case side6 => exact HC0_11.out); rintro e w31 ⟨rfl, hb⟩; have n0_ := Aside0.mk (blk_below (g := gb360) (o := .cells #[.int .i64 a0_0, .int .u8 a0_1, .int .u8 a0_2, .int .u32 a0_3, .int .u8 a0_4, .int .u8 a0_5, .slice A0_6 l0_6.length c0_6, .int .u32 a0_7, .slice A0_8 l0_8.length c0_8, .int .u8 a0_9, .bool a0_10, .slice A0_11 l0_11.length c0_11] 53 (0, 0)) (by (with_reducible repeat (first | refine blk_drewN ?_ _ | refine blk_drew ?_ | refine blk_alloc ?_ _)); exact BK360.out) hb); have n1_ := Aside0.mk (below_step (by repeat (first | (with_reducible first | exact HB.out | apply below_alloc | apply pw_below_drewN | apply below_drew1 | refine below_set ?_ GE360.out) | exact HB.out)) hb); clear BK360; clear HB; have BK360 := n0_; have HB := n1_; clear n0_ n1_; (try clear hb); (try clear hb2); (try clear hk); (try clear hi)))
            go_ret
            exact ⟨by first | rfl | (simp [errW_none, errW_some] <;> rfl) | (simp [*, errW_none, errW_some] <;> rfl), by repeat (first | (with_reducible first | exact HB.out | apply below_alloc | apply pw_below_drewN | apply below_drew1 | refine below_set ?_ GE360.out) | exact HB.out)⟩
          · rw [if_neg c28] at H
            have c28b0 : (a0_0 == 2) = false := beq_eq_false_iff_ne.mpr c28
            have c28b1 : (a0_0 != 2) = true := bne_iff_ne.mpr c28
            obtain rfl := Option.some.inj H
            have hcz32_0 : wc.cell? ⟨gb360, 0, none⟩ = some (.int .i64 a0_0) := (blk_cell BK360.out 0).trans rfl
            have hcz32_1 : wc.cell? ⟨gb360, 1, none⟩ = some (.int .u8 a0_1) := (blk_cell BK360.out 1).trans rfl
            have hcz32_2 : wc.cell? ⟨gb360, 2, none⟩ = some (.int .u8 a0_2) := (blk_cell BK360.out 2).trans rfl
            have hcz32_3 : wc.cell? ⟨gb360, 3, none⟩ = some (.int .u32 a0_3) := (blk_cell BK360.out 3).trans rfl
            have hcz32_4 : wc.cell? ⟨gb360, 4, none⟩ = some (.int .u8 a0_4) := (blk_cell BK360.out 4).trans rfl
            have hcz32_5 : wc.cell? ⟨gb360, 5, none⟩ = some (.int .u8 a0_5) := (blk_cell BK360.out 5).trans rfl
            have hcz32_6 : wc.cell? ⟨gb360, 6, none⟩ = some (.slice A0_6 l0_6.length c0_6) := (blk_cell BK360.out 6).trans rfl
            have hcz32_7 : wc.cell? ⟨gb360, 7, none⟩ = some (.int .u32 a0_7) := (blk_cell BK360.out 7).trans rfl
            have hcz32_8 : wc.cell? ⟨gb360, 8, none⟩ = some (.slice A0_8 l0_8.length c0_8) := (blk_cell BK360.out 8).trans rfl
            have hcz32_9 : wc.cell? ⟨gb360, 9, none⟩ = some (.int .u8 a0_9) := (blk_cell BK360.out 9).trans rfl
            have hcz32_10 : wc.cell? ⟨gb360, 10, none⟩ = some (.bool a0_10) := (blk_cell BK360.out 10).trans rfl
            have hcz32_11 : wc.cell? ⟨gb360, 11, none⟩ = some (.slice A0_11 l0_11.length c0_11) := (blk_cell BK360.out 11).trans rfl
            have hfz32_0 := blk_frozen BK360.out 0
            have hfz32_1 := blk_frozen BK360.out 1
            have hfz32_2 := blk_frozen BK360.out 2
            have hfz32_3 := blk_frozen BK360.out 3
            have hfz32_4 := blk_frozen BK360.out 4
            have hfz32_5 := blk_frozen BK360.out 5
            have hfz32_6 := blk_frozen BK360.out 6
            have hfz32_7 := blk_frozen BK360.out 7
            have hfz32_8 := blk_frozen BK360.out 8
            have hfz32_9 := blk_frozen BK360.out 9
            have hfz32_10 := blk_frozen BK360.out 10
            have hfz32_11 := blk_frozen BK360.out 11
            go_wp2
            go_ret
            exact ⟨by first | rfl | (simp [errW_none, errW_some] <;> rfl) | (simp [*, errW_none, errW_some] <;> rfl), by repeat (first | (with_reducible first | exact HB.out | apply below_alloc | apply pw_below_drewN | apply below_drew1 | refine below_set ?_ GE360.out) | exact HB.out)⟩
/-! ### replica_session: function 74 -/
def replica_session.f (k : Nat) (a0_0 : Bool) (a0_1 : Int) (a0_2 : Int) (a0_3 : Int) (a0_4 : Int) (l0_5 : List (S78)) (a0_6 : Int) (a1 : Int) : Option (Bool) := if a0_0 = true then (if a0_3 = 0 then (if a0_4 = 0 then (if (l0_5.length : Int) > 0 then (some false) else ((know_Right.f k l0_5).bind fun t365 => (if t365 = true then (if a0_1 ≥ 1 then (if a0_1 ≤ a0_6 then (if a0_2 < 8 then (if a0_2 = a1 then (some false) else (some (decide (a0_3 < 64)))) else (some false)) else (some false)) else (some false)) else (some false)))) else (some false)) else ((know_Right.f k l0_5).bind fun t366 => (if t366 = true then (if a0_1 ≥ 1 then (if a0_1 ≤ a0_6 then (if a0_2 < 8 then (if a0_2 = a1 then (some false) else (some (decide (a0_3 < 64)))) else (some false)) else (some false)) else (some false)) else (some false)))) else (if a0_1 = 0 then (if a0_2 = 0 then (if a0_3 = 0 then (if a0_4 = 0 then (some ((l0_5.length : Int) == 0)) else (some false)) else (some false)) else (some false)) else (some false))
set_option maxHeartbeats 8000000 in
set_option maxRecDepth 100000 in
theorem replica_session.calls (k : Nat) (a0_0 : Bool) (a0_1 : Int) (a0_2 : Int) (a0_3 : Int) (a0_4 : Int) (A0_5 : Option Addr) (c0_5 : Nat) (l0_5 : List (S78)) (a0_6 : Int) (a1 : Int) (r : Bool) (w : World) (hr0_5 : Kd.C k78 w A0_5 l0_5.length l0_5) (hc0_5 : l0_5.length ≤ c0_5) (h : replica_session.f k a0_0 a0_1 a0_2 a0_3 a0_4 l0_5 a0_6 a1 = some r) :
    Calls Try.prog 74 #[.agg #[.bool a0_0, .int .u32 a0_1, .int .u8 a0_2, .int .u8 a0_3, .int .u32 a0_4, .slice A0_5 l0_5.length c0_5, .int .u32 a0_6], .int .u8 a1] w fun e w' => e = .returned (.bool r) ∧ Below w.heap.size w w' := by
  have hu49 := Try.underlying49
  have HR0_5 := Aside0.mk hr0_5
  have HC0_5 := Aside0.mk hc0_5
  clear hr0_5 hc0_5
  have HB := Aside0.mk (Below.refl w.heap.size w)
  have H : (if a0_0 = true then (if a0_3 = 0 then (if a0_4 = 0 then (if (l0_5.length : Int) > 0 then (some false) else ((know_Right.f k l0_5).bind fun t365 => (if t365 = true then (if a0_1 ≥ 1 then (if a0_1 ≤ a0_6 then (if a0_2 < 8 then (if a0_2 = a1 then (some false) else (some (decide (a0_3 < 64)))) else (some false)) else (some false)) else (some false)) else (some false)))) else (some false)) else ((know_Right.f k l0_5).bind fun t366 => (if t366 = true then (if a0_1 ≥ 1 then (if a0_1 ≤ a0_6 then (if a0_2 < 8 then (if a0_2 = a1 then (some false) else (some (decide (a0_3 < 64)))) else (some false)) else (some false)) else (some false)) else (some false)))) else (if a0_1 = 0 then (if a0_2 = 0 then (if a0_3 = 0 then (if a0_4 = 0 then (some ((l0_5.length : Int) == 0)) else (some false)) else (some false)) else (some false)) else (some false))) = some r := h
  clear h
  by_cases c3 : a0_0 = true
  · subst c3
    have H1 : (if a0_3 = 0 then (if a0_4 = 0 then (if (l0_5.length : Int) > 0 then (some false) else ((know_Right.f k l0_5).bind fun t365 => (if t365 = true then (if a0_1 ≥ 1 then (if a0_1 ≤ a0_6 then (if a0_2 < 8 then (if a0_2 = a1 then (some false) else (some (decide (a0_3 < 64)))) else (some false)) else (some false)) else (some false)) else (some false)))) else (some false)) else ((know_Right.f k l0_5).bind fun t366 => (if t366 = true then (if a0_1 ≥ 1 then (if a0_1 ≤ a0_6 then (if a0_2 < 8 then (if a0_2 = a1 then (some false) else (some (decide (a0_3 < 64)))) else (some false)) else (some false)) else (some false)) else (some false)))) = some r := by rw [if_pos rfl] at H; exact H
    clear H
    have H := H1
    clear H1
    by_cases c4 : a0_3 = 0
    · rw [if_pos c4] at H
      have c4b0 : (a0_3 == 0) = true := beq_iff_eq.mpr c4
      have c4b1 : (a0_3 != 0) = false := bne_eq_false_iff_eq.mpr c4
      clear c4
      by_cases c5 : a0_4 = 0
      · rw [if_pos c5] at H
        have c5b0 : (a0_4 == 0) = true := beq_iff_eq.mpr c5
        have c5b1 : (a0_4 != 0) = false := bne_eq_false_iff_eq.mpr c5
        clear c5
        by_cases c6 : (l0_5.length : Int) > 0
        · rw [if_pos c6] at H
          have c6b0 : decide (0 < (l0_5.length : Int)) = true := decide_eq_true c6
          have c6b1 : decide (0 < l0_5.length) = true := decide_eq_true (by omega)
          clear c6
          obtain rfl := Option.some.inj H
          go_enter Try.func74, Try.ntmps74
          go_wp2_with (first | ((with_reducible refine gate_dst (N := 2) rfl ?_); (try (refine gate_guard (by rfl) ?_; dsimp only)); refine box_event ?hg (N := 2) ?hd (cs := #[.bool true, .int .u32 a0_1, .int .u8 a0_2, .int .u8 a0_3, .int .u32 a0_4, .slice A0_5 l0_5.length c0_5, .int .u32 a0_6]) (t := 49) ?hr ?_; (case hd => rfl); (case hg => rfl); (case hr => first | (go_simp; done) | (go_simp; rfl)); intro gb364 hg w7 hbox hb; have n0_ := Aside0.mk (below_step (by repeat (first | (with_reducible first | exact HB.out | apply below_alloc | apply pw_below_drewN | apply below_drew1) | exact HB.out)) hb); have n1_ := Aside0.mk (hbox); have n2_ := Aside0.mk ((by rw [hg]; exact (below_size (by repeat (first | (with_reducible first | exact HB.out | apply below_alloc | apply pw_below_drewN | apply below_drew1) | exact HB.out))) : w.heap.size ≤ gb364)); have n3_ := Aside0.mk ((by rw [hg]; exact (below_size (by repeat (first | (with_reducible first | exact HB.out | apply below_alloc | apply pw_below_drewN | apply below_drew1) | exact HB.out))) : w.heap.size ≤ gb364)); clear HB; have HB := n0_; have BK364 := n1_; have GW364 := n2_; have GE364 := n3_; clear n0_ n1_ n2_ n3_; clear hb hbox hg; have hcz8_0 : w7.cell? ⟨gb364, 0, none⟩ = some (.bool true) := (blk_cell BK364.out 0).trans rfl; have hcz8_1 : w7.cell? ⟨gb364, 1, none⟩ = some (.int .u32 a0_1) := (blk_cell BK364.out 1).trans rfl; have hcz8_2 : w7.cell? ⟨gb364, 2, none⟩ = some (.int .u8 a0_2) := (blk_cell BK364.out 2).trans rfl; have hcz8_3 : w7.cell? ⟨gb364, 3, none⟩ = some (.int .u8 a0_3) := (blk_cell BK364.out 3).trans rfl; have hcz8_4 : w7.cell? ⟨gb364, 4, none⟩ = some (.int .u32 a0_4) := (blk_cell BK364.out 4).trans rfl; have hcz8_5 : w7.cell? ⟨gb364, 5, none⟩ = some (.slice A0_5 l0_5.length c0_5) := (blk_cell BK364.out 5).trans rfl; have hcz8_6 : w7.cell? ⟨gb364, 6, none⟩ = some (.int .u32 a0_6) := (blk_cell BK364.out 6).trans rfl; have hfz8_0 := blk_frozen BK364.out 0; have hfz8_1 := blk_frozen BK364.out 1; have hfz8_2 := blk_frozen BK364.out 2; have hfz8_3 := blk_frozen BK364.out 3; have hfz8_4 := blk_frozen BK364.out 4; have hfz8_5 := blk_frozen BK364.out 5; have hfz8_6 := blk_frozen BK364.out 6))
          go_ret
          exact ⟨by first | rfl | (simp [errW_none, errW_some] <;> rfl) | (simp [*, errW_none, errW_some] <;> rfl), by repeat (first | (with_reducible first | exact HB.out | apply below_alloc | apply pw_below_drewN | apply below_drew1 | refine below_set ?_ GE364.out) | exact HB.out)⟩
        · rw [if_neg c6] at H
          have c6b0 : decide (0 < (l0_5.length : Int)) = false := decide_eq_false c6
          have c6b1 : decide (0 < l0_5.length) = false := decide_eq_false (by omega)
          clear c6
          replace H := Option.bind_eq_some_iff.mp H
          obtain ⟨t365, A90, H⟩ := H
          replace H : (if t365 = true then (if a0_1 ≥ 1 then (if a0_1 ≤ a0_6 then (if a0_2 < 8 then (if a0_2 = a1 then (some false) else (some (decide (a0_3 < 64)))) else (some false)) else (some false)) else (some false)) else (some false)) = some r := H
          have A9 := Aside0.mk A90
          clear A90
          by_cases c10 : t365 = true
          · subst c10
            have H1 : (if a0_1 ≥ 1 then (if a0_1 ≤ a0_6 then (if a0_2 < 8 then (if a0_2 = a1 then (some false) else (some (decide (a0_3 < 64)))) else (some false)) else (some false)) else (some false)) = some r := by rw [if_pos rfl] at H; exact H
            clear H
            have H := H1
            clear H1
            by_cases c11 : a0_1 ≥ 1
            · rw [if_pos c11] at H
              have c11b0 : decide (1 ≤ a0_1) = true := decide_eq_true c11
              clear c11
              by_cases c12 : a0_1 ≤ a0_6
              · rw [if_pos c12] at H
                have c12b0 : decide (a0_1 ≤ a0_6) = true := decide_eq_true c12
                clear c12
                by_cases c13 : a0_2 < 8
                · rw [if_pos c13] at H
                  have c13b0 : decide (a0_2 < 8) = true := decide_eq_true c13
                  clear c13
                  by_cases c14 : a0_2 = a1
                  · rw [if_pos c14] at H
                    have c14b0 : (a0_2 == a1) = true := beq_iff_eq.mpr c14
                    have c14b1 : (a0_2 != a1) = false := bne_eq_false_iff_eq.mpr c14
                    clear c14
                    obtain rfl := Option.some.inj H
                    go_enter Try.func74, Try.ntmps74
                    go_wp2_with (first | ((with_reducible refine gate_dst (N := 2) rfl ?_); (try (refine gate_guard (by rfl) ?_; dsimp only)); refine box_event ?hg (N := 2) ?hd (cs := #[.bool true, .int .u32 a0_1, .int .u8 a0_2, .int .u8 a0_3, .int .u32 a0_4, .slice A0_5 l0_5.length c0_5, .int .u32 a0_6]) (t := 49) ?hr ?_; (case hd => rfl); (case hg => rfl); (case hr => first | (go_simp; done) | (go_simp; rfl)); intro gb364 hg w15 hbox hb; have n0_ := Aside0.mk (below_step (by repeat (first | (with_reducible first | exact HB.out | apply below_alloc | apply pw_below_drewN | apply below_drew1) | exact HB.out)) hb); have n1_ := Aside0.mk (hbox); have n2_ := Aside0.mk ((by rw [hg]; exact (below_size (by repeat (first | (with_reducible first | exact HB.out | apply below_alloc | apply pw_below_drewN | apply below_drew1) | exact HB.out))) : w.heap.size ≤ gb364)); have n3_ := Aside0.mk ((by rw [hg]; exact (below_size (by repeat (first | (with_reducible first | exact HB.out | apply below_alloc | apply pw_below_drewN | apply below_drew1) | exact HB.out))) : w.heap.size ≤ gb364)); clear HB; have HB := n0_; have BK364 := n1_; have GW364 := n2_; have GE364 := n3_; clear n0_ n1_ n2_ n3_; clear hb hbox hg; have hcz16_0 : w15.cell? ⟨gb364, 0, none⟩ = some (.bool true) := (blk_cell BK364.out 0).trans rfl; have hcz16_1 : w15.cell? ⟨gb364, 1, none⟩ = some (.int .u32 a0_1) := (blk_cell BK364.out 1).trans rfl; have hcz16_2 : w15.cell? ⟨gb364, 2, none⟩ = some (.int .u8 a0_2) := (blk_cell BK364.out 2).trans rfl; have hcz16_3 : w15.cell? ⟨gb364, 3, none⟩ = some (.int .u8 a0_3) := (blk_cell BK364.out 3).trans rfl; have hcz16_4 : w15.cell? ⟨gb364, 4, none⟩ = some (.int .u32 a0_4) := (blk_cell BK364.out 4).trans rfl; have hcz16_5 : w15.cell? ⟨gb364, 5, none⟩ = some (.slice A0_5 l0_5.length c0_5) := (blk_cell BK364.out 5).trans rfl; have hcz16_6 : w15.cell? ⟨gb364, 6, none⟩ = some (.int .u32 a0_6) := (blk_cell BK364.out 6).trans rfl; have hfz16_0 := blk_frozen BK364.out 0; have hfz16_1 := blk_frozen BK364.out 1; have hfz16_2 := blk_frozen BK364.out 2; have hfz16_3 := blk_frozen BK364.out 3; have hfz16_4 := blk_frozen BK364.out 4; have hfz16_5 := blk_frozen BK364.out 5; have hfz16_6 := blk_frozen BK364.out 6) | ((with_reducible refine gate_callee (f := 36) rfl ?_); refine goesL_ (some 48) rfl rfl Try.func36 (by kernel_rfl) rfl #[.slice A0_5 l0_5.length c0_5] rfl (by (try simp only [List.map_toArray, List.map_cons, List.map_nil]); first | done | rfl | (simp only [List.length_drop, List.length_take]; rfl)) ?_; (with_reducible refine (know_Right.calls k _ _ l0_5 true _ ?side1 ?side2 A9.out).mono ?_); (case side1 => repeat (first | exact (Kd.C_below HR0_5.out HB.out) | (with_reducible refine Kd.C_alloc ?_ _) | (with_reducible refine Kd.C_drewN ?_ _) | (with_reducible refine Kd.C_drew ?_))); (case side2 => exact HC0_5.out); rintro e w17 ⟨rfl, hb⟩; refine ⟨_, rfl, ?_⟩; have n0_ := Aside0.mk (blk_below (g := gb364) (o := .cells #[.bool true, .int .u32 a0_1, .int .u8 a0_2, .int .u8 a0_3, .int .u32 a0_4, .slice A0_5 l0_5.length c0_5, .int .u32 a0_6] 49 (0, 0)) (by (with_reducible repeat (first | refine blk_drewN ?_ _ | refine blk_drew ?_ | refine blk_alloc ?_ _)); exact BK364.out) hb); have n1_ := Aside0.mk (below_step (by repeat (first | (with_reducible first | exact HB.out | apply below_alloc | apply pw_below_drewN | apply below_drew1 | refine below_set ?_ GE364.out) | exact HB.out)) hb); clear BK364; clear HB; have BK364 := n0_; have HB := n1_; clear n0_ n1_; (try clear hb); (try clear hb2); (try clear hk); (try clear hi); have hcz18_0 : w17.cell? ⟨gb364, 0, none⟩ = some (.bool true) := (blk_cell BK364.out 0).trans rfl; have hcz18_1 : w17.cell? ⟨gb364, 1, none⟩ = some (.int .u32 a0_1) := (blk_cell BK364.out 1).trans rfl; have hcz18_2 : w17.cell? ⟨gb364, 2, none⟩ = some (.int .u8 a0_2) := (blk_cell BK364.out 2).trans rfl; have hcz18_3 : w17.cell? ⟨gb364, 3, none⟩ = some (.int .u8 a0_3) := (blk_cell BK364.out 3).trans rfl; have hcz18_4 : w17.cell? ⟨gb364, 4, none⟩ = some (.int .u32 a0_4) := (blk_cell BK364.out 4).trans rfl; have hcz18_5 : w17.cell? ⟨gb364, 5, none⟩ = some (.slice A0_5 l0_5.length c0_5) := (blk_cell BK364.out 5).trans rfl; have hcz18_6 : w17.cell? ⟨gb364, 6, none⟩ = some (.int .u32 a0_6) := (blk_cell BK364.out 6).trans rfl; have hfz18_0 := blk_frozen BK364.out 0; have hfz18_1 := blk_frozen BK364.out 1; have hfz18_2 := blk_frozen BK364.out 2; have hfz18_3 := blk_frozen BK364.out 3; have hfz18_4 := blk_frozen BK364.out 4; have hfz18_5 := blk_frozen BK364.out 5; have hfz18_6 := blk_frozen BK364.out 6))
                    go_ret
                    exact ⟨by first | rfl | (simp [errW_none, errW_some] <;> rfl) | (simp [*, errW_none, errW_some] <;> rfl), by repeat (first | (with_reducible first | exact HB.out | apply below_alloc | apply pw_below_drewN | apply below_drew1 | refine below_set ?_ GE364.out) | exact HB.out)⟩
                  · rw [if_neg c14] at H
                    have c14b0 : (a0_2 == a1) = false := beq_eq_false_iff_ne.mpr c14
                    have c14b1 : (a0_2 != a1) = true := bne_iff_ne.mpr c14
                    obtain rfl := Option.some.inj H
                    go_enter Try.func74, Try.ntmps74
                    go_wp2_with (first | ((with_reducible refine gate_dst (N := 2) rfl ?_); (try (refine gate_guard (by rfl) ?_; dsimp only)); refine box_event ?hg (N := 2) ?hd (cs := #[.bool true, .int .u32 a0_1, .int .u8 a0_2, .int .u8 a0_3, .int .u32 a0_4, .slice A0_5 l0_5.length c0_5, .int .u32 a0_6]) (t := 49) ?hr ?_; (case hd => rfl); (case hg => rfl); (case hr => first | (go_simp; done) | (go_simp; rfl)); intro gb364 hg w19 hbox hb; have n0_ := Aside0.mk (below_step (by repeat (first | (with_reducible first | exact HB.out | apply below_alloc | apply pw_below_drewN | apply below_drew1) | exact HB.out)) hb); have n1_ := Aside0.mk (hbox); have n2_ := Aside0.mk ((by rw [hg]; exact (below_size (by repeat (first | (with_reducible first | exact HB.out | apply below_alloc | apply pw_below_drewN | apply below_drew1) | exact HB.out))) : w.heap.size ≤ gb364)); have n3_ := Aside0.mk ((by rw [hg]; exact (below_size (by repeat (first | (with_reducible first | exact HB.out | apply below_alloc | apply pw_below_drewN | apply below_drew1) | exact HB.out))) : w.heap.size ≤ gb364)); clear HB; have HB := n0_; have BK364 := n1_; have GW364 := n2_; have GE364 := n3_; clear n0_ n1_ n2_ n3_; clear hb hbox hg; have hcz20_0 : w19.cell? ⟨gb364, 0, none⟩ = some (.bool true) := (blk_cell BK364.out 0).trans rfl; have hcz20_1 : w19.cell? ⟨gb364, 1, none⟩ = some (.int .u32 a0_1) := (blk_cell BK364.out 1).trans rfl; have hcz20_2 : w19.cell? ⟨gb364, 2, none⟩ = some (.int .u8 a0_2) := (blk_cell BK364.out 2).trans rfl; have hcz20_3 : w19.cell? ⟨gb364, 3, none⟩ = some (.int .u8 a0_3) := (blk_cell BK364.out 3).trans rfl; have hcz20_4 : w19.cell? ⟨gb364, 4, none⟩ = some (.int .u32 a0_4) := (blk_cell BK364.out 4).trans rfl; have hcz20_5 : w19.cell? ⟨gb364, 5, none⟩ = some (.slice A0_5 l0_5.length c0_5) := (blk_cell BK364.out 5).trans rfl; have hcz20_6 : w19.cell? ⟨gb364, 6, none⟩ = some (.int .u32 a0_6) := (blk_cell BK364.out 6).trans rfl; have hfz20_0 := blk_frozen BK364.out 0; have hfz20_1 := blk_frozen BK364.out 1; have hfz20_2 := blk_frozen BK364.out 2; have hfz20_3 := blk_frozen BK364.out 3; have hfz20_4 := blk_frozen BK364.out 4; have hfz20_5 := blk_frozen BK364.out 5; have hfz20_6 := blk_frozen BK364.out 6) | ((with_reducible refine gate_callee (f := 36) rfl ?_); refine goesL_ (some 48) rfl rfl Try.func36 (by kernel_rfl) rfl #[.slice A0_5 l0_5.length c0_5] rfl (by (try simp only [List.map_toArray, List.map_cons, List.map_nil]); first | done | rfl | (simp only [List.length_drop, List.length_take]; rfl)) ?_; (with_reducible refine (know_Right.calls k _ _ l0_5 true _ ?side1 ?side2 A9.out).mono ?_); (case side1 => repeat (first | exact (Kd.C_below HR0_5.out HB.out) | (with_reducible refine Kd.C_alloc ?_ _) | (with_reducible refine Kd.C_drewN ?_ _) | (with_reducible refine Kd.C_drew ?_))); (case side2 => exact HC0_5.out); rintro e w21 ⟨rfl, hb⟩; refine ⟨_, rfl, ?_⟩; have n0_ := Aside0.mk (blk_below (g := gb364) (o := .cells #[.bool true, .int .u32 a0_1, .int .u8 a0_2, .int .u8 a0_3, .int .u32 a0_4, .slice A0_5 l0_5.length c0_5, .int .u32 a0_6] 49 (0, 0)) (by (with_reducible repeat (first | refine blk_drewN ?_ _ | refine blk_drew ?_ | refine blk_alloc ?_ _)); exact BK364.out) hb); have n1_ := Aside0.mk (below_step (by repeat (first | (with_reducible first | exact HB.out | apply below_alloc | apply pw_below_drewN | apply below_drew1 | refine below_set ?_ GE364.out) | exact HB.out)) hb); clear BK364; clear HB; have BK364 := n0_; have HB := n1_; clear n0_ n1_; (try clear hb); (try clear hb2); (try clear hk); (try clear hi); have hcz22_0 : w21.cell? ⟨gb364, 0, none⟩ = some (.bool true) := (blk_cell BK364.out 0).trans rfl; have hcz22_1 : w21.cell? ⟨gb364, 1, none⟩ = some (.int .u32 a0_1) := (blk_cell BK364.out 1).trans rfl; have hcz22_2 : w21.cell? ⟨gb364, 2, none⟩ = some (.int .u8 a0_2) := (blk_cell BK364.out 2).trans rfl; have hcz22_3 : w21.cell? ⟨gb364, 3, none⟩ = some (.int .u8 a0_3) := (blk_cell BK364.out 3).trans rfl; have hcz22_4 : w21.cell? ⟨gb364, 4, none⟩ = some (.int .u32 a0_4) := (blk_cell BK364.out 4).trans rfl; have hcz22_5 : w21.cell? ⟨gb364, 5, none⟩ = some (.slice A0_5 l0_5.length c0_5) := (blk_cell BK364.out 5).trans rfl; have hcz22_6 : w21.cell? ⟨gb364, 6, none⟩ = some (.int .u32 a0_6) := (blk_cell BK364.out 6).trans rfl; have hfz22_0 := blk_frozen BK364.out 0; have hfz22_1 := blk_frozen BK364.out 1; have hfz22_2 := blk_frozen BK364.out 2; have hfz22_3 := blk_frozen BK364.out 3; have hfz22_4 := blk_frozen BK364.out 4; have hfz22_5 := blk_frozen BK364.out 5; have hfz22_6 := blk_frozen BK364.out 6))
                    go_ret
                    exact ⟨by first | rfl | (simp [errW_none, errW_some] <;> rfl) | (simp [*, errW_none, errW_some] <;> rfl), by repeat (first | (with_reducible first | exact HB.out | apply below_alloc | apply pw_below_drewN | apply below_drew1 | refine below_set ?_ GE364.out) | exact HB.out)⟩
                · rw [if_neg c13] at H
                  have c13b0 : decide (a0_2 < 8) = false := decide_eq_false c13
                  clear c13
                  obtain rfl := Option.some.inj H
                  go_enter Try.func74, Try.ntmps74
                  go_wp2_with (first | ((with_reducible refine gate_dst (N := 2) rfl ?_); (try (refine gate_guard (by rfl) ?_; dsimp only)); refine box_event ?hg (N := 2) ?hd (cs := #[.bool true, .int .u32 a0_1, .int .u8 a0_2, .int .u8 a0_3, .int .u32 a0_4, .slice A0_5 l0_5.length c0_5, .int .u32 a0_6]) (t := 49) ?hr ?_; (case hd => rfl); (case hg => rfl); (case hr => first | (go_simp; done) | (go_simp; rfl)); intro gb364 hg w23 hbox hb; have n0_ := Aside0.mk (below_step (by repeat (first | (with_reducible first | exact HB.out | apply below_alloc | apply pw_below_drewN | apply below_drew1) | exact HB.out)) hb); have n1_ := Aside0.mk (hbox); have n2_ := Aside0.mk ((by rw [hg]; exact (below_size (by repeat (first | (with_reducible first | exact HB.out | apply below_alloc | apply pw_below_drewN | apply below_drew1) | exact HB.out))) : w.heap.size ≤ gb364)); have n3_ := Aside0.mk ((by rw [hg]; exact (below_size (by repeat (first | (with_reducible first | exact HB.out | apply below_alloc | apply pw_below_drewN | apply below_drew1) | exact HB.out))) : w.heap.size ≤ gb364)); clear HB; have HB := n0_; have BK364 := n1_; have GW364 := n2_; have GE364 := n3_; clear n0_ n1_ n2_ n3_; clear hb hbox hg; have hcz24_0 : w23.cell? ⟨gb364, 0, none⟩ = some (.bool true) := (blk_cell BK364.out 0).trans rfl; have hcz24_1 : w23.cell? ⟨gb364, 1, none⟩ = some (.int .u32 a0_1) := (blk_cell BK364.out 1).trans rfl; have hcz24_2 : w23.cell? ⟨gb364, 2, none⟩ = some (.int .u8 a0_2) := (blk_cell BK364.out 2).trans rfl; have hcz24_3 : w23.cell? ⟨gb364, 3, none⟩ = some (.int .u8 a0_3) := (blk_cell BK364.out 3).trans rfl; have hcz24_4 : w23.cell? ⟨gb364, 4, none⟩ = some (.int .u32 a0_4) := (blk_cell BK364.out 4).trans rfl; have hcz24_5 : w23.cell? ⟨gb364, 5, none⟩ = some (.slice A0_5 l0_5.length c0_5) := (blk_cell BK364.out 5).trans rfl; have hcz24_6 : w23.cell? ⟨gb364, 6, none⟩ = some (.int .u32 a0_6) := (blk_cell BK364.out 6).trans rfl; have hfz24_0 := blk_frozen BK364.out 0; have hfz24_1 := blk_frozen BK364.out 1; have hfz24_2 := blk_frozen BK364.out 2; have hfz24_3 := blk_frozen BK364.out 3; have hfz24_4 := blk_frozen BK364.out 4; have hfz24_5 := blk_frozen BK364.out 5; have hfz24_6 := blk_frozen BK364.out 6) | ((with_reducible refine gate_callee (f := 36) rfl ?_); refine goesL_ (some 48) rfl rfl Try.func36 (by kernel_rfl) rfl #[.slice A0_5 l0_5.length c0_5] rfl (by (try simp only [List.map_toArray, List.map_cons, List.map_nil]); first | done | rfl | (simp only [List.length_drop, List.length_take]; rfl)) ?_; (with_reducible refine (know_Right.calls k _ _ l0_5 true _ ?side1 ?side2 A9.out).mono ?_); (case side1 => repeat (first | exact (Kd.C_below HR0_5.out HB.out) | (with_reducible refine Kd.C_alloc ?_ _) | (with_reducible refine Kd.C_drewN ?_ _) | (with_reducible refine Kd.C_drew ?_))); (case side2 => exact HC0_5.out); rintro e w25 ⟨rfl, hb⟩; refine ⟨_, rfl, ?_⟩; have n0_ := Aside0.mk (blk_below (g := gb364) (o := .cells #[.bool true, .int .u32 a0_1, .int .u8 a0_2, .int .u8 a0_3, .int .u32 a0_4, .slice A0_5 l0_5.length c0_5, .int .u32 a0_6] 49 (0, 0)) (by (with_reducible repeat (first | refine blk_drewN ?_ _ | refine blk_drew ?_ | refine blk_alloc ?_ _)); exact BK364.out) hb); have n1_ := Aside0.mk (below_step (by repeat (first | (with_reducible first | exact HB.out | apply below_alloc | apply pw_below_drewN | apply below_drew1 | refine below_set ?_ GE364.out) | exact HB.out)) hb); clear BK364; clear HB; have BK364 := n0_; have HB := n1_; clear n0_ n1_; (try clear hb); (try clear hb2); (try clear hk); (try clear hi); have hcz26_0 : w25.cell? ⟨gb364, 0, none⟩ = some (.bool true) := (blk_cell BK364.out 0).trans rfl; have hcz26_1 : w25.cell? ⟨gb364, 1, none⟩ = some (.int .u32 a0_1) := (blk_cell BK364.out 1).trans rfl; have hcz26_2 : w25.cell? ⟨gb364, 2, none⟩ = some (.int .u8 a0_2) := (blk_cell BK364.out 2).trans rfl; have hcz26_3 : w25.cell? ⟨gb364, 3, none⟩ = some (.int .u8 a0_3) := (blk_cell BK364.out 3).trans rfl; have hcz26_4 : w25.cell? ⟨gb364, 4, none⟩ = some (.int .u32 a0_4) := (blk_cell BK364.out 4).trans rfl; have hcz26_5 : w25.cell? ⟨gb364, 5, none⟩ = some (.slice A0_5 l0_5.length c0_5) := (blk_cell BK364.out 5).trans rfl; have hcz26_6 : w25.cell? ⟨gb364, 6, none⟩ = some (.int .u32 a0_6) := (blk_cell BK364.out 6).trans rfl; have hfz26_0 := blk_frozen BK364.out 0; have hfz26_1 := blk_frozen BK364.out 1; have hfz26_2 := blk_frozen BK364.out 2; have hfz26_3 := blk_frozen BK364.out 3; have hfz26_4 := blk_frozen BK364.out 4; have hfz26_5 := blk_frozen BK364.out 5; have hfz26_6 := blk_frozen BK364.out 6))
                  go_ret
                  exact ⟨by first | rfl | (simp [errW_none, errW_some] <;> rfl) | (simp [*, errW_none, errW_some] <;> rfl), by repeat (first | (with_reducible first | exact HB.out | apply below_alloc | apply pw_below_drewN | apply below_drew1 | refine below_set ?_ GE364.out) | exact HB.out)⟩
              · rw [if_neg c12] at H
                have c12b0 : decide (a0_1 ≤ a0_6) = false := decide_eq_false c12
                clear c12
                obtain rfl := Option.some.inj H
                go_enter Try.func74, Try.ntmps74
                go_wp2_with (first | ((with_reducible refine gate_dst (N := 2) rfl ?_); (try (refine gate_guard (by rfl) ?_; dsimp only)); refine box_event ?hg (N := 2) ?hd (cs := #[.bool true, .int .u32 a0_1, .int .u8 a0_2, .int .u8 a0_3, .int .u32 a0_4, .slice A0_5 l0_5.length c0_5, .int .u32 a0_6]) (t := 49) ?hr ?_; (case hd => rfl); (case hg => rfl); (case hr => first | (go_simp; done) | (go_simp; rfl)); intro gb364 hg w27 hbox hb; have n0_ := Aside0.mk (below_step (by repeat (first | (with_reducible first | exact HB.out | apply below_alloc | apply pw_below_drewN | apply below_drew1) | exact HB.out)) hb); have n1_ := Aside0.mk (hbox); have n2_ := Aside0.mk ((by rw [hg]; exact (below_size (by repeat (first | (with_reducible first | exact HB.out | apply below_alloc | apply pw_below_drewN | apply below_drew1) | exact HB.out))) : w.heap.size ≤ gb364)); have n3_ := Aside0.mk ((by rw [hg]; exact (below_size (by repeat (first | (with_reducible first | exact HB.out | apply below_alloc | apply pw_below_drewN | apply below_drew1) | exact HB.out))) : w.heap.size ≤ gb364)); clear HB; have HB := n0_; have BK364 := n1_; have GW364 := n2_; have GE364 := n3_; clear n0_ n1_ n2_ n3_; clear hb hbox hg; have hcz28_0 : w27.cell? ⟨gb364, 0, none⟩ = some (.bool true) := (blk_cell BK364.out 0).trans rfl; have hcz28_1 : w27.cell? ⟨gb364, 1, none⟩ = some (.int .u32 a0_1) := (blk_cell BK364.out 1).trans rfl; have hcz28_2 : w27.cell? ⟨gb364, 2, none⟩ = some (.int .u8 a0_2) := (blk_cell BK364.out 2).trans rfl; have hcz28_3 : w27.cell? ⟨gb364, 3, none⟩ = some (.int .u8 a0_3) := (blk_cell BK364.out 3).trans rfl; have hcz28_4 : w27.cell? ⟨gb364, 4, none⟩ = some (.int .u32 a0_4) := (blk_cell BK364.out 4).trans rfl; have hcz28_5 : w27.cell? ⟨gb364, 5, none⟩ = some (.slice A0_5 l0_5.length c0_5) := (blk_cell BK364.out 5).trans rfl; have hcz28_6 : w27.cell? ⟨gb364, 6, none⟩ = some (.int .u32 a0_6) := (blk_cell BK364.out 6).trans rfl; have hfz28_0 := blk_frozen BK364.out 0; have hfz28_1 := blk_frozen BK364.out 1; have hfz28_2 := blk_frozen BK364.out 2; have hfz28_3 := blk_frozen BK364.out 3; have hfz28_4 := blk_frozen BK364.out 4; have hfz28_5 := blk_frozen BK364.out 5; have hfz28_6 := blk_frozen BK364.out 6) | ((with_reducible refine gate_callee (f := 36) rfl ?_); refine goesL_ (some 48) rfl rfl Try.func36 (by kernel_rfl) rfl #[.slice A0_5 l0_5.length c0_5] rfl (by (try simp only [List.map_toArray, List.map_cons, List.map_nil]); first | done | rfl | (simp only [List.length_drop, List.length_take]; rfl)) ?_; (with_reducible refine (know_Right.calls k _ _ l0_5 true _ ?side1 ?side2 A9.out).mono ?_); (case side1 => repeat (first | exact (Kd.C_below HR0_5.out HB.out) | (with_reducible refine Kd.C_alloc ?_ _) | (with_reducible refine Kd.C_drewN ?_ _) | (with_reducible refine Kd.C_drew ?_))); (case side2 => exact HC0_5.out); rintro e w29 ⟨rfl, hb⟩; refine ⟨_, rfl, ?_⟩; have n0_ := Aside0.mk (blk_below (g := gb364) (o := .cells #[.bool true, .int .u32 a0_1, .int .u8 a0_2, .int .u8 a0_3, .int .u32 a0_4, .slice A0_5 l0_5.length c0_5, .int .u32 a0_6] 49 (0, 0)) (by (with_reducible repeat (first | refine blk_drewN ?_ _ | refine blk_drew ?_ | refine blk_alloc ?_ _)); exact BK364.out) hb); have n1_ := Aside0.mk (below_step (by repeat (first | (with_reducible first | exact HB.out | apply below_alloc | apply pw_below_drewN | apply below_drew1 | refine below_set ?_ GE364.out) | exact HB.out)) hb); clear BK364; clear HB; have BK364 := n0_; have HB := n1_; clear n0_ n1_; (try clear hb); (try clear hb2); (try clear hk); (try clear hi); have hcz30_0 : w29.cell? ⟨gb364, 0, none⟩ = some (.bool true) := (blk_cell BK364.out 0).trans rfl; have hcz30_1 : w29.cell? ⟨gb364, 1, none⟩ = some (.int .u32 a0_1) := (blk_cell BK364.out 1).trans rfl; have hcz30_2 : w29.cell? ⟨gb364, 2, none⟩ = some (.int .u8 a0_2) := (blk_cell BK364.out 2).trans rfl; have hcz30_3 : w29.cell? ⟨gb364, 3, none⟩ = some (.int .u8 a0_3) := (blk_cell BK364.out 3).trans rfl; have hcz30_4 : w29.cell? ⟨gb364, 4, none⟩ = some (.int .u32 a0_4) := (blk_cell BK364.out 4).trans rfl; have hcz30_5 : w29.cell? ⟨gb364, 5, none⟩ = some (.slice A0_5 l0_5.length c0_5) := (blk_cell BK364.out 5).trans rfl; have hcz30_6 : w29.cell? ⟨gb364, 6, none⟩ = some (.int .u32 a0_6) := (blk_cell BK364.out 6).trans rfl; have hfz30_0 := blk_frozen BK364.out 0; have hfz30_1 := blk_frozen BK364.out 1; have hfz30_2 := blk_frozen BK364.out 2; have hfz30_3 := blk_frozen BK364.out 3; have hfz30_4 := blk_frozen BK364.out 4; have hfz30_5 := blk_frozen BK364.out 5; have hfz30_6 := blk_frozen BK364.out 6))
                go_ret
                exact ⟨by first | rfl | (simp [errW_none, errW_some] <;> rfl) | (simp [*, errW_none, errW_some] <;> rfl), by repeat (first | (with_reducible first | exact HB.out | apply below_alloc | apply pw_below_drewN | apply below_drew1 | refine below_set ?_ GE364.out) | exact HB.out)⟩
            · rw [if_neg c11] at H
              have c11b0 : decide (1 ≤ a0_1) = false := decide_eq_false c11
              clear c11
              obtain rfl := Option.some.inj H
              go_enter Try.func74, Try.ntmps74
              go_wp2_with (first | ((with_reducible refine gate_dst (N := 2) rfl ?_); (try (refine gate_guard (by rfl) ?_; dsimp only)); refine box_event ?hg (N := 2) ?hd (cs := #[.bool true, .int .u32 a0_1, .int .u8 a0_2, .int .u8 a0_3, .int .u32 a0_4, .slice A0_5 l0_5.length c0_5, .int .u32 a0_6]) (t := 49) ?hr ?_; (case hd => rfl); (case hg => rfl); (case hr => first | (go_simp; done) | (go_simp; rfl)); intro gb364 hg w31 hbox hb; have n0_ := Aside0.mk (below_step (by repeat (first | (with_reducible first | exact HB.out | apply below_alloc | apply pw_below_drewN | apply below_drew1) | exact HB.out)) hb); have n1_ := Aside0.mk (hbox); have n2_ := Aside0.mk ((by rw [hg]; exact (below_size (by repeat (first | (with_reducible first | exact HB.out | apply below_alloc | apply pw_below_drewN | apply below_drew1) | exact HB.out))) : w.heap.size ≤ gb364)); have n3_ := Aside0.mk ((by rw [hg]; exact (below_size (by repeat (first | (with_reducible first | exact HB.out | apply below_alloc | apply pw_below_drewN | apply below_drew1) | exact HB.out))) : w.heap.size ≤ gb364)); clear HB; have HB := n0_; have BK364 := n1_; have GW364 := n2_; have GE364 := n3_; clear n0_ n1_ n2_ n3_; clear hb hbox hg; have hcz32_0 : w31.cell? ⟨gb364, 0, none⟩ = some (.bool true) := (blk_cell BK364.out 0).trans rfl; have hcz32_1 : w31.cell? ⟨gb364, 1, none⟩ = some (.int .u32 a0_1) := (blk_cell BK364.out 1).trans rfl; have hcz32_2 : w31.cell? ⟨gb364, 2, none⟩ = some (.int .u8 a0_2) := (blk_cell BK364.out 2).trans rfl; have hcz32_3 : w31.cell? ⟨gb364, 3, none⟩ = some (.int .u8 a0_3) := (blk_cell BK364.out 3).trans rfl; have hcz32_4 : w31.cell? ⟨gb364, 4, none⟩ = some (.int .u32 a0_4) := (blk_cell BK364.out 4).trans rfl; have hcz32_5 : w31.cell? ⟨gb364, 5, none⟩ = some (.slice A0_5 l0_5.length c0_5) := (blk_cell BK364.out 5).trans rfl; have hcz32_6 : w31.cell? ⟨gb364, 6, none⟩ = some (.int .u32 a0_6) := (blk_cell BK364.out 6).trans rfl; have hfz32_0 := blk_frozen BK364.out 0; have hfz32_1 := blk_frozen BK364.out 1; have hfz32_2 := blk_frozen BK364.out 2; have hfz32_3 := blk_frozen BK364.out 3; have hfz32_4 := blk_frozen BK364.out 4; have hfz32_5 := blk_frozen BK364.out 5; have hfz32_6 := blk_frozen BK364.out 6) | ((with_reducible refine gate_callee (f := 36) rfl ?_); refine goesL_ (some 48) rfl rfl Try.func36 (by kernel_rfl) rfl #[.slice A0_5 l0_5.length c0_5] rfl (by (try simp only [List.map_toArray, List.map_cons, List.map_nil]); first | done | rfl | (simp only [List.length_drop, List.length_take]; rfl)) ?_; (with_reducible refine (know_Right.calls k _ _ l0_5 true _ ?side1 ?side2 A9.out).mono ?_); (case side1 => repeat (first | exact (Kd.C_below HR0_5.out HB.out) | (with_reducible refine Kd.C_alloc ?_ _) | (with_reducible refine Kd.C_drewN ?_ _) | (with_reducible refine Kd.C_drew ?_))); (case side2 => exact HC0_5.out); rintro e w33 ⟨rfl, hb⟩; refine ⟨_, rfl, ?_⟩; have n0_ := Aside0.mk (blk_below (g := gb364) (o := .cells #[.bool true, .int .u32 a0_1, .int .u8 a0_2, .int .u8 a0_3, .int .u32 a0_4, .slice A0_5 l0_5.length c0_5, .int .u32 a0_6] 49 (0, 0)) (by (with_reducible repeat (first | refine blk_drewN ?_ _ | refine blk_drew ?_ | refine blk_alloc ?_ _)); exact BK364.out) hb); have n1_ := Aside0.mk (below_step (by repeat (first | (with_reducible first | exact HB.out | apply below_alloc | apply pw_below_drewN | apply below_drew1 | refine below_set ?_ GE364.out) | exact HB.out)) hb); clear BK364; clear HB; have BK364 := n0_; have HB := n1_; clear n0_ n1_; (try clear hb); (try clear hb2); (try clear hk); (try clear hi); have hcz34_0 : w33.cell? ⟨gb364, 0, none⟩ = some (.bool true) := (blk_cell BK364.out 0).trans rfl; have hcz34_1 : w33.cell? ⟨gb364, 1, none⟩ = some (.int .u32 a0_1) := (blk_cell BK364.out 1).trans rfl; have hcz34_2 : w33.cell? ⟨gb364, 2, none⟩ = some (.int .u8 a0_2) := (blk_cell BK364.out 2).trans rfl; have hcz34_3 : w33.cell? ⟨gb364, 3, none⟩ = some (.int .u8 a0_3) := (blk_cell BK364.out 3).trans rfl; have hcz34_4 : w33.cell? ⟨gb364, 4, none⟩ = some (.int .u32 a0_4) := (blk_cell BK364.out 4).trans rfl; have hcz34_5 : w33.cell? ⟨gb364, 5, none⟩ = some (.slice A0_5 l0_5.length c0_5) := (blk_cell BK364.out 5).trans rfl; have hcz34_6 : w33.cell? ⟨gb364, 6, none⟩ = some (.int .u32 a0_6) := (blk_cell BK364.out 6).trans rfl; have hfz34_0 := blk_frozen BK364.out 0; have hfz34_1 := blk_frozen BK364.out 1; have hfz34_2 := blk_frozen BK364.out 2; have hfz34_3 := blk_frozen BK364.out 3; have hfz34_4 := blk_frozen BK364.out 4; have hfz34_5 := blk_frozen BK364.out 5; have hfz34_6 := blk_frozen BK364.out 6))
              go_ret
              exact ⟨by first | rfl | (simp [errW_none, errW_some] <;> rfl) | (simp [*, errW_none, errW_some] <;> rfl), by repeat (first | (with_reducible first | exact HB.out | apply below_alloc | apply pw_below_drewN | apply below_drew1 | refine below_set ?_ GE364.out) | exact HB.out)⟩
          · replace c10 := Bool.eq_false_iff.mpr c10
            subst c10
            have H1 : (some false) = some r := by rw [if_neg (show ¬ (false = true) by decide)] at H; exact H
            clear H
            have H := H1
            clear H1
            obtain rfl := Option.some.inj H
            go_enter Try.func74, Try.ntmps74
            go_wp2_with (first | ((with_reducible refine gate_dst (N := 2) rfl ?_); (try (refine gate_guard (by rfl) ?_; dsimp only)); refine box_event ?hg (N := 2) ?hd (cs := #[.bool true, .int .u32 a0_1, .int .u8 a0_2, .int .u8 a0_3, .int .u32 a0_4, .slice A0_5 l0_5.length c0_5, .int .u32 a0_6]) (t := 49) ?hr ?_; (case hd => rfl); (case hg => rfl); (case hr => first | (go_simp; done) | (go_simp; rfl)); intro gb364 hg w35 hbox hb; have n0_ := Aside0.mk (below_step (by repeat (first | (with_reducible first | exact HB.out | apply below_alloc | apply pw_below_drewN | apply below_drew1) | exact HB.out)) hb); have n1_ := Aside0.mk (hbox); have n2_ := Aside0.mk ((by rw [hg]; exact (below_size (by repeat (first | (with_reducible first | exact HB.out | apply below_alloc | apply pw_below_drewN | apply below_drew1) | exact HB.out))) : w.heap.size ≤ gb364)); have n3_ := Aside0.mk ((by rw [hg]; exact (below_size (by repeat (first | (with_reducible first | exact HB.out | apply below_alloc | apply pw_below_drewN | apply below_drew1) | exact HB.out))) : w.heap.size ≤ gb364)); clear HB; have HB := n0_; have BK364 := n1_; have GW364 := n2_; have GE364 := n3_; clear n0_ n1_ n2_ n3_; clear hb hbox hg; have hcz36_0 : w35.cell? ⟨gb364, 0, none⟩ = some (.bool true) := (blk_cell BK364.out 0).trans rfl; have hcz36_1 : w35.cell? ⟨gb364, 1, none⟩ = some (.int .u32 a0_1) := (blk_cell BK364.out 1).trans rfl; have hcz36_2 : w35.cell? ⟨gb364, 2, none⟩ = some (.int .u8 a0_2) := (blk_cell BK364.out 2).trans rfl; have hcz36_3 : w35.cell? ⟨gb364, 3, none⟩ = some (.int .u8 a0_3) := (blk_cell BK364.out 3).trans rfl; have hcz36_4 : w35.cell? ⟨gb364, 4, none⟩ = some (.int .u32 a0_4) := (blk_cell BK364.out 4).trans rfl; have hcz36_5 : w35.cell? ⟨gb364, 5, none⟩ = some (.slice A0_5 l0_5.length c0_5) := (blk_cell BK364.out 5).trans rfl; have hcz36_6 : w35.cell? ⟨gb364, 6, none⟩ = some (.int .u32 a0_6) := (blk_cell BK364.out 6).trans rfl; have hfz36_0 := blk_frozen BK364.out 0; have hfz36_1 := blk_frozen BK364.out 1; have hfz36_2 := blk_frozen BK364.out 2; have hfz36_3 := blk_frozen BK364.out 3; have hfz36_4 := blk_frozen BK364.out 4; have hfz36_5 := blk_frozen BK364.out 5; have hfz36_6 := blk_frozen BK364.out 6) | ((with_reducible refine gate_callee (f := 36) rfl ?_); refine goesL_ (some 48) rfl rfl Try.func36 (by kernel_rfl) rfl #[.slice A0_5 l0_5.length c0_5] rfl (by (try simp only [List.map_toArray, List.map_cons, List.map_nil]); first | done | rfl | (simp only [List.length_drop, List.length_take]; rfl)) ?_; (with_reducible refine (know_Right.calls k _ _ l0_5 false _ ?side1 ?side2 A9.out).mono ?_); (case side1 => repeat (first | exact (Kd.C_below HR0_5.out HB.out) | (with_reducible refine Kd.C_alloc ?_ _) | (with_reducible refine Kd.C_drewN ?_ _) | (with_reducible refine Kd.C_drew ?_))); (case side2 => exact HC0_5.out); rintro e w37 ⟨rfl, hb⟩; refine ⟨_, rfl, ?_⟩; have n0_ := Aside0.mk (blk_below (g := gb364) (o := .cells #[.bool true, .int .u32 a0_1, .int .u8 a0_2, .int .u8 a0_3, .int .u32 a0_4, .slice A0_5 l0_5.length c0_5, .int .u32 a0_6] 49 (0, 0)) (by (with_reducible repeat (first | refine blk_drewN ?_ _ | refine blk_drew ?_ | refine blk_alloc ?_ _)); exact BK364.out) hb); have n1_ := Aside0.mk (below_step (by repeat (first | (with_reducible first | exact HB.out | apply below_alloc | apply pw_below_drewN | apply below_drew1 | refine below_set ?_ GE364.out) | exact HB.out)) hb); clear BK364; clear HB; have BK364 := n0_; have HB := n1_; clear n0_ n1_; (try clear hb); (try clear hb2); (try clear hk); (try clear hi)))
            go_ret
            exact ⟨by first | rfl | (simp [errW_none, errW_some] <;> rfl) | (simp [*, errW_none, errW_some] <;> rfl), by repeat (first | (with_reducible first | exact HB.out | apply below_alloc | apply pw_below_drewN | apply below_drew1 | refine below_set ?_ GE364.out) | exact HB.out)⟩
      · rw [if_neg c5] at H
        have c5b0 : (a0_4 == 0) = false := beq_eq_false_iff_ne.mpr c5
        have c5b1 : (a0_4 != 0) = true := bne_iff_ne.mpr c5
        obtain rfl := Option.some.inj H
        go_enter Try.func74, Try.ntmps74
        go_wp2_with (first | ((with_reducible refine gate_dst (N := 2) rfl ?_); (try (refine gate_guard (by rfl) ?_; dsimp only)); refine box_event ?hg (N := 2) ?hd (cs := #[.bool true, .int .u32 a0_1, .int .u8 a0_2, .int .u8 a0_3, .int .u32 a0_4, .slice A0_5 l0_5.length c0_5, .int .u32 a0_6]) (t := 49) ?hr ?_; (case hd => rfl); (case hg => rfl); (case hr => first | (go_simp; done) | (go_simp; rfl)); intro gb364 hg w38 hbox hb; have n0_ := Aside0.mk (below_step (by repeat (first | (with_reducible first | exact HB.out | apply below_alloc | apply pw_below_drewN | apply below_drew1) | exact HB.out)) hb); have n1_ := Aside0.mk (hbox); have n2_ := Aside0.mk ((by rw [hg]; exact (below_size (by repeat (first | (with_reducible first | exact HB.out | apply below_alloc | apply pw_below_drewN | apply below_drew1) | exact HB.out))) : w.heap.size ≤ gb364)); have n3_ := Aside0.mk ((by rw [hg]; exact (below_size (by repeat (first | (with_reducible first | exact HB.out | apply below_alloc | apply pw_below_drewN | apply below_drew1) | exact HB.out))) : w.heap.size ≤ gb364)); clear HB; have HB := n0_; have BK364 := n1_; have GW364 := n2_; have GE364 := n3_; clear n0_ n1_ n2_ n3_; clear hb hbox hg; have hcz39_0 : w38.cell? ⟨gb364, 0, none⟩ = some (.bool true) := (blk_cell BK364.out 0).trans rfl; have hcz39_1 : w38.cell? ⟨gb364, 1, none⟩ = some (.int .u32 a0_1) := (blk_cell BK364.out 1).trans rfl; have hcz39_2 : w38.cell? ⟨gb364, 2, none⟩ = some (.int .u8 a0_2) := (blk_cell BK364.out 2).trans rfl; have hcz39_3 : w38.cell? ⟨gb364, 3, none⟩ = some (.int .u8 a0_3) := (blk_cell BK364.out 3).trans rfl; have hcz39_4 : w38.cell? ⟨gb364, 4, none⟩ = some (.int .u32 a0_4) := (blk_cell BK364.out 4).trans rfl; have hcz39_5 : w38.cell? ⟨gb364, 5, none⟩ = some (.slice A0_5 l0_5.length c0_5) := (blk_cell BK364.out 5).trans rfl; have hcz39_6 : w38.cell? ⟨gb364, 6, none⟩ = some (.int .u32 a0_6) := (blk_cell BK364.out 6).trans rfl; have hfz39_0 := blk_frozen BK364.out 0; have hfz39_1 := blk_frozen BK364.out 1; have hfz39_2 := blk_frozen BK364.out 2; have hfz39_3 := blk_frozen BK364.out 3; have hfz39_4 := blk_frozen BK364.out 4; have hfz39_5 := blk_frozen BK364.out 5; have hfz39_6 := blk_frozen BK364.out 6))
        go_ret
        exact ⟨by first | rfl | (simp [errW_none, errW_some] <;> rfl) | (simp [*, errW_none, errW_some] <;> rfl), by repeat (first | (with_reducible first | exact HB.out | apply below_alloc | apply pw_below_drewN | apply below_drew1 | refine below_set ?_ GE364.out) | exact HB.out)⟩
    · rw [if_neg c4] at H
      have c4b0 : (a0_3 == 0) = false := beq_eq_false_iff_ne.mpr c4
      have c4b1 : (a0_3 != 0) = true := bne_iff_ne.mpr c4
      replace H := Option.bind_eq_some_iff.mp H
      obtain ⟨t366, A400, H⟩ := H
      replace H : (if t366 = true then (if a0_1 ≥ 1 then (if a0_1 ≤ a0_6 then (if a0_2 < 8 then (if a0_2 = a1 then (some false) else (some (decide (a0_3 < 64)))) else (some false)) else (some false)) else (some false)) else (some false)) = some r := H
      have A40 := Aside0.mk A400
      clear A400
      by_cases c41 : t366 = true
      · subst c41
        have H1 : (if a0_1 ≥ 1 then (if a0_1 ≤ a0_6 then (if a0_2 < 8 then (if a0_2 = a1 then (some false) else (some (decide (a0_3 < 64)))) else (some false)) else (some false)) else (some false)) = some r := by rw [if_pos rfl] at H; exact H
        clear H
        have H := H1
        clear H1
        by_cases c42 : a0_1 ≥ 1
        · rw [if_pos c42] at H
          have c42b0 : decide (1 ≤ a0_1) = true := decide_eq_true c42
          clear c42
          by_cases c43 : a0_1 ≤ a0_6
          · rw [if_pos c43] at H
            have c43b0 : decide (a0_1 ≤ a0_6) = true := decide_eq_true c43
            clear c43
            by_cases c44 : a0_2 < 8
            · rw [if_pos c44] at H
              have c44b0 : decide (a0_2 < 8) = true := decide_eq_true c44
              clear c44
              by_cases c45 : a0_2 = a1
              · rw [if_pos c45] at H
                have c45b0 : (a0_2 == a1) = true := beq_iff_eq.mpr c45
                have c45b1 : (a0_2 != a1) = false := bne_eq_false_iff_eq.mpr c45
                clear c45
                obtain rfl := Option.some.inj H
                go_enter Try.func74, Try.ntmps74
                go_wp2_with (first | ((with_reducible refine gate_dst (N := 2) rfl ?_); (try (refine gate_guard (by rfl) ?_; dsimp only)); refine box_event ?hg (N := 2) ?hd (cs := #[.bool true, .int .u32 a0_1, .int .u8 a0_2, .int .u8 a0_3, .int .u32 a0_4, .slice A0_5 l0_5.length c0_5, .int .u32 a0_6]) (t := 49) ?hr ?_; (case hd => rfl); (case hg => rfl); (case hr => first | (go_simp; done) | (go_simp; rfl)); intro gb364 hg w46 hbox hb; have n0_ := Aside0.mk (below_step (by repeat (first | (with_reducible first | exact HB.out | apply below_alloc | apply pw_below_drewN | apply below_drew1) | exact HB.out)) hb); have n1_ := Aside0.mk (hbox); have n2_ := Aside0.mk ((by rw [hg]; exact (below_size (by repeat (first | (with_reducible first | exact HB.out | apply below_alloc | apply pw_below_drewN | apply below_drew1) | exact HB.out))) : w.heap.size ≤ gb364)); have n3_ := Aside0.mk ((by rw [hg]; exact (below_size (by repeat (first | (with_reducible first | exact HB.out | apply below_alloc | apply pw_below_drewN | apply below_drew1) | exact HB.out))) : w.heap.size ≤ gb364)); clear HB; have HB := n0_; have BK364 := n1_; have GW364 := n2_; have GE364 := n3_; clear n0_ n1_ n2_ n3_; clear hb hbox hg; have hcz47_0 : w46.cell? ⟨gb364, 0, none⟩ = some (.bool true) := (blk_cell BK364.out 0).trans rfl; have hcz47_1 : w46.cell? ⟨gb364, 1, none⟩ = some (.int .u32 a0_1) := (blk_cell BK364.out 1).trans rfl; have hcz47_2 : w46.cell? ⟨gb364, 2, none⟩ = some (.int .u8 a0_2) := (blk_cell BK364.out 2).trans rfl; have hcz47_3 : w46.cell? ⟨gb364, 3, none⟩ = some (.int .u8 a0_3) := (blk_cell BK364.out 3).trans rfl; have hcz47_4 : w46.cell? ⟨gb364, 4, none⟩ = some (.int .u32 a0_4) := (blk_cell BK364.out 4).trans rfl; have hcz47_5 : w46.cell? ⟨gb364, 5, none⟩ = some (.slice A0_5 l0_5.length c0_5) := (blk_cell BK364.out 5).trans rfl; have hcz47_6 : w46.cell? ⟨gb364, 6, none⟩ = some (.int .u32 a0_6) := (blk_cell BK364.out 6).trans rfl; have hfz47_0 := blk_frozen BK364.out 0; have hfz47_1 := blk_frozen BK364.out 1; have hfz47_2 := blk_frozen BK364.out 2; have hfz47_3 := blk_frozen BK364.out 3; have hfz47_4 := blk_frozen BK364.out 4; have hfz47_5 := blk_frozen BK364.out 5; have hfz47_6 := blk_frozen BK364.out 6) | ((with_reducible refine gate_callee (f := 36) rfl ?_); refine goesL_ (some 48) rfl rfl Try.func36 (by kernel_rfl) rfl #[.slice A0_5 l0_5.length c0_5] rfl (by (try simp only [List.map_toArray, List.map_cons, List.map_nil]); first | done | rfl | (simp only [List.length_drop, List.length_take]; rfl)) ?_; (with_reducible refine (know_Right.calls k _ _ l0_5 true _ ?side1 ?side2 A40.out).mono ?_); (case side1 => repeat (first | exact (Kd.C_below HR0_5.out HB.out) | (with_reducible refine Kd.C_alloc ?_ _) | (with_reducible refine Kd.C_drewN ?_ _) | (with_reducible refine Kd.C_drew ?_))); (case side2 => exact HC0_5.out); rintro e w48 ⟨rfl, hb⟩; refine ⟨_, rfl, ?_⟩; have n0_ := Aside0.mk (blk_below (g := gb364) (o := .cells #[.bool true, .int .u32 a0_1, .int .u8 a0_2, .int .u8 a0_3, .int .u32 a0_4, .slice A0_5 l0_5.length c0_5, .int .u32 a0_6] 49 (0, 0)) (by (with_reducible repeat (first | refine blk_drewN ?_ _ | refine blk_drew ?_ | refine blk_alloc ?_ _)); exact BK364.out) hb); have n1_ := Aside0.mk (below_step (by repeat (first | (with_reducible first | exact HB.out | apply below_alloc | apply pw_below_drewN | apply below_drew1 | refine below_set ?_ GE364.out) | exact HB.out)) hb); clear BK364; clear HB; have BK364 := n0_; have HB := n1_; clear n0_ n1_; (try clear hb); (try clear hb2); (try clear hk); (try clear hi); have hcz49_0 : w48.cell? ⟨gb364, 0, none⟩ = some (.bool true) := (blk_cell BK364.out 0).trans rfl; have hcz49_1 : w48.cell? ⟨gb364, 1, none⟩ = some (.int .u32 a0_1) := (blk_cell BK364.out 1).trans rfl; have hcz49_2 : w48.cell? ⟨gb364, 2, none⟩ = some (.int .u8 a0_2) := (blk_cell BK364.out 2).trans rfl; have hcz49_3 : w48.cell? ⟨gb364, 3, none⟩ = some (.int .u8 a0_3) := (blk_cell BK364.out 3).trans rfl; have hcz49_4 : w48.cell? ⟨gb364, 4, none⟩ = some (.int .u32 a0_4) := (blk_cell BK364.out 4).trans rfl; have hcz49_5 : w48.cell? ⟨gb364, 5, none⟩ = some (.slice A0_5 l0_5.length c0_5) := (blk_cell BK364.out 5).trans rfl; have hcz49_6 : w48.cell? ⟨gb364, 6, none⟩ = some (.int .u32 a0_6) := (blk_cell BK364.out 6).trans rfl; have hfz49_0 := blk_frozen BK364.out 0; have hfz49_1 := blk_frozen BK364.out 1; have hfz49_2 := blk_frozen BK364.out 2; have hfz49_3 := blk_frozen BK364.out 3; have hfz49_4 := blk_frozen BK364.out 4; have hfz49_5 := blk_frozen BK364.out 5; have hfz49_6 := blk_frozen BK364.out 6))
                go_ret
                exact ⟨by first | rfl | (simp [errW_none, errW_some] <;> rfl) | (simp [*, errW_none, errW_some] <;> rfl), by repeat (first | (with_reducible first | exact HB.out | apply below_alloc | apply pw_below_drewN | apply below_drew1 | refine below_set ?_ GE364.out) | exact HB.out)⟩
              · rw [if_neg c45] at H
                have c45b0 : (a0_2 == a1) = false := beq_eq_false_iff_ne.mpr c45
                have c45b1 : (a0_2 != a1) = true := bne_iff_ne.mpr c45
                obtain rfl := Option.some.inj H
                go_enter Try.func74, Try.ntmps74
                go_wp2_with (first | ((with_reducible refine gate_dst (N := 2) rfl ?_); (try (refine gate_guard (by rfl) ?_; dsimp only)); refine box_event ?hg (N := 2) ?hd (cs := #[.bool true, .int .u32 a0_1, .int .u8 a0_2, .int .u8 a0_3, .int .u32 a0_4, .slice A0_5 l0_5.length c0_5, .int .u32 a0_6]) (t := 49) ?hr ?_; (case hd => rfl); (case hg => rfl); (case hr => first | (go_simp; done) | (go_simp; rfl)); intro gb364 hg w50 hbox hb; have n0_ := Aside0.mk (below_step (by repeat (first | (with_reducible first | exact HB.out | apply below_alloc | apply pw_below_drewN | apply below_drew1) | exact HB.out)) hb); have n1_ := Aside0.mk (hbox); have n2_ := Aside0.mk ((by rw [hg]; exact (below_size (by repeat (first | (with_reducible first | exact HB.out | apply below_alloc | apply pw_below_drewN | apply below_drew1) | exact HB.out))) : w.heap.size ≤ gb364)); have n3_ := Aside0.mk ((by rw [hg]; exact (below_size (by repeat (first | (with_reducible first | exact HB.out | apply below_alloc | apply pw_below_drewN | apply below_drew1) | exact HB.out))) : w.heap.size ≤ gb364)); clear HB; have HB := n0_; have BK364 := n1_; have GW364 := n2_; have GE364 := n3_; clear n0_ n1_ n2_ n3_; clear hb hbox hg; have hcz51_0 : w50.cell? ⟨gb364, 0, none⟩ = some (.bool true) := (blk_cell BK364.out 0).trans rfl; have hcz51_1 : w50.cell? ⟨gb364, 1, none⟩ = some (.int .u32 a0_1) := (blk_cell BK364.out 1).trans rfl; have hcz51_2 : w50.cell? ⟨gb364, 2, none⟩ = some (.int .u8 a0_2) := (blk_cell BK364.out 2).trans rfl; have hcz51_3 : w50.cell? ⟨gb364, 3, none⟩ = some (.int .u8 a0_3) := (blk_cell BK364.out 3).trans rfl; have hcz51_4 : w50.cell? ⟨gb364, 4, none⟩ = some (.int .u32 a0_4) := (blk_cell BK364.out 4).trans rfl; have hcz51_5 : w50.cell? ⟨gb364, 5, none⟩ = some (.slice A0_5 l0_5.length c0_5) := (blk_cell BK364.out 5).trans rfl; have hcz51_6 : w50.cell? ⟨gb364, 6, none⟩ = some (.int .u32 a0_6) := (blk_cell BK364.out 6).trans rfl; have hfz51_0 := blk_frozen BK364.out 0; have hfz51_1 := blk_frozen BK364.out 1; have hfz51_2 := blk_frozen BK364.out 2; have hfz51_3 := blk_frozen BK364.out 3; have hfz51_4 := blk_frozen BK364.out 4; have hfz51_5 := blk_frozen BK364.out 5; have hfz51_6 := blk_frozen BK364.out 6) | ((with_reducible refine gate_callee (f := 36) rfl ?_); refine goesL_ (some 48) rfl rfl Try.func36 (by kernel_rfl) rfl #[.slice A0_5 l0_5.length c0_5] rfl (by (try simp only [List.map_toArray, List.map_cons, List.map_nil]); first | done | rfl | (simp only [List.length_drop, List.length_take]; rfl)) ?_; (with_reducible refine (know_Right.calls k _ _ l0_5 true _ ?side1 ?side2 A40.out).mono ?_); (case side1 => repeat (first | exact (Kd.C_below HR0_5.out HB.out) | (with_reducible refine Kd.C_alloc ?_ _) | (with_reducible refine Kd.C_drewN ?_ _) | (with_reducible refine Kd.C_drew ?_))); (case side2 => exact HC0_5.out); rintro e w52 ⟨rfl, hb⟩; refine ⟨_, rfl, ?_⟩; have n0_ := Aside0.mk (blk_below (g := gb364) (o := .cells #[.bool true, .int .u32 a0_1, .int .u8 a0_2, .int .u8 a0_3, .int .u32 a0_4, .slice A0_5 l0_5.length c0_5, .int .u32 a0_6] 49 (0, 0)) (by (with_reducible repeat (first | refine blk_drewN ?_ _ | refine blk_drew ?_ | refine blk_alloc ?_ _)); exact BK364.out) hb); have n1_ := Aside0.mk (below_step (by repeat (first | (with_reducible first | exact HB.out | apply below_alloc | apply pw_below_drewN | apply below_drew1 | refine below_set ?_ GE364.out) | exact HB.out)) hb); clear BK364; clear HB; have BK364 := n0_; have HB := n1_; clear n0_ n1_; (try clear hb); (try clear hb2); (try clear hk); (try clear hi); have hcz53_0 : w52.cell? ⟨gb364, 0, none⟩ = some (.bool true) := (blk_cell BK364.out 0).trans rfl; have hcz53_1 : w52.cell? ⟨gb364, 1, none⟩ = some (.int .u32 a0_1) := (blk_cell BK364.out 1).trans rfl; have hcz53_2 : w52.cell? ⟨gb364, 2, none⟩ = some (.int .u8 a0_2) := (blk_cell BK364.out 2).trans rfl; have hcz53_3 : w52.cell? ⟨gb364, 3, none⟩ = some (.int .u8 a0_3) := (blk_cell BK364.out 3).trans rfl; have hcz53_4 : w52.cell? ⟨gb364, 4, none⟩ = some (.int .u32 a0_4) := (blk_cell BK364.out 4).trans rfl; have hcz53_5 : w52.cell? ⟨gb364, 5, none⟩ = some (.slice A0_5 l0_5.length c0_5) := (blk_cell BK364.out 5).trans rfl; have hcz53_6 : w52.cell? ⟨gb364, 6, none⟩ = some (.int .u32 a0_6) := (blk_cell BK364.out 6).trans rfl; have hfz53_0 := blk_frozen BK364.out 0; have hfz53_1 := blk_frozen BK364.out 1; have hfz53_2 := blk_frozen BK364.out 2; have hfz53_3 := blk_frozen BK364.out 3; have hfz53_4 := blk_frozen BK364.out 4; have hfz53_5 := blk_frozen BK364.out 5; have hfz53_6 := blk_frozen BK364.out 6))
                go_ret
                exact ⟨by first | rfl | (simp [errW_none, errW_some] <;> rfl) | (simp [*, errW_none, errW_some] <;> rfl), by repeat (first | (with_reducible first | exact HB.out | apply below_alloc | apply pw_below_drewN | apply below_drew1 | refine below_set ?_ GE364.out) | exact HB.out)⟩
            · rw [if_neg c44] at H
              have c44b0 : decide (a0_2 < 8) = false := decide_eq_false c44
              clear c44
              obtain rfl := Option.some.inj H
              go_enter Try.func74, Try.ntmps74
              go_wp2_with (first | ((with_reducible refine gate_dst (N := 2) rfl ?_); (try (refine gate_guard (by rfl) ?_; dsimp only)); refine box_event ?hg (N := 2) ?hd (cs := #[.bool true, .int .u32 a0_1, .int .u8 a0_2, .int .u8 a0_3, .int .u32 a0_4, .slice A0_5 l0_5.length c0_5, .int .u32 a0_6]) (t := 49) ?hr ?_; (case hd => rfl); (case hg => rfl); (case hr => first | (go_simp; done) | (go_simp; rfl)); intro gb364 hg w54 hbox hb; have n0_ := Aside0.mk (below_step (by repeat (first | (with_reducible first | exact HB.out | apply below_alloc | apply pw_below_drewN | apply below_drew1) | exact HB.out)) hb); have n1_ := Aside0.mk (hbox); have n2_ := Aside0.mk ((by rw [hg]; exact (below_size (by repeat (first | (with_reducible first | exact HB.out | apply below_alloc | apply pw_below_drewN | apply below_drew1) | exact HB.out))) : w.heap.size ≤ gb364)); have n3_ := Aside0.mk ((by rw [hg]; exact (below_size (by repeat (first | (with_reducible first | exact HB.out | apply below_alloc | apply pw_below_drewN | apply below_drew1) | exact HB.out))) : w.heap.size ≤ gb364)); clear HB; have HB := n0_; have BK364 := n1_; have GW364 := n2_; have GE364 := n3_; clear n0_ n1_ n2_ n3_; clear hb hbox hg; have hcz55_0 : w54.cell? ⟨gb364, 0, none⟩ = some (.bool true) := (blk_cell BK364.out 0).trans rfl; have hcz55_1 : w54.cell? ⟨gb364, 1, none⟩ = some (.int .u32 a0_1) := (blk_cell BK364.out 1).trans rfl; have hcz55_2 : w54.cell? ⟨gb364, 2, none⟩ = some (.int .u8 a0_2) := (blk_cell BK364.out 2).trans rfl; have hcz55_3 : w54.cell? ⟨gb364, 3, none⟩ = some (.int .u8 a0_3) := (blk_cell BK364.out 3).trans rfl; have hcz55_4 : w54.cell? ⟨gb364, 4, none⟩ = some (.int .u32 a0_4) := (blk_cell BK364.out 4).trans rfl; have hcz55_5 : w54.cell? ⟨gb364, 5, none⟩ = some (.slice A0_5 l0_5.length c0_5) := (blk_cell BK364.out 5).trans rfl; have hcz55_6 : w54.cell? ⟨gb364, 6, none⟩ = some (.int .u32 a0_6) := (blk_cell BK364.out 6).trans rfl; have hfz55_0 := blk_frozen BK364.out 0; have hfz55_1 := blk_frozen BK364.out 1; have hfz55_2 := blk_frozen BK364.out 2; have hfz55_3 := blk_frozen BK364.out 3; have hfz55_4 := blk_frozen BK364.out 4; have hfz55_5 := blk_frozen BK364.out 5; have hfz55_6 := blk_frozen BK364.out 6) | ((with_reducible refine gate_callee (f := 36) rfl ?_); refine goesL_ (some 48) rfl rfl Try.func36 (by kernel_rfl) rfl #[.slice A0_5 l0_5.length c0_5] rfl (by (try simp only [List.map_toArray, List.map_cons, List.map_nil]); first | done | rfl | (simp only [List.length_drop, List.length_take]; rfl)) ?_; (with_reducible refine (know_Right.calls k _ _ l0_5 true _ ?side1 ?side2 A40.out).mono ?_); (case side1 => repeat (first | exact (Kd.C_below HR0_5.out HB.out) | (with_reducible refine Kd.C_alloc ?_ _) | (with_reducible refine Kd.C_drewN ?_ _) | (with_reducible refine Kd.C_drew ?_))); (case side2 => exact HC0_5.out); rintro e w56 ⟨rfl, hb⟩; refine ⟨_, rfl, ?_⟩; have n0_ := Aside0.mk (blk_below (g := gb364) (o := .cells #[.bool true, .int .u32 a0_1, .int .u8 a0_2, .int .u8 a0_3, .int .u32 a0_4, .slice A0_5 l0_5.length c0_5, .int .u32 a0_6] 49 (0, 0)) (by (with_reducible repeat (first | refine blk_drewN ?_ _ | refine blk_drew ?_ | refine blk_alloc ?_ _)); exact BK364.out) hb); have n1_ := Aside0.mk (below_step (by repeat (first | (with_reducible first | exact HB.out | apply below_alloc | apply pw_below_drewN | apply below_drew1 | refine below_set ?_ GE364.out) | exact HB.out)) hb); clear BK364; clear HB; have BK364 := n0_; have HB := n1_; clear n0_ n1_; (try clear hb); (try clear hb2); (try clear hk); (try clear hi); have hcz57_0 : w56.cell? ⟨gb364, 0, none⟩ = some (.bool true) := (blk_cell BK364.out 0).trans rfl; have hcz57_1 : w56.cell? ⟨gb364, 1, none⟩ = some (.int .u32 a0_1) := (blk_cell BK364.out 1).trans rfl; have hcz57_2 : w56.cell? ⟨gb364, 2, none⟩ = some (.int .u8 a0_2) := (blk_cell BK364.out 2).trans rfl; have hcz57_3 : w56.cell? ⟨gb364, 3, none⟩ = some (.int .u8 a0_3) := (blk_cell BK364.out 3).trans rfl; have hcz57_4 : w56.cell? ⟨gb364, 4, none⟩ = some (.int .u32 a0_4) := (blk_cell BK364.out 4).trans rfl; have hcz57_5 : w56.cell? ⟨gb364, 5, none⟩ = some (.slice A0_5 l0_5.length c0_5) := (blk_cell BK364.out 5).trans rfl; have hcz57_6 : w56.cell? ⟨gb364, 6, none⟩ = some (.int .u32 a0_6) := (blk_cell BK364.out 6).trans rfl; have hfz57_0 := blk_frozen BK364.out 0; have hfz57_1 := blk_frozen BK364.out 1; have hfz57_2 := blk_frozen BK364.out 2; have hfz57_3 := blk_frozen BK364.out 3; have hfz57_4 := blk_frozen BK364.out 4; have hfz57_5 := blk_frozen BK364.out 5; have hfz57_6 := blk_frozen BK364.out 6))
              go_ret
              exact ⟨by first | rfl | (simp [errW_none, errW_some] <;> rfl) | (simp [*, errW_none, errW_some] <;> rfl), by repeat (first | (with_reducible first | exact HB.out | apply below_alloc | apply pw_below_drewN | apply below_drew1 | refine below_set ?_ GE364.out) | exact HB.out)⟩
          · rw [if_neg c43] at H
            have c43b0 : decide (a0_1 ≤ a0_6) = false := decide_eq_false c43
            clear c43
            obtain rfl := Option.some.inj H
            go_enter Try.func74, Try.ntmps74
            go_wp2_with (first | ((with_reducible refine gate_dst (N := 2) rfl ?_); (try (refine gate_guard (by rfl) ?_; dsimp only)); refine box_event ?hg (N := 2) ?hd (cs := #[.bool true, .int .u32 a0_1, .int .u8 a0_2, .int .u8 a0_3, .int .u32 a0_4, .slice A0_5 l0_5.length c0_5, .int .u32 a0_6]) (t := 49) ?hr ?_; (case hd => rfl); (case hg => rfl); (case hr => first | (go_simp; done) | (go_simp; rfl)); intro gb364 hg w58 hbox hb; have n0_ := Aside0.mk (below_step (by repeat (first | (with_reducible first | exact HB.out | apply below_alloc | apply pw_below_drewN | apply below_drew1) | exact HB.out)) hb); have n1_ := Aside0.mk (hbox); have n2_ := Aside0.mk ((by rw [hg]; exact (below_size (by repeat (first | (with_reducible first | exact HB.out | apply below_alloc | apply pw_below_drewN | apply below_drew1) | exact HB.out))) : w.heap.size ≤ gb364)); have n3_ := Aside0.mk ((by rw [hg]; exact (below_size (by repeat (first | (with_reducible first | exact HB.out | apply below_alloc | apply pw_below_drewN | apply below_drew1) | exact HB.out))) : w.heap.size ≤ gb364)); clear HB; have HB := n0_; have BK364 := n1_; have GW364 := n2_; have GE364 := n3_; clear n0_ n1_ n2_ n3_; clear hb hbox hg; have hcz59_0 : w58.cell? ⟨gb364, 0, none⟩ = some (.bool true) := (blk_cell BK364.out 0).trans rfl; have hcz59_1 : w58.cell? ⟨gb364, 1, none⟩ = some (.int .u32 a0_1) := (blk_cell BK364.out 1).trans rfl; have hcz59_2 : w58.cell? ⟨gb364, 2, none⟩ = some (.int .u8 a0_2) := (blk_cell BK364.out 2).trans rfl; have hcz59_3 : w58.cell? ⟨gb364, 3, none⟩ = some (.int .u8 a0_3) := (blk_cell BK364.out 3).trans rfl; have hcz59_4 : w58.cell? ⟨gb364, 4, none⟩ = some (.int .u32 a0_4) := (blk_cell BK364.out 4).trans rfl; have hcz59_5 : w58.cell? ⟨gb364, 5, none⟩ = some (.slice A0_5 l0_5.length c0_5) := (blk_cell BK364.out 5).trans rfl; have hcz59_6 : w58.cell? ⟨gb364, 6, none⟩ = some (.int .u32 a0_6) := (blk_cell BK364.out 6).trans rfl; have hfz59_0 := blk_frozen BK364.out 0; have hfz59_1 := blk_frozen BK364.out 1; have hfz59_2 := blk_frozen BK364.out 2; have hfz59_3 := blk_frozen BK364.out 3; have hfz59_4 := blk_frozen BK364.out 4; have hfz59_5 := blk_frozen BK364.out 5; have hfz59_6 := blk_frozen BK364.out 6) | ((with_reducible refine gate_callee (f := 36) rfl ?_); refine goesL_ (some 48) rfl rfl Try.func36 (by kernel_rfl) rfl #[.slice A0_5 l0_5.length c0_5] rfl (by (try simp only [List.map_toArray, List.map_cons, List.map_nil]); first | done | rfl | (simp only [List.length_drop, List.length_take]; rfl)) ?_; (with_reducible refine (know_Right.calls k _ _ l0_5 true _ ?side1 ?side2 A40.out).mono ?_); (case side1 => repeat (first | exact (Kd.C_below HR0_5.out HB.out) | (with_reducible refine Kd.C_alloc ?_ _) | (with_reducible refine Kd.C_drewN ?_ _) | (with_reducible refine Kd.C_drew ?_))); (case side2 => exact HC0_5.out); rintro e w60 ⟨rfl, hb⟩; refine ⟨_, rfl, ?_⟩; have n0_ := Aside0.mk (blk_below (g := gb364) (o := .cells #[.bool true, .int .u32 a0_1, .int .u8 a0_2, .int .u8 a0_3, .int .u32 a0_4, .slice A0_5 l0_5.length c0_5, .int .u32 a0_6] 49 (0, 0)) (by (with_reducible repeat (first | refine blk_drewN ?_ _ | refine blk_drew ?_ | refine blk_alloc ?_ _)); exact BK364.out) hb); have n1_ := Aside0.mk (below_step (by repeat (first | (with_reducible first | exact HB.out | apply below_alloc | apply pw_below_drewN | apply below_drew1 | refine below_set ?_ GE364.out) | exact HB.out)) hb); clear BK364; clear HB; have BK364 := n0_; have HB := n1_; clear n0_ n1_; (try clear hb); (try clear hb2); (try clear hk); (try clear hi); have hcz61_0 : w60.cell? ⟨gb364, 0, none⟩ = some (.bool true) := (blk_cell BK364.out 0).trans rfl; have hcz61_1 : w60.cell? ⟨gb364, 1, none⟩ = some (.int .u32 a0_1) := (blk_cell BK364.out 1).trans rfl; have hcz61_2 : w60.cell? ⟨gb364, 2, none⟩ = some (.int .u8 a0_2) := (blk_cell BK364.out 2).trans rfl; have hcz61_3 : w60.cell? ⟨gb364, 3, none⟩ = some (.int .u8 a0_3) := (blk_cell BK364.out 3).trans rfl; have hcz61_4 : w60.cell? ⟨gb364, 4, none⟩ = some (.int .u32 a0_4) := (blk_cell BK364.out 4).trans rfl; have hcz61_5 : w60.cell? ⟨gb364, 5, none⟩ = some (.slice A0_5 l0_5.length c0_5) := (blk_cell BK364.out 5).trans rfl; have hcz61_6 : w60.cell? ⟨gb364, 6, none⟩ = some (.int .u32 a0_6) := (blk_cell BK364.out 6).trans rfl; have hfz61_0 := blk_frozen BK364.out 0; have hfz61_1 := blk_frozen BK364.out 1; have hfz61_2 := blk_frozen BK364.out 2; have hfz61_3 := blk_frozen BK364.out 3; have hfz61_4 := blk_frozen BK364.out 4; have hfz61_5 := blk_frozen BK364.out 5; have hfz61_6 := blk_frozen BK364.out 6))
            go_ret
            exact ⟨by first | rfl | (simp [errW_none, errW_some] <;> rfl) | (simp [*, errW_none, errW_some] <;> rfl), by repeat (first | (with_reducible first | exact HB.out | apply below_alloc | apply pw_below_drewN | apply below_drew1 | refine below_set ?_ GE364.out) | exact HB.out)⟩
        · rw [if_neg c42] at H
          have c42b0 : decide (1 ≤ a0_1) = false := decide_eq_false c42
          clear c42
          obtain rfl := Option.some.inj H
          go_enter Try.func74, Try.ntmps74
          go_wp2_with (first | ((with_reducible refine gate_dst (N := 2) rfl ?_); (try (refine gate_guard (by rfl) ?_; dsimp only)); refine box_event ?hg (N := 2) ?hd (cs := #[.bool true, .int .u32 a0_1, .int .u8 a0_2, .int .u8 a0_3, .int .u32 a0_4, .slice A0_5 l0_5.length c0_5, .int .u32 a0_6]) (t := 49) ?hr ?_; (case hd => rfl); (case hg => rfl); (case hr => first | (go_simp; done) | (go_simp; rfl)); intro gb364 hg w62 hbox hb; have n0_ := Aside0.mk (below_step (by repeat (first | (with_reducible first | exact HB.out | apply below_alloc | apply pw_below_drewN | apply below_drew1) | exact HB.out)) hb); have n1_ := Aside0.mk (hbox); have n2_ := Aside0.mk ((by rw [hg]; exact (below_size (by repeat (first | (with_reducible first | exact HB.out | apply below_alloc | apply pw_below_drewN | apply below_drew1) | exact HB.out))) : w.heap.size ≤ gb364)); have n3_ := Aside0.mk ((by rw [hg]; exact (below_size (by repeat (first | (with_reducible first | exact HB.out | apply below_alloc | apply pw_below_drewN | apply below_drew1) | exact HB.out))) : w.heap.size ≤ gb364)); clear HB; have HB := n0_; have BK364 := n1_; have GW364 := n2_; have GE364 := n3_; clear n0_ n1_ n2_ n3_; clear hb hbox hg; have hcz63_0 : w62.cell? ⟨gb364, 0, none⟩ = some (.bool true) := (blk_cell BK364.out 0).trans rfl; have hcz63_1 : w62.cell? ⟨gb364, 1, none⟩ = some (.int .u32 a0_1) := (blk_cell BK364.out 1).trans rfl; have hcz63_2 : w62.cell? ⟨gb364, 2, none⟩ = some (.int .u8 a0_2) := (blk_cell BK364.out 2).trans rfl; have hcz63_3 : w62.cell? ⟨gb364, 3, none⟩ = some (.int .u8 a0_3) := (blk_cell BK364.out 3).trans rfl; have hcz63_4 : w62.cell? ⟨gb364, 4, none⟩ = some (.int .u32 a0_4) := (blk_cell BK364.out 4).trans rfl; have hcz63_5 : w62.cell? ⟨gb364, 5, none⟩ = some (.slice A0_5 l0_5.length c0_5) := (blk_cell BK364.out 5).trans rfl; have hcz63_6 : w62.cell? ⟨gb364, 6, none⟩ = some (.int .u32 a0_6) := (blk_cell BK364.out 6).trans rfl; have hfz63_0 := blk_frozen BK364.out 0; have hfz63_1 := blk_frozen BK364.out 1; have hfz63_2 := blk_frozen BK364.out 2; have hfz63_3 := blk_frozen BK364.out 3; have hfz63_4 := blk_frozen BK364.out 4; have hfz63_5 := blk_frozen BK364.out 5; have hfz63_6 := blk_frozen BK364.out 6) | ((with_reducible refine gate_callee (f := 36) rfl ?_); refine goesL_ (some 48) rfl rfl Try.func36 (by kernel_rfl) rfl #[.slice A0_5 l0_5.length c0_5] rfl (by (try simp only [List.map_toArray, List.map_cons, List.map_nil]); first | done | rfl | (simp only [List.length_drop, List.length_take]; rfl)) ?_; (with_reducible refine (know_Right.calls k _ _ l0_5 true _ ?side1 ?side2 A40.out).mono ?_); (case side1 => repeat (first | exact (Kd.C_below HR0_5.out HB.out) | (with_reducible refine Kd.C_alloc ?_ _) | (with_reducible refine Kd.C_drewN ?_ _) | (with_reducible refine Kd.C_drew ?_))); (case side2 => exact HC0_5.out); rintro e w64 ⟨rfl, hb⟩; refine ⟨_, rfl, ?_⟩; have n0_ := Aside0.mk (blk_below (g := gb364) (o := .cells #[.bool true, .int .u32 a0_1, .int .u8 a0_2, .int .u8 a0_3, .int .u32 a0_4, .slice A0_5 l0_5.length c0_5, .int .u32 a0_6] 49 (0, 0)) (by (with_reducible repeat (first | refine blk_drewN ?_ _ | refine blk_drew ?_ | refine blk_alloc ?_ _)); exact BK364.out) hb); have n1_ := Aside0.mk (below_step (by repeat (first | (with_reducible first | exact HB.out | apply below_alloc | apply pw_below_drewN | apply below_drew1 | refine below_set ?_ GE364.out) | exact HB.out)) hb); clear BK364; clear HB; have BK364 := n0_; have HB := n1_; clear n0_ n1_; (try clear hb); (try clear hb2); (try clear hk); (try clear hi); have hcz65_0 : w64.cell? ⟨gb364, 0, none⟩ = some (.bool true) := (blk_cell BK364.out 0).trans rfl; have hcz65_1 : w64.cell? ⟨gb364, 1, none⟩ = some (.int .u32 a0_1) := (blk_cell BK364.out 1).trans rfl; have hcz65_2 : w64.cell? ⟨gb364, 2, none⟩ = some (.int .u8 a0_2) := (blk_cell BK364.out 2).trans rfl; have hcz65_3 : w64.cell? ⟨gb364, 3, none⟩ = some (.int .u8 a0_3) := (blk_cell BK364.out 3).trans rfl; have hcz65_4 : w64.cell? ⟨gb364, 4, none⟩ = some (.int .u32 a0_4) := (blk_cell BK364.out 4).trans rfl; have hcz65_5 : w64.cell? ⟨gb364, 5, none⟩ = some (.slice A0_5 l0_5.length c0_5) := (blk_cell BK364.out 5).trans rfl; have hcz65_6 : w64.cell? ⟨gb364, 6, none⟩ = some (.int .u32 a0_6) := (blk_cell BK364.out 6).trans rfl; have hfz65_0 := blk_frozen BK364.out 0; have hfz65_1 := blk_frozen BK364.out 1; have hfz65_2 := blk_frozen BK364.out 2; have hfz65_3 := blk_frozen BK364.out 3; have hfz65_4 := blk_frozen BK364.out 4; have hfz65_5 := blk_frozen BK364.out 5; have hfz65_6 := blk_frozen BK364.out 6))
          go_ret
          exact ⟨by first | rfl | (simp [errW_none, errW_some] <;> rfl) | (simp [*, errW_none, errW_some] <;> rfl), by repeat (first | (with_reducible first | exact HB.out | apply below_alloc | apply pw_below_drewN | apply below_drew1 | refine below_set ?_ GE364.out) | exact HB.out)⟩
      · replace c41 := Bool.eq_false_iff.mpr c41
        subst c41
        have H1 : (some false) = some r := by rw [if_neg (show ¬ (false = true) by decide)] at H; exact H
        clear H
        have H := H1
        clear H1
        obtain rfl := Option.some.inj H
        go_enter Try.func74, Try.ntmps74
        go_wp2_with (first | ((with_reducible refine gate_dst (N := 2) rfl ?_); (try (refine gate_guard (by rfl) ?_; dsimp only)); refine box_event ?hg (N := 2) ?hd (cs := #[.bool true, .int .u32 a0_1, .int .u8 a0_2, .int .u8 a0_3, .int .u32 a0_4, .slice A0_5 l0_5.length c0_5, .int .u32 a0_6]) (t := 49) ?hr ?_; (case hd => rfl); (case hg => rfl); (case hr => first | (go_simp; done) | (go_simp; rfl)); intro gb364 hg w66 hbox hb; have n0_ := Aside0.mk (below_step (by repeat (first | (with_reducible first | exact HB.out | apply below_alloc | apply pw_below_drewN | apply below_drew1) | exact HB.out)) hb); have n1_ := Aside0.mk (hbox); have n2_ := Aside0.mk ((by rw [hg]; exact (below_size (by repeat (first | (with_reducible first | exact HB.out | apply below_alloc | apply pw_below_drewN | apply below_drew1) | exact HB.out))) : w.heap.size ≤ gb364)); have n3_ := Aside0.mk ((by rw [hg]; exact (below_size (by repeat (first | (with_reducible first | exact HB.out | apply below_alloc | apply pw_below_drewN | apply below_drew1) | exact HB.out))) : w.heap.size ≤ gb364)); clear HB; have HB := n0_; have BK364 := n1_; have GW364 := n2_; have GE364 := n3_; clear n0_ n1_ n2_ n3_; clear hb hbox hg; have hcz67_0 : w66.cell? ⟨gb364, 0, none⟩ = some (.bool true) := (blk_cell BK364.out 0).trans rfl; have hcz67_1 : w66.cell? ⟨gb364, 1, none⟩ = some (.int .u32 a0_1) := (blk_cell BK364.out 1).trans rfl; have hcz67_2 : w66.cell? ⟨gb364, 2, none⟩ = some (.int .u8 a0_2) := (blk_cell BK364.out 2).trans rfl; have hcz67_3 : w66.cell? ⟨gb364, 3, none⟩ = some (.int .u8 a0_3) := (blk_cell BK364.out 3).trans rfl; have hcz67_4 : w66.cell? ⟨gb364, 4, none⟩ = some (.int .u32 a0_4) := (blk_cell BK364.out 4).trans rfl; have hcz67_5 : w66.cell? ⟨gb364, 5, none⟩ = some (.slice A0_5 l0_5.length c0_5) := (blk_cell BK364.out 5).trans rfl; have hcz67_6 : w66.cell? ⟨gb364, 6, none⟩ = some (.int .u32 a0_6) := (blk_cell BK364.out 6).trans rfl; have hfz67_0 := blk_frozen BK364.out 0; have hfz67_1 := blk_frozen BK364.out 1; have hfz67_2 := blk_frozen BK364.out 2; have hfz67_3 := blk_frozen BK364.out 3; have hfz67_4 := blk_frozen BK364.out 4; have hfz67_5 := blk_frozen BK364.out 5; have hfz67_6 := blk_frozen BK364.out 6) | ((with_reducible refine gate_callee (f := 36) rfl ?_); refine goesL_ (some 48) rfl rfl Try.func36 (by kernel_rfl) rfl #[.slice A0_5 l0_5.length c0_5] rfl (by (try simp only [List.map_toArray, List.map_cons, List.map_nil]); first | done | rfl | (simp only [List.length_drop, List.length_take]; rfl)) ?_; (with_reducible refine (know_Right.calls k _ _ l0_5 false _ ?side1 ?side2 A40.out).mono ?_); (case side1 => repeat (first | exact (Kd.C_below HR0_5.out HB.out) | (with_reducible refine Kd.C_alloc ?_ _) | (with_reducible refine Kd.C_drewN ?_ _) | (with_reducible refine Kd.C_drew ?_))); (case side2 => exact HC0_5.out); rintro e w68 ⟨rfl, hb⟩; refine ⟨_, rfl, ?_⟩; have n0_ := Aside0.mk (blk_below (g := gb364) (o := .cells #[.bool true, .int .u32 a0_1, .int .u8 a0_2, .int .u8 a0_3, .int .u32 a0_4, .slice A0_5 l0_5.length c0_5, .int .u32 a0_6] 49 (0, 0)) (by (with_reducible repeat (first | refine blk_drewN ?_ _ | refine blk_drew ?_ | refine blk_alloc ?_ _)); exact BK364.out) hb); have n1_ := Aside0.mk (below_step (by repeat (first | (with_reducible first | exact HB.out | apply below_alloc | apply pw_below_drewN | apply below_drew1 | refine below_set ?_ GE364.out) | exact HB.out)) hb); clear BK364; clear HB; have BK364 := n0_; have HB := n1_; clear n0_ n1_; (try clear hb); (try clear hb2); (try clear hk); (try clear hi)))
        go_ret
        exact ⟨by first | rfl | (simp [errW_none, errW_some] <;> rfl) | (simp [*, errW_none, errW_some] <;> rfl), by repeat (first | (with_reducible first | exact HB.out | apply below_alloc | apply pw_below_drewN | apply below_drew1 | refine below_set ?_ GE364.out) | exact HB.out)⟩
  · replace c3 := Bool.eq_false_iff.mpr c3
    subst c3
    have H1 : (if a0_1 = 0 then (if a0_2 = 0 then (if a0_3 = 0 then (if a0_4 = 0 then (some ((l0_5.length : Int) == 0)) else (some false)) else (some false)) else (some false)) else (some false)) = some r := by rw [if_neg (show ¬ (false = true) by decide)] at H; exact H
    clear H
    have H := H1
    clear H1
    by_cases c69 : a0_1 = 0
    · rw [if_pos c69] at H
      have c69b0 : (a0_1 == 0) = true := beq_iff_eq.mpr c69
      have c69b1 : (a0_1 != 0) = false := bne_eq_false_iff_eq.mpr c69
      clear c69
      by_cases c70 : a0_2 = 0
      · rw [if_pos c70] at H
        have c70b0 : (a0_2 == 0) = true := beq_iff_eq.mpr c70
        have c70b1 : (a0_2 != 0) = false := bne_eq_false_iff_eq.mpr c70
        clear c70
        by_cases c71 : a0_3 = 0
        · rw [if_pos c71] at H
          have c71b0 : (a0_3 == 0) = true := beq_iff_eq.mpr c71
          have c71b1 : (a0_3 != 0) = false := bne_eq_false_iff_eq.mpr c71
          clear c71
          by_cases c72 : a0_4 = 0
          · rw [if_pos c72] at H
            have c72b0 : (a0_4 == 0) = true := beq_iff_eq.mpr c72
            have c72b1 : (a0_4 != 0) = false := bne_eq_false_iff_eq.mpr c72
            clear c72
            obtain rfl := Option.some.inj H
            go_enter Try.func74, Try.ntmps74
            go_wp2_with (first | ((with_reducible refine gate_dst (N := 2) rfl ?_); (try (refine gate_guard (by rfl) ?_; dsimp only)); refine box_event ?hg (N := 2) ?hd (cs := #[.bool false, .int .u32 a0_1, .int .u8 a0_2, .int .u8 a0_3, .int .u32 a0_4, .slice A0_5 l0_5.length c0_5, .int .u32 a0_6]) (t := 49) ?hr ?_; (case hd => rfl); (case hg => rfl); (case hr => first | (go_simp; done) | (go_simp; rfl)); intro gb364 hg w73 hbox hb; have n0_ := Aside0.mk (below_step (by repeat (first | (with_reducible first | exact HB.out | apply below_alloc | apply pw_below_drewN | apply below_drew1) | exact HB.out)) hb); have n1_ := Aside0.mk (hbox); have n2_ := Aside0.mk ((by rw [hg]; exact (below_size (by repeat (first | (with_reducible first | exact HB.out | apply below_alloc | apply pw_below_drewN | apply below_drew1) | exact HB.out))) : w.heap.size ≤ gb364)); have n3_ := Aside0.mk ((by rw [hg]; exact (below_size (by repeat (first | (with_reducible first | exact HB.out | apply below_alloc | apply pw_below_drewN | apply below_drew1) | exact HB.out))) : w.heap.size ≤ gb364)); clear HB; have HB := n0_; have BK364 := n1_; have GW364 := n2_; have GE364 := n3_; clear n0_ n1_ n2_ n3_; clear hb hbox hg; have hcz74_0 : w73.cell? ⟨gb364, 0, none⟩ = some (.bool false) := (blk_cell BK364.out 0).trans rfl; have hcz74_1 : w73.cell? ⟨gb364, 1, none⟩ = some (.int .u32 a0_1) := (blk_cell BK364.out 1).trans rfl; have hcz74_2 : w73.cell? ⟨gb364, 2, none⟩ = some (.int .u8 a0_2) := (blk_cell BK364.out 2).trans rfl; have hcz74_3 : w73.cell? ⟨gb364, 3, none⟩ = some (.int .u8 a0_3) := (blk_cell BK364.out 3).trans rfl; have hcz74_4 : w73.cell? ⟨gb364, 4, none⟩ = some (.int .u32 a0_4) := (blk_cell BK364.out 4).trans rfl; have hcz74_5 : w73.cell? ⟨gb364, 5, none⟩ = some (.slice A0_5 l0_5.length c0_5) := (blk_cell BK364.out 5).trans rfl; have hcz74_6 : w73.cell? ⟨gb364, 6, none⟩ = some (.int .u32 a0_6) := (blk_cell BK364.out 6).trans rfl; have hfz74_0 := blk_frozen BK364.out 0; have hfz74_1 := blk_frozen BK364.out 1; have hfz74_2 := blk_frozen BK364.out 2; have hfz74_3 := blk_frozen BK364.out 3; have hfz74_4 := blk_frozen BK364.out 4; have hfz74_5 := blk_frozen BK364.out 5; have hfz74_6 := blk_frozen BK364.out 6))
            go_ret
            exact ⟨by first | rfl | (simp [errW_none, errW_some] <;> rfl) | (simp [*, errW_none, errW_some] <;> rfl), by repeat (first | (with_reducible first | exact HB.out | apply below_alloc | apply pw_below_drewN | apply below_drew1 | refine below_set ?_ GE364.out) | exact HB.out)⟩
          · rw [if_neg c72] at H
            have c72b0 : (a0_4 == 0) = false := beq_eq_false_iff_ne.mpr c72
            have c72b1 : (a0_4 != 0) = true := bne_iff_ne.mpr c72
            obtain rfl := Option.some.inj H
            go_enter Try.func74, Try.ntmps74
            go_wp2_with (first | ((with_reducible refine gate_dst (N := 2) rfl ?_); (try (refine gate_guard (by rfl) ?_; dsimp only)); refine box_event ?hg (N := 2) ?hd (cs := #[.bool false, .int .u32 a0_1, .int .u8 a0_2, .int .u8 a0_3, .int .u32 a0_4, .slice A0_5 l0_5.length c0_5, .int .u32 a0_6]) (t := 49) ?hr ?_; (case hd => rfl); (case hg => rfl); (case hr => first | (go_simp; done) | (go_simp; rfl)); intro gb364 hg w75 hbox hb; have n0_ := Aside0.mk (below_step (by repeat (first | (with_reducible first | exact HB.out | apply below_alloc | apply pw_below_drewN | apply below_drew1) | exact HB.out)) hb); have n1_ := Aside0.mk (hbox); have n2_ := Aside0.mk ((by rw [hg]; exact (below_size (by repeat (first | (with_reducible first | exact HB.out | apply below_alloc | apply pw_below_drewN | apply below_drew1) | exact HB.out))) : w.heap.size ≤ gb364)); have n3_ := Aside0.mk ((by rw [hg]; exact (below_size (by repeat (first | (with_reducible first | exact HB.out | apply below_alloc | apply pw_below_drewN | apply below_drew1) | exact HB.out))) : w.heap.size ≤ gb364)); clear HB; have HB := n0_; have BK364 := n1_; have GW364 := n2_; have GE364 := n3_; clear n0_ n1_ n2_ n3_; clear hb hbox hg; have hcz76_0 : w75.cell? ⟨gb364, 0, none⟩ = some (.bool false) := (blk_cell BK364.out 0).trans rfl; have hcz76_1 : w75.cell? ⟨gb364, 1, none⟩ = some (.int .u32 a0_1) := (blk_cell BK364.out 1).trans rfl; have hcz76_2 : w75.cell? ⟨gb364, 2, none⟩ = some (.int .u8 a0_2) := (blk_cell BK364.out 2).trans rfl; have hcz76_3 : w75.cell? ⟨gb364, 3, none⟩ = some (.int .u8 a0_3) := (blk_cell BK364.out 3).trans rfl; have hcz76_4 : w75.cell? ⟨gb364, 4, none⟩ = some (.int .u32 a0_4) := (blk_cell BK364.out 4).trans rfl; have hcz76_5 : w75.cell? ⟨gb364, 5, none⟩ = some (.slice A0_5 l0_5.length c0_5) := (blk_cell BK364.out 5).trans rfl; have hcz76_6 : w75.cell? ⟨gb364, 6, none⟩ = some (.int .u32 a0_6) := (blk_cell BK364.out 6).trans rfl; have hfz76_0 := blk_frozen BK364.out 0; have hfz76_1 := blk_frozen BK364.out 1; have hfz76_2 := blk_frozen BK364.out 2; have hfz76_3 := blk_frozen BK364.out 3; have hfz76_4 := blk_frozen BK364.out 4; have hfz76_5 := blk_frozen BK364.out 5; have hfz76_6 := blk_frozen BK364.out 6))
            go_ret
            exact ⟨by first | rfl | (simp [errW_none, errW_some] <;> rfl) | (simp [*, errW_none, errW_some] <;> rfl), by repeat (first | (with_reducible first | exact HB.out | apply below_alloc | apply pw_below_drewN | apply below_drew1 | refine below_set ?_ GE364.out) | exact HB.out)⟩
        · rw [if_neg c71] at H
          have c71b0 : (a0_3 == 0) = false := beq_eq_false_iff_ne.mpr c71
          have c71b1 : (a0_3 != 0) = true := bne_iff_ne.mpr c71
          obtain rfl := Option.some.inj H
          go_enter Try.func74, Try.ntmps74
          go_wp2_with (first | ((with_reducible refine gate_dst (N := 2) rfl ?_); (try (refine gate_guard (by rfl) ?_; dsimp only)); refine box_event ?hg (N := 2) ?hd (cs := #[.bool false, .int .u32 a0_1, .int .u8 a0_2, .int .u8 a0_3, .int .u32 a0_4, .slice A0_5 l0_5.length c0_5, .int .u32 a0_6]) (t := 49) ?hr ?_; (case hd => rfl); (case hg => rfl); (case hr => first | (go_simp; done) | (go_simp; rfl)); intro gb364 hg w77 hbox hb; have n0_ := Aside0.mk (below_step (by repeat (first | (with_reducible first | exact HB.out | apply below_alloc | apply pw_below_drewN | apply below_drew1) | exact HB.out)) hb); have n1_ := Aside0.mk (hbox); have n2_ := Aside0.mk ((by rw [hg]; exact (below_size (by repeat (first | (with_reducible first | exact HB.out | apply below_alloc | apply pw_below_drewN | apply below_drew1) | exact HB.out))) : w.heap.size ≤ gb364)); have n3_ := Aside0.mk ((by rw [hg]; exact (below_size (by repeat (first | (with_reducible first | exact HB.out | apply below_alloc | apply pw_below_drewN | apply below_drew1) | exact HB.out))) : w.heap.size ≤ gb364)); clear HB; have HB := n0_; have BK364 := n1_; have GW364 := n2_; have GE364 := n3_; clear n0_ n1_ n2_ n3_; clear hb hbox hg; have hcz78_0 : w77.cell? ⟨gb364, 0, none⟩ = some (.bool false) := (blk_cell BK364.out 0).trans rfl; have hcz78_1 : w77.cell? ⟨gb364, 1, none⟩ = some (.int .u32 a0_1) := (blk_cell BK364.out 1).trans rfl; have hcz78_2 : w77.cell? ⟨gb364, 2, none⟩ = some (.int .u8 a0_2) := (blk_cell BK364.out 2).trans rfl; have hcz78_3 : w77.cell? ⟨gb364, 3, none⟩ = some (.int .u8 a0_3) := (blk_cell BK364.out 3).trans rfl; have hcz78_4 : w77.cell? ⟨gb364, 4, none⟩ = some (.int .u32 a0_4) := (blk_cell BK364.out 4).trans rfl; have hcz78_5 : w77.cell? ⟨gb364, 5, none⟩ = some (.slice A0_5 l0_5.length c0_5) := (blk_cell BK364.out 5).trans rfl; have hcz78_6 : w77.cell? ⟨gb364, 6, none⟩ = some (.int .u32 a0_6) := (blk_cell BK364.out 6).trans rfl; have hfz78_0 := blk_frozen BK364.out 0; have hfz78_1 := blk_frozen BK364.out 1; have hfz78_2 := blk_frozen BK364.out 2; have hfz78_3 := blk_frozen BK364.out 3; have hfz78_4 := blk_frozen BK364.out 4; have hfz78_5 := blk_frozen BK364.out 5; have hfz78_6 := blk_frozen BK364.out 6))
          go_ret
          exact ⟨by first | rfl | (simp [errW_none, errW_some] <;> rfl) | (simp [*, errW_none, errW_some] <;> rfl), by repeat (first | (with_reducible first | exact HB.out | apply below_alloc | apply pw_below_drewN | apply below_drew1 | refine below_set ?_ GE364.out) | exact HB.out)⟩
      · rw [if_neg c70] at H
        have c70b0 : (a0_2 == 0) = false := beq_eq_false_iff_ne.mpr c70
        have c70b1 : (a0_2 != 0) = true := bne_iff_ne.mpr c70
        obtain rfl := Option.some.inj H
        go_enter Try.func74, Try.ntmps74
        go_wp2_with (first | ((with_reducible refine gate_dst (N := 2) rfl ?_); (try (refine gate_guard (by rfl) ?_; dsimp only)); refine box_event ?hg (N := 2) ?hd (cs := #[.bool false, .int .u32 a0_1, .int .u8 a0_2, .int .u8 a0_3, .int .u32 a0_4, .slice A0_5 l0_5.length c0_5, .int .u32 a0_6]) (t := 49) ?hr ?_; (case hd => rfl); (case hg => rfl); (case hr => first | (go_simp; done) | (go_simp; rfl)); intro gb364 hg w79 hbox hb; have n0_ := Aside0.mk (below_step (by repeat (first | (with_reducible first | exact HB.out | apply below_alloc | apply pw_below_drewN | apply below_drew1) | exact HB.out)) hb); have n1_ := Aside0.mk (hbox); have n2_ := Aside0.mk ((by rw [hg]; exact (below_size (by repeat (first | (with_reducible first | exact HB.out | apply below_alloc | apply pw_below_drewN | apply below_drew1) | exact HB.out))) : w.heap.size ≤ gb364)); have n3_ := Aside0.mk ((by rw [hg]; exact (below_size (by repeat (first | (with_reducible first | exact HB.out | apply below_alloc | apply pw_below_drewN | apply below_drew1) | exact HB.out))) : w.heap.size ≤ gb364)); clear HB; have HB := n0_; have BK364 := n1_; have GW364 := n2_; have GE364 := n3_; clear n0_ n1_ n2_ n3_; clear hb hbox hg; have hcz80_0 : w79.cell? ⟨gb364, 0, none⟩ = some (.bool false) := (blk_cell BK364.out 0).trans rfl; have hcz80_1 : w79.cell? ⟨gb364, 1, none⟩ = some (.int .u32 a0_1) := (blk_cell BK364.out 1).trans rfl; have hcz80_2 : w79.cell? ⟨gb364, 2, none⟩ = some (.int .u8 a0_2) := (blk_cell BK364.out 2).trans rfl; have hcz80_3 : w79.cell? ⟨gb364, 3, none⟩ = some (.int .u8 a0_3) := (blk_cell BK364.out 3).trans rfl; have hcz80_4 : w79.cell? ⟨gb364, 4, none⟩ = some (.int .u32 a0_4) := (blk_cell BK364.out 4).trans rfl; have hcz80_5 : w79.cell? ⟨gb364, 5, none⟩ = some (.slice A0_5 l0_5.length c0_5) := (blk_cell BK364.out 5).trans rfl; have hcz80_6 : w79.cell? ⟨gb364, 6, none⟩ = some (.int .u32 a0_6) := (blk_cell BK364.out 6).trans rfl; have hfz80_0 := blk_frozen BK364.out 0; have hfz80_1 := blk_frozen BK364.out 1; have hfz80_2 := blk_frozen BK364.out 2; have hfz80_3 := blk_frozen BK364.out 3; have hfz80_4 := blk_frozen BK364.out 4; have hfz80_5 := blk_frozen BK364.out 5; have hfz80_6 := blk_frozen BK364.out 6))
        go_ret
        exact ⟨by first | rfl | (simp [errW_none, errW_some] <;> rfl) | (simp [*, errW_none, errW_some] <;> rfl), by repeat (first | (with_reducible first | exact HB.out | apply below_alloc | apply pw_below_drewN | apply below_drew1 | refine below_set ?_ GE364.out) | exact HB.out)⟩
    · rw [if_neg c69] at H
      have c69b0 : (a0_1 == 0) = false := beq_eq_false_iff_ne.mpr c69
      have c69b1 : (a0_1 != 0) = true := bne_iff_ne.mpr c69
      obtain rfl := Option.some.inj H
      go_enter Try.func74, Try.ntmps74
      go_wp2_with (first | ((with_reducible refine gate_dst (N := 2) rfl ?_); (try (refine gate_guard (by rfl) ?_; dsimp only)); refine box_event ?hg (N := 2) ?hd (cs := #[.bool false, .int .u32 a0_1, .int .u8 a0_2, .int .u8 a0_3, .int .u32 a0_4, .slice A0_5 l0_5.length c0_5, .int .u32 a0_6]) (t := 49) ?hr ?_; (case hd => rfl); (case hg => rfl); (case hr => first | (go_simp; done) | (go_simp; rfl)); intro gb364 hg w81 hbox hb; have n0_ := Aside0.mk (below_step (by repeat (first | (with_reducible first | exact HB.out | apply below_alloc | apply pw_below_drewN | apply below_drew1) | exact HB.out)) hb); have n1_ := Aside0.mk (hbox); have n2_ := Aside0.mk ((by rw [hg]; exact (below_size (by repeat (first | (with_reducible first | exact HB.out | apply below_alloc | apply pw_below_drewN | apply below_drew1) | exact HB.out))) : w.heap.size ≤ gb364)); have n3_ := Aside0.mk ((by rw [hg]; exact (below_size (by repeat (first | (with_reducible first | exact HB.out | apply below_alloc | apply pw_below_drewN | apply below_drew1) | exact HB.out))) : w.heap.size ≤ gb364)); clear HB; have HB := n0_; have BK364 := n1_; have GW364 := n2_; have GE364 := n3_; clear n0_ n1_ n2_ n3_; clear hb hbox hg; have hcz82_0 : w81.cell? ⟨gb364, 0, none⟩ = some (.bool false) := (blk_cell BK364.out 0).trans rfl; have hcz82_1 : w81.cell? ⟨gb364, 1, none⟩ = some (.int .u32 a0_1) := (blk_cell BK364.out 1).trans rfl; have hcz82_2 : w81.cell? ⟨gb364, 2, none⟩ = some (.int .u8 a0_2) := (blk_cell BK364.out 2).trans rfl; have hcz82_3 : w81.cell? ⟨gb364, 3, none⟩ = some (.int .u8 a0_3) := (blk_cell BK364.out 3).trans rfl; have hcz82_4 : w81.cell? ⟨gb364, 4, none⟩ = some (.int .u32 a0_4) := (blk_cell BK364.out 4).trans rfl; have hcz82_5 : w81.cell? ⟨gb364, 5, none⟩ = some (.slice A0_5 l0_5.length c0_5) := (blk_cell BK364.out 5).trans rfl; have hcz82_6 : w81.cell? ⟨gb364, 6, none⟩ = some (.int .u32 a0_6) := (blk_cell BK364.out 6).trans rfl; have hfz82_0 := blk_frozen BK364.out 0; have hfz82_1 := blk_frozen BK364.out 1; have hfz82_2 := blk_frozen BK364.out 2; have hfz82_3 := blk_frozen BK364.out 3; have hfz82_4 := blk_frozen BK364.out 4; have hfz82_5 := blk_frozen BK364.out 5; have hfz82_6 := blk_frozen BK364.out 6))
      go_ret
      exact ⟨by first | rfl | (simp [errW_none, errW_some] <;> rfl) | (simp [*, errW_none, errW_some] <;> rfl), by repeat (first | (with_reducible first | exact HB.out | apply below_alloc | apply pw_below_drewN | apply below_drew1 | refine below_set ?_ GE364.out) | exact HB.out)⟩
end Go.Proofs.Ytiminjibcafkaaa.X
