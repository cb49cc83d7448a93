-- MADE BY wip/prx.py (the kit's printer, with contracts proved by hand). Not trusted: Lean checks it.
import Derived.Test.YtiminjibcafkaaaDoorTKX0
import Derived.Test.YtiminjibcafkaaaDoorTKX1
import Derived.Test.YtiminjibcafkaaaDoorTKX10
namespace Go.Proofs.YtiminjibcafkaaaDoor.X
open Go.RowKit Go.Proofs.YtiminjibcafkaaaDoorW.PrintWords Go.Proofs.YtiminjibcafkaaaDoorW.PrintLast Go.Proofs.YtiminjibcafkaaaDoorW.PrintMore
attribute [local go_sem] max2_int min2_int max_two min_two max_three min_three max_four min_four   -- for this text's walks alone
set_option linter.unusedVariables false
set_option linter.unusedSimpArgs false
attribute [local go_sem high] eqA25
/-! ### tidingsref02_Take: function 13 -/
mutual
def tidingsref02_Take.l0 : Nat → List (S27) → List (S27) → Bool → Int → Int → Int → Int → Int → Int → Int → Int → Option ((List (S27)))
  | 0, _, _, _, _, _, _, _, _, _, _, _ => none
  | k + 1, x0, x5, x6, x7, x181000, x181001, x181002, x181003, x181004, x181005, x181006 => if x7 < (x0.length : Int) then (if 0 ≤ x7 then (if ((rd_T27 x0 x7).f0) > x181000 then (tidingsref02_Take.j1 k x0 x5 x6 x7 (!x6) x181000 x181001 x181002 x181003 x181004 x181005 x181006 ((rd_T27 x0 x7).f0) ((rd_T27 x0 x7).f1.f0) ((rd_T27 x0 x7).f1.f1) ((rd_T27 x0 x7).f1.f2) ((rd_T27 x0 x7).f2) ((rd_T27 x0 x7).f3) ((rd_T27 x0 x7).f4)) else (tidingsref02_Take.j1 k x0 x5 x6 x7 false x181000 x181001 x181002 x181003 x181004 x181005 x181006 ((rd_T27 x0 x7).f0) ((rd_T27 x0 x7).f1.f0) ((rd_T27 x0 x7).f1.f1) ((rd_T27 x0 x7).f1.f2) ((rd_T27 x0 x7).f2) ((rd_T27 x0 x7).f3) ((rd_T27 x0 x7).f4))) else (none)) else (if x6 = true then (some x5) else (if x5.length < 4398046511104 then (some (x5 ++ [(⟨x181000, (⟨x181001, x181002, x181003⟩ : S25), x181004, x181005, x181006⟩ : S27)])) else (none)))
def tidingsref02_Take.j1 : Nat → List (S27) → List (S27) → Bool → Int → Bool → Int → Int → Int → Int → Int → Int → Int → Int → Int → Int → Int → Int → Int → Int → Option ((List (S27)))
  | 0, _, _, _, _, _, _, _, _, _, _, _, _, _, _, _, _, _, _, _ => none
  | k + 1, x0, x5, x6, x7, x27, x181000, x181001, x181002, x181003, x181004, x181005, x181006, x186000, x186001, x186002, x186003, x186004, x186005, x186006 => if x27 = true then (if x5.length < 4398046511104 then (tidingsref02_Take.j2 k x0 (x5 ++ [(⟨x181000, (⟨x181001, x181002, x181003⟩ : S25), x181004, x181005, x181006⟩ : S27)]) true x7 x181000 x181001 x181002 x181003 x181004 x181005 x181006 x186000 x186001 x186002 x186003 x186004 x186005 x186006) else (none)) else (tidingsref02_Take.j2 k x0 x5 x6 x7 x181000 x181001 x181002 x181003 x181004 x181005 x181006 x186000 x186001 x186002 x186003 x186004 x186005 x186006)
def tidingsref02_Take.j2 : Nat → List (S27) → List (S27) → Bool → Int → Int → Int → Int → Int → Int → Int → Int → Int → Int → Int → Int → Int → Int → Int → Option ((List (S27)))
  | 0, _, _, _, _, _, _, _, _, _, _, _, _, _, _, _, _, _, _ => none
  | k + 1, x0, x5, x6, x7, x181000, x181001, x181002, x181003, x181004, x181005, x181006, x186000, x186001, x186002, x186003, x186004, x186005, x186006 => if x186000 = x181000 then ((tidingsref02_Less.f x186001 x186002 x186003 x181001 x181002 x181003).bind fun t189 => (if t189 = true then (if x5.length < 4398046511104 then (tidingsref02_Take.l0 k x0 (x5 ++ [(⟨x181000, (⟨x181001, x181002, x181003⟩ : S25), x181004, x181005, x181006⟩ : S27)]) true (wrap64 (x7 + 1)) x181000 x181001 x181002 x181003 x181004 x181005 x181006) else (none)) else (if (x186001 == x181001 && (x186002 == x181002 && (x186003 == x181003))) = true then (if x186004 = 2 then (if x181004 = 2 then (if x5.length < 4398046511104 then (tidingsref02_Take.l0 k x0 (x5 ++ [(⟨x186000, (⟨x186001, x186002, x186003⟩ : S25), x186004, x186005, x186006⟩ : S27)]) true (wrap64 (x7 + 1)) x181000 x181001 x181002 x181003 x181004 x181005 x181006) else (none)) else (if x5.length < 4398046511104 then (tidingsref02_Take.l0 k x0 (x5 ++ [(⟨x181000, (⟨x181001, x181002, x181003⟩ : S25), x181004, x181005, x181006⟩ : S27)]) true (wrap64 (x7 + 1)) x181000 x181001 x181002 x181003 x181004 x181005 x181006) else (none))) else (if x5.length < 4398046511104 then (tidingsref02_Take.l0 k x0 (x5 ++ [(⟨x186000, (⟨x186001, x186002, x186003⟩ : S25), x186004, x186005, x186006⟩ : S27)]) true (wrap64 (x7 + 1)) x181000 x181001 x181002 x181003 x181004 x181005 x181006) else (none))) else (if x5.length < 4398046511104 then (tidingsref02_Take.l0 k x0 (x5 ++ [(⟨x186000, (⟨x186001, x186002, x186003⟩ : S25), x186004, x186005, x186006⟩ : S27)]) true (wrap64 (x7 + 1)) x181000 x181001 x181002 x181003 x181004 x181005 x181006) else (none))))) else (if x5.length < 4398046511104 then (tidingsref02_Take.l0 k x0 (x5 ++ [(⟨x186000, (⟨x186001, x186002, x186003⟩ : S25), x186004, x186005, x186006⟩ : S27)]) x6 (wrap64 (x7 + 1)) x181000 x181001 x181002 x181003 x181004 x181005 x181006) else (none))
end
def tidingsref02_Take.f (k : Nat) (l0 : List (S27)) (a1_0 : Int) (a1_1 : Int) (a1_2 : Int) (a1_3 : Int) (a1_4 : Int) (a1_5 : Int) (a1_6 : Int) : Option ((List (S27))) := tidingsref02_Take.l0 k l0 ([] : List (S27)) false 0 a1_0 a1_1 a1_2 a1_3 a1_4 a1_5 a1_6
set_option maxHeartbeats 8000000 in
set_option maxRecDepth 100000 in
theorem tidingsref02_Take.calls (k : Nat) (A0 : Option Addr) (c0 : Nat) (l0 : List (S27)) (a1_0 : Int) (a1_1 : Int) (a1_2 : Int) (a1_3 : Int) (a1_4 : Int) (a1_5 : Int) (a1_6 : Int) (r : List (S27)) (w : World) (hr0 : Kd.C k27 w A0 l0.length l0) (hc0 : l0.length ≤ c0) (h : tidingsref02_Take.f k l0 a1_0 a1_1 a1_2 a1_3 a1_4 a1_5 a1_6 = some r) :
    Calls Tryd.prog 13 #[.slice A0 l0.length c0, .agg #[.int .u8 a1_0, .int .u8 a1_1, .int .u32 a1_2, .int .u32 a1_3, .int .i64 a1_4, .int .u8 a1_5, .int .u32 a1_6]] w fun e w' => ∃ v0_ : Value, e = .returned (v0_) ∧ Kd.R k27 27 w' w.heap.size (fun _ => True) v0_ r ∧ Below w.heap.size w w' := by
  have hu27 := Tryd.underlying27
  have hu25 := Tryd.underlying25
  have HR0 := Aside0.mk hr0
  have HC0 := Aside0.mk hc0
  clear hr0 hc0
  have HB := Aside0.mk (Below.refl w.heap.size w)
  have H : (tidingsref02_Take.l0 k l0 ([] : List (S27)) false 0 a1_0 a1_1 a1_2 a1_3 a1_4 a1_5 a1_6) = some r := h
  clear h
  have H' := Aside0.mk H
  clear H
  go_enter Tryd.func13, Tryd.ntmps13
  go_wp2_with (first | ((with_reducible refine gate_dst (N := 3) rfl ?_); refine box_event ?hg (N := 3) ?hd (cs := #[.int .u8 a1_0, .int .u8 a1_1, .int .u32 a1_2, .int .u32 a1_3, .int .i64 a1_4, .int .u8 a1_5, .int .u32 a1_6]) (t := 27) ?hr ?_; (case hd => rfl); (case hg => rfl); (case hr => first | (go_simp; done) | (go_simp; rfl)); intro gb180 hg w3 hbox hb; have n0_ := Aside0.mk (below_step (by repeat (first | (with_reducible first | exact HB.out | apply below_alloc | apply pw_below_drewN | apply below_drew1) | exact HB.out)) hb); have n1_ := Aside0.mk (hbox); have n2_ := Aside0.mk ((by rw [hg]; exact (below_size (by repeat (first | (with_reducible first | exact HB.out | apply below_alloc | apply pw_below_drewN | apply below_drew1) | exact HB.out))) : w.heap.size ≤ gb180)); have n3_ := Aside0.mk ((by rw [hg]; exact (below_size (by repeat (first | (with_reducible first | exact HB.out | apply below_alloc | apply pw_below_drewN | apply below_drew1) | exact HB.out))) : w.heap.size ≤ gb180)); clear HB; have HB := n0_; have BK180 := n1_; have GW180 := n2_; have GE180 := n3_; clear n0_ n1_ n2_ n3_; clear hb hbox hg))
  go_loopg [5, 6, 7] k (fun kq v5 v6 v7 w' => ∃ (x5_1 : List (S27)) (x6_1 : Bool) (x7_1 : Int), v6 = .bool x6_1 ∧ v7 = .int .i64 x7_1 ∧ Aside0 (tidingsref02_Take.l0 kq l0 x5_1 x6_1 x7_1 a1_0 a1_1 a1_2 a1_3 a1_4 a1_5 a1_6 = some r) ∧ Aside0 (kq ≤ k) ∧ Aside0 (Kd.R k27 27 w' w.heap.size (fun k_ => k_ ≠ gb180) v5 x5_1) ∧ Aside0 (w'.heap[gb180]? = some (.cells #[.int .u8 a1_0, .int .u8 a1_1, .int .u32 a1_2, .int .u32 a1_3, .int .i64 a1_4, .int .u8 a1_5, .int .u32 a1_6] 27 (0, 0))) ∧ Aside0 (Below w.heap.size w w'))
  case atStart => exact ⟨(([] : List (S27))), (false), (0), (by first | rfl | (simp; done) | (simp [*]; done)), (by first | rfl | (simp; done) | (simp [*]; done)), H', ⟨Nat.le_refl _⟩, ⟨by first | exact Kd.R_nil _ _ _ _ _ | exact Kd.N_nil _ _ _ _ _ | exact Kd.V_nil _ _ _ _ _ | exact Kd.Q_nil _ _ _ _ _ | exact Kd.S_nil _ _ _ _ _⟩, ⟨by (with_reducible repeat (first | refine blk_drewN ?_ _ | refine blk_drew ?_ | refine blk_alloc ?_ _)); exact BK180.out⟩, ⟨by repeat (first | (with_reducible first | exact HB.out | apply below_alloc | apply pw_below_drewN | apply below_drew1 | refine below_set ?_ GE180.out) | exact HB.out)⟩⟩
  case round =>
    clear H'
    try clear c1
    try clear p2
    obtain ⟨x5_1, x6_1, x7_1, rfl, rfl, HA, HK1, HO_5, BK180, HB⟩ := hrel
    cases gk with
    | zero => exact absurd HA.out (by simp [tidingsref02_Take.l0])
    | succ k1 =>
      have H := HA.out
      clear HA
      simp only [tidingsref02_Take.l0] at H
      by_cases c4 : x7_1 < (l0.length : Int)
      · rw [if_pos c4] at H
        have c4b0 : decide (x7_1 < (l0.length : Int)) = true := decide_eq_true c4
        clear c4
        by_cases c5 : 0 ≤ x7_1
        · rw [if_pos c5] at H
          have c5b0 : decide (0 ≤ x7_1) = true := decide_eq_true c5
          clear c5
          have HC6 := Aside0.mk H
          clear H
          have p184 : 0 ≤ (x7_1 : Int) := of_decide_eq_true (by first | (with_reducible assumption) | assumption)
          have q184 : x7_1 < (l0.length : Int) := of_decide_eq_true (by first | (with_reducible assumption) | assumption)
          obtain ⟨ad184, e184, hx184_0, hx184_1, hx184_2, hx184_3, hx184_4, hx184_5, hx184_6⟩ := at_T27 HR0.out x7_1 p184 q184
          cases e184
          replace hx184_0 := (HB.out.cell (World.block_lt_of_cell? w _ hx184_0)).trans hx184_0
          replace hx184_1 := (HB.out.cell (World.block_lt_of_cell? w _ hx184_1)).trans hx184_1
          replace hx184_2 := (HB.out.cell (World.block_lt_of_cell? w _ hx184_2)).trans hx184_2
          replace hx184_3 := (HB.out.cell (World.block_lt_of_cell? w _ hx184_3)).trans hx184_3
          replace hx184_4 := (HB.out.cell (World.block_lt_of_cell? w _ hx184_4)).trans hx184_4
          replace hx184_5 := (HB.out.cell (World.block_lt_of_cell? w _ hx184_5)).trans hx184_5
          replace hx184_6 := (HB.out.cell (World.block_lt_of_cell? w _ hx184_6)).trans hx184_6
          replace p184 := eq_true p184
          replace q184 := eq_true q184
          go_upto_region 7 with (first | ((with_reducible refine gate_dst (N := 8) rfl ?_); refine box_event ?hg (N := 8) ?hd (cs := #[.int .u8 0, .int .u8 0, .int .u32 0, .int .u32 0, .int .i64 0, .int .u8 0, .int .u32 0]) (t := 27) ?hr ?_; (case hd => rfl); (case hg => rfl); (case hr => first | (go_simp; done) | (go_simp; rfl)); intro gb185 hg w7 hbox hb; have n0_ := Aside0.mk (Kd.R_below (Kd.R_elderB (by (with_reducible repeat (first | apply Kd.R_alloc | apply Kd.R_drewN | apply Kd.R_drew)); exact HO_5.out) gb185 (Nat.le_of_eq hg.symm)) hb); have n1_ := Aside0.mk (blk_below (g := gb180) (o := .cells #[.int .u8 a1_0, .int .u8 a1_1, .int .u32 a1_2, .int .u32 a1_3, .int .i64 a1_4, .int .u8 a1_5, .int .u32 a1_6] 27 (0, 0)) (by (with_reducible repeat (first | refine blk_drewN ?_ _ | refine blk_drew ?_ | refine blk_alloc ?_ _)); exact BK180.out) hb); have n2_ := Aside0.mk (below_step (by repeat (first | (with_reducible first | exact HB.out | apply below_alloc | apply pw_below_drewN | apply below_drew1 | refine below_set ?_ GE180.out) | exact HB.out)) hb); have n3_ := Aside0.mk (hbox); have n4_ := Aside0.mk ((by rw [hg]; exact (below_size (by repeat (first | (with_reducible first | exact HB.out | apply below_alloc | apply pw_below_drewN | apply below_drew1 | refine below_set ?_ GE180.out) | exact HB.out))) : w.heap.size ≤ gb185)); have n5_ := Aside0.mk ((by rw [hg]; exact (below_size (by repeat (first | (with_reducible first | exact HB.out | apply below_alloc | apply pw_below_drewN | apply below_drew1 | refine below_set ?_ GE180.out) | exact HB.out))) : w.heap.size ≤ gb185)); have n6_ := Aside0.mk ((by rw [hg]; exact Nat.ne_of_lt (blk_lt (g := gb180) (o := .cells #[.int .u8 a1_0, .int .u8 a1_1, .int .u32 a1_2, .int .u32 a1_3, .int .i64 a1_4, .int .u8 a1_5, .int .u32 a1_6] 27 (0, 0)) (by (with_reducible repeat (first | refine blk_drewN ?_ _ | refine blk_drew ?_ | refine blk_alloc ?_ _)); exact BK180.out)) : gb180 ≠ gb185)); have n7_ := Aside0.mk ((by rw [hg]; exact Nat.ne_of_gt (blk_lt (g := gb180) (o := .cells #[.int .u8 a1_0, .int .u8 a1_1, .int .u32 a1_2, .int .u32 a1_3, .int .i64 a1_4, .int .u8 a1_5, .int .u32 a1_6] 27 (0, 0)) (by (with_reducible repeat (first | refine blk_drewN ?_ _ | refine blk_drew ?_ | refine blk_alloc ?_ _)); exact BK180.out)) : gb185 ≠ gb180)); clear HO_5; clear BK180; clear HB; have HO_5 := n0_; have BK180 := n1_; have HB := n2_; have BK185 := n3_; have GW185 := n4_; have GE185 := n5_; have NB180_185 := n6_; have NB185_180 := n7_; clear n0_ n1_ n2_ n3_ n4_ n5_ n6_ n7_; clear hb hbox hg; have hnb8 := NB185_180.out; have hnc8 := NB180_185.out; have hcz9_0 : w7.cell? ⟨gb185, 0, none⟩ = some (.int .u8 0) := (blk_cell BK185.out 0).trans rfl; have hcz9_1 : w7.cell? ⟨gb185, 1, none⟩ = some (.int .u8 0) := (blk_cell BK185.out 1).trans rfl; have hcz9_2 : w7.cell? ⟨gb185, 2, none⟩ = some (.int .u32 0) := (blk_cell BK185.out 2).trans rfl; have hcz9_3 : w7.cell? ⟨gb185, 3, none⟩ = some (.int .u32 0) := (blk_cell BK185.out 3).trans rfl; have hcz9_4 : w7.cell? ⟨gb185, 4, none⟩ = some (.int .i64 0) := (blk_cell BK185.out 4).trans rfl; have hcz9_5 : w7.cell? ⟨gb185, 5, none⟩ = some (.int .u8 0) := (blk_cell BK185.out 5).trans rfl; have hcz9_6 : w7.cell? ⟨gb185, 6, none⟩ = some (.int .u32 0) := (blk_cell BK185.out 6).trans rfl; have hfz9_0 := blk_frozen BK185.out 0; have hfz9_1 := blk_frozen BK185.out 1; have hfz9_2 := blk_frozen BK185.out 2; have hfz9_3 := blk_frozen BK185.out 3; have hfz9_4 := blk_frozen BK185.out 4; have hfz9_5 := blk_frozen BK185.out 5; have hfz9_6 := blk_frozen BK185.out 6))
          (try simp only [Act.put, List.setIfInBounds_toArray, List.set_cons_zero, List.set_cons_succ])
          go_cut [27] (fun v27 wc => ∃ (kq : Nat) (x27_5 : Bool), v27 = .bool x27_5 ∧ Aside0 (tidingsref02_Take.j1 kq l0 x5_1 x6_1 x7_1 x27_5 a1_0 a1_1 a1_2 a1_3 a1_4 a1_5 a1_6 ((rd_T27 l0 x7_1).f0) ((rd_T27 l0 x7_1).f1.f0) ((rd_T27 l0 x7_1).f1.f1) ((rd_T27 l0 x7_1).f1.f2) ((rd_T27 l0 x7_1).f2) ((rd_T27 l0 x7_1).f3) ((rd_T27 l0 x7_1).f4) = some r) ∧ Aside0 (kq ≤ k1) ∧ Aside0 (Kd.R k27 27 wc w.heap.size (fun k_ => k_ ≠ gb180 ∧ k_ ≠ gb185) u5 x5_1) ∧ Aside0 (wc.heap[gb180]? = some (.cells #[.int .u8 a1_0, .int .u8 a1_1, .int .u32 a1_2, .int .u32 a1_3, .int .i64 a1_4, .int .u8 a1_5, .int .u32 a1_6] 27 (0, 0))) ∧ Aside0 (wc.heap[gb185]? = some (.cells #[.int .u8 ((rd_T27 l0 x7_1).f0), .int .u8 ((rd_T27 l0 x7_1).f1.f0), .int .u32 ((rd_T27 l0 x7_1).f1.f1), .int .u32 ((rd_T27 l0 x7_1).f1.f2), .int .i64 ((rd_T27 l0 x7_1).f2), .int .u8 ((rd_T27 l0 x7_1).f3), .int .u32 ((rd_T27 l0 x7_1).f4)] 27 (0, 0))) ∧ Aside0 (Below w.heap.size w wc))
          case first =>
            have H := HC6.out
            clear HC6
            by_cases c10 : ((rd_T27 l0 x7_1).f0) > a1_0
            · rw [if_pos c10] at H
              have c10b0 : decide (a1_0 < ((rd_T27 l0 x7_1).f0)) = true := decide_eq_true c10
              clear c10
              (first | rw [c10b0] | (simp only [i64_w, i32_w]; rw [c10b0]) | skip)
              have H' := Aside0.mk H
              clear H
              have hnb11 := NB185_180.out
              have hnc11 := NB180_185.out
              have hcz12_0 : w7.cell? ⟨gb185, 0, none⟩ = some (.int .u8 0) := (blk_cell BK185.out 0).trans rfl
              have hcz12_1 : w7.cell? ⟨gb185, 1, none⟩ = some (.int .u8 0) := (blk_cell BK185.out 1).trans rfl
              have hcz12_2 : w7.cell? ⟨gb185, 2, none⟩ = some (.int .u32 0) := (blk_cell BK185.out 2).trans rfl
              have hcz12_3 : w7.cell? ⟨gb185, 3, none⟩ = some (.int .u32 0) := (blk_cell BK185.out 3).trans rfl
              have hcz12_4 : w7.cell? ⟨gb185, 4, none⟩ = some (.int .i64 0) := (blk_cell BK185.out 4).trans rfl
              have hcz12_5 : w7.cell? ⟨gb185, 5, none⟩ = some (.int .u8 0) := (blk_cell BK185.out 5).trans rfl
              have hcz12_6 : w7.cell? ⟨gb185, 6, none⟩ = some (.int .u32 0) := (blk_cell BK185.out 6).trans rfl
              have hfz12_0 := blk_frozen BK185.out 0
              have hfz12_1 := blk_frozen BK185.out 1
              have hfz12_2 := blk_frozen BK185.out 2
              have hfz12_3 := blk_frozen BK185.out 3
              have hfz12_4 := blk_frozen BK185.out 4
              have hfz12_5 := blk_frozen BK185.out 5
              have hfz12_6 := blk_frozen BK185.out 6
              have hcz13_0 : w7.cell? ⟨gb180, 0, none⟩ = some (.int .u8 a1_0) := (blk_cell BK180.out 0).trans rfl
              have hcz13_1 : w7.cell? ⟨gb180, 1, none⟩ = some (.int .u8 a1_1) := (blk_cell BK180.out 1).trans rfl
              have hcz13_2 : w7.cell? ⟨gb180, 2, none⟩ = some (.int .u32 a1_2) := (blk_cell BK180.out 2).trans rfl
              have hcz13_3 : w7.cell? ⟨gb180, 3, none⟩ = some (.int .u32 a1_3) := (blk_cell BK180.out 3).trans rfl
              have hcz13_4 : w7.cell? ⟨gb180, 4, none⟩ = some (.int .i64 a1_4) := (blk_cell BK180.out 4).trans rfl
              have hcz13_5 : w7.cell? ⟨gb180, 5, none⟩ = some (.int .u8 a1_5) := (blk_cell BK180.out 5).trans rfl
              have hcz13_6 : w7.cell? ⟨gb180, 6, none⟩ = some (.int .u32 a1_6) := (blk_cell BK180.out 6).trans rfl
              have hfz13_0 := blk_frozen BK180.out 0
              have hfz13_1 := blk_frozen BK180.out 1
              have hfz13_2 := blk_frozen BK180.out 2
              have hfz13_3 := blk_frozen BK180.out 3
              have hfz13_4 := blk_frozen BK180.out 4
              have hfz13_5 := blk_frozen BK180.out 5
              have hfz13_6 := blk_frozen BK180.out 6
              go_wp2
              go_meet
              case rel => exact ⟨_, (!x6_1), (by first | rfl | (simp; done) | (simp [*]; done)), H', ⟨by have := HK1.out; first | omega | exact Nat.le_refl _⟩, ⟨by (with_reducible repeat (first | apply Kd.R_alloc | apply Kd.R_drewN | apply Kd.R_drew)); exact Kd.R_mono (Kd.R_far (p := ⟨gb185, 6, none⟩) (Kd.R_far (p := ⟨gb185, 5, none⟩) (Kd.R_far (p := ⟨gb185, 4, none⟩) (Kd.R_far (p := ⟨gb185, 3, none⟩) (Kd.R_far (p := ⟨gb185, 2, none⟩) (Kd.R_far (p := ⟨gb185, 1, none⟩) (Kd.R_far (p := ⟨gb185, 0, none⟩) (Kd.R_mono HO_5.out (fun k_ hk => (⟨hk, hk.2⟩ : _ ∧ k_ ≠ gb185))) (fun _ hk => hk.2) (.int .u8 ((rd_T27 l0 x7_1).f0))) (fun _ hk => hk.2) (.int .u8 ((rd_T27 l0 x7_1).f1.f0))) (fun _ hk => hk.2) (.int .u32 ((rd_T27 l0 x7_1).f1.f1))) (fun _ hk => hk.2) (.int .u32 ((rd_T27 l0 x7_1).f1.f2))) (fun _ hk => hk.2) (.int .i64 ((rd_T27 l0 x7_1).f2))) (fun _ hk => hk.2) (.int .u8 ((rd_T27 l0 x7_1).f3))) (fun _ hk => hk.2) (.int .u32 ((rd_T27 l0 x7_1).f4))) (fun _ hk => ⟨hk.1.1, hk.1.2⟩)⟩, ⟨by (with_reducible repeat (first | refine blk_drewN ?_ _ | refine blk_drew ?_ | refine blk_alloc ?_ _)); refine blk_far ?_ NB180_185.out _; (with_reducible repeat (first | refine blk_drewN ?_ _ | refine blk_drew ?_ | refine blk_alloc ?_ _)); refine blk_far ?_ NB180_185.out _; (with_reducible repeat (first | refine blk_drewN ?_ _ | refine blk_drew ?_ | refine blk_alloc ?_ _)); refine blk_far ?_ NB180_185.out _; (with_reducible repeat (first | refine blk_drewN ?_ _ | refine blk_drew ?_ | refine blk_alloc ?_ _)); refine blk_far ?_ NB180_185.out _; (with_reducible repeat (first | refine blk_drewN ?_ _ | refine blk_drew ?_ | refine blk_alloc ?_ _)); refine blk_far ?_ NB180_185.out _; (with_reducible repeat (first | refine blk_drewN ?_ _ | refine blk_drew ?_ | refine blk_alloc ?_ _)); refine blk_far ?_ NB180_185.out _; (with_reducible repeat (first | refine blk_drewN ?_ _ | refine blk_drew ?_ | refine blk_alloc ?_ _)); refine blk_far ?_ NB180_185.out _; (with_reducible repeat (first | refine blk_drewN ?_ _ | refine blk_drew ?_ | refine blk_alloc ?_ _)); exact BK180.out⟩, ⟨by (with_reducible repeat (first | refine blk_drewN ?_ _ | refine blk_drew ?_ | refine blk_alloc ?_ _)); refine blk_put (cs := #[.int .u8 ((rd_T27 l0 x7_1).f0), .int .u8 ((rd_T27 l0 x7_1).f1.f0), .int .u32 ((rd_T27 l0 x7_1).f1.f1), .int .u32 ((rd_T27 l0 x7_1).f1.f2), .int .i64 ((rd_T27 l0 x7_1).f2), .int .u8 ((rd_T27 l0 x7_1).f3), .int .u32 0]) ?_ 6 _ rfl; (with_reducible repeat (first | refine blk_drewN ?_ _ | refine blk_drew ?_ | refine blk_alloc ?_ _)); refine blk_put (cs := #[.int .u8 ((rd_T27 l0 x7_1).f0), .int .u8 ((rd_T27 l0 x7_1).f1.f0), .int .u32 ((rd_T27 l0 x7_1).f1.f1), .int .u32 ((rd_T27 l0 x7_1).f1.f2), .int .i64 ((rd_T27 l0 x7_1).f2), .int .u8 0, .int .u32 0]) ?_ 5 _ rfl; (with_reducible repeat (first | refine blk_drewN ?_ _ | refine blk_drew ?_ | refine blk_alloc ?_ _)); refine blk_put (cs := #[.int .u8 ((rd_T27 l0 x7_1).f0), .int .u8 ((rd_T27 l0 x7_1).f1.f0), .int .u32 ((rd_T27 l0 x7_1).f1.f1), .int .u32 ((rd_T27 l0 x7_1).f1.f2), .int .i64 0, .int .u8 0, .int .u32 0]) ?_ 4 _ rfl; (with_reducible repeat (first | refine blk_drewN ?_ _ | refine blk_drew ?_ | refine blk_alloc ?_ _)); refine blk_put (cs := #[.int .u8 ((rd_T27 l0 x7_1).f0), .int .u8 ((rd_T27 l0 x7_1).f1.f0), .int .u32 ((rd_T27 l0 x7_1).f1.f1), .int .u32 0, .int .i64 0, .int .u8 0, .int .u32 0]) ?_ 3 _ rfl; (with_reducible repeat (first | refine blk_drewN ?_ _ | refine blk_drew ?_ | refine blk_alloc ?_ _)); refine blk_put (cs := #[.int .u8 ((rd_T27 l0 x7_1).f0), .int .u8 ((rd_T27 l0 x7_1).f1.f0), .int .u32 0, .int .u32 0, .int .i64 0, .int .u8 0, .int .u32 0]) ?_ 2 _ rfl; (with_reducible repeat (first | refine blk_drewN ?_ _ | refine blk_drew ?_ | refine blk_alloc ?_ _)); refine blk_put (cs := #[.int .u8 ((rd_T27 l0 x7_1).f0), .int .u8 0, .int .u32 0, .int .u32 0, .int .i64 0, .int .u8 0, .int .u32 0]) ?_ 1 _ rfl; (with_reducible repeat (first | refine blk_drewN ?_ _ | refine blk_drew ?_ | refine blk_alloc ?_ _)); refine blk_put (cs := #[.int .u8 0, .int .u8 0, .int .u32 0, .int .u32 0, .int .i64 0, .int .u8 0, .int .u32 0]) ?_ 0 _ rfl; (with_reducible repeat (first | refine blk_drewN ?_ _ | refine blk_drew ?_ | refine blk_alloc ?_ _)); exact BK185.out⟩, ⟨by repeat (first | (with_reducible first | exact HB.out | apply below_alloc | apply pw_below_drewN | apply below_drew1 | refine below_set ?_ GE180.out | refine below_set ?_ GE185.out) | exact HB.out)⟩⟩
            · rw [if_neg c10] at H
              have c10b0 : decide (a1_0 < ((rd_T27 l0 x7_1).f0)) = false := decide_eq_false c10
              clear c10
              (first | rw [c10b0] | (simp only [i64_w, i32_w]; rw [c10b0]) | skip)
              have H' := Aside0.mk H
              clear H
              have hnb14 := NB185_180.out
              have hnc14 := NB180_185.out
              have hcz15_0 : w7.cell? ⟨gb185, 0, none⟩ = some (.int .u8 0) := (blk_cell BK185.out 0).trans rfl
              have hcz15_1 : w7.cell? ⟨gb185, 1, none⟩ = some (.int .u8 0) := (blk_cell BK185.out 1).trans rfl
              have hcz15_2 : w7.cell? ⟨gb185, 2, none⟩ = some (.int .u32 0) := (blk_cell BK185.out 2).trans rfl
              have hcz15_3 : w7.cell? ⟨gb185, 3, none⟩ = some (.int .u32 0) := (blk_cell BK185.out 3).trans rfl
              have hcz15_4 : w7.cell? ⟨gb185, 4, none⟩ = some (.int .i64 0) := (blk_cell BK185.out 4).trans rfl
              have hcz15_5 : w7.cell? ⟨gb185, 5, none⟩ = some (.int .u8 0) := (blk_cell BK185.out 5).trans rfl
              have hcz15_6 : w7.cell? ⟨gb185, 6, none⟩ = some (.int .u32 0) := (blk_cell BK185.out 6).trans rfl
              have hfz15_0 := blk_frozen BK185.out 0
              have hfz15_1 := blk_frozen BK185.out 1
              have hfz15_2 := blk_frozen BK185.out 2
              have hfz15_3 := blk_frozen BK185.out 3
              have hfz15_4 := blk_frozen BK185.out 4
              have hfz15_5 := blk_frozen BK185.out 5
              have hfz15_6 := blk_frozen BK185.out 6
              have hcz16_0 : w7.cell? ⟨gb180, 0, none⟩ = some (.int .u8 a1_0) := (blk_cell BK180.out 0).trans rfl
              have hcz16_1 : w7.cell? ⟨gb180, 1, none⟩ = some (.int .u8 a1_1) := (blk_cell BK180.out 1).trans rfl
              have hcz16_2 : w7.cell? ⟨gb180, 2, none⟩ = some (.int .u32 a1_2) := (blk_cell BK180.out 2).trans rfl
              have hcz16_3 : w7.cell? ⟨gb180, 3, none⟩ = some (.int .u32 a1_3) := (blk_cell BK180.out 3).trans rfl
              have hcz16_4 : w7.cell? ⟨gb180, 4, none⟩ = some (.int .i64 a1_4) := (blk_cell BK180.out 4).trans rfl
              have hcz16_5 : w7.cell? ⟨gb180, 5, none⟩ = some (.int .u8 a1_5) := (blk_cell BK180.out 5).trans rfl
              have hcz16_6 : w7.cell? ⟨gb180, 6, none⟩ = some (.int .u32 a1_6) := (blk_cell BK180.out 6).trans rfl
              have hfz16_0 := blk_frozen BK180.out 0
              have hfz16_1 := blk_frozen BK180.out 1
              have hfz16_2 := blk_frozen BK180.out 2
              have hfz16_3 := blk_frozen BK180.out 3
              have hfz16_4 := blk_frozen BK180.out 4
              have hfz16_5 := blk_frozen BK180.out 5
              have hfz16_6 := blk_frozen BK180.out 6
              go_wp2
              go_meet
              case rel => exact ⟨_, (false), (by first | rfl | (simp; done) | (simp [*]; done)), H', ⟨by have := HK1.out; first | omega | exact Nat.le_refl _⟩, ⟨by (with_reducible repeat (first | apply Kd.R_alloc | apply Kd.R_drewN | apply Kd.R_drew)); exact Kd.R_mono (Kd.R_far (p := ⟨gb185, 6, none⟩) (Kd.R_far (p := ⟨gb185, 5, none⟩) (Kd.R_far (p := ⟨gb185, 4, none⟩) (Kd.R_far (p := ⟨gb185, 3, none⟩) (Kd.R_far (p := ⟨gb185, 2, none⟩) (Kd.R_far (p := ⟨gb185, 1, none⟩) (Kd.R_far (p := ⟨gb185, 0, none⟩) (Kd.R_mono HO_5.out (fun k_ hk => (⟨hk, hk.2⟩ : _ ∧ k_ ≠ gb185))) (fun _ hk => hk.2) (.int .u8 ((rd_T27 l0 x7_1).f0))) (fun _ hk => hk.2) (.int .u8 ((rd_T27 l0 x7_1).f1.f0))) (fun _ hk => hk.2) (.int .u32 ((rd_T27 l0 x7_1).f1.f1))) (fun _ hk => hk.2) (.int .u32 ((rd_T27 l0 x7_1).f1.f2))) (fun _ hk => hk.2) (.int .i64 ((rd_T27 l0 x7_1).f2))) (fun _ hk => hk.2) (.int .u8 ((rd_T27 l0 x7_1).f3))) (fun _ hk => hk.2) (.int .u32 ((rd_T27 l0 x7_1).f4))) (fun _ hk => ⟨hk.1.1, hk.1.2⟩)⟩, ⟨by (with_reducible repeat (first | refine blk_drewN ?_ _ | refine blk_drew ?_ | refine blk_alloc ?_ _)); refine blk_far ?_ NB180_185.out _; (with_reducible repeat (first | refine blk_drewN ?_ _ | refine blk_drew ?_ | refine blk_alloc ?_ _)); refine blk_far ?_ NB180_185.out _; (with_reducible repeat (first | refine blk_drewN ?_ _ | refine blk_drew ?_ | refine blk_alloc ?_ _)); refine blk_far ?_ NB180_185.out _; (with_reducible repeat (first | refine blk_drewN ?_ _ | refine blk_drew ?_ | refine blk_alloc ?_ _)); refine blk_far ?_ NB180_185.out _; (with_reducible repeat (first | refine blk_drewN ?_ _ | refine blk_drew ?_ | refine blk_alloc ?_ _)); refine blk_far ?_ NB180_185.out _; (with_reducible repeat (first | refine blk_drewN ?_ _ | refine blk_drew ?_ | refine blk_alloc ?_ _)); refine blk_far ?_ NB180_185.out _; (with_reducible repeat (first | refine blk_drewN ?_ _ | refine blk_drew ?_ | refine blk_alloc ?_ _)); refine blk_far ?_ NB180_185.out _; (with_reducible repeat (first | refine blk_drewN ?_ _ | refine blk_drew ?_ | refine blk_alloc ?_ _)); exact BK180.out⟩, ⟨by (with_reducible repeat (first | refine blk_drewN ?_ _ | refine blk_drew ?_ | refine blk_alloc ?_ _)); refine blk_put (cs := #[.int .u8 ((rd_T27 l0 x7_1).f0), .int .u8 ((rd_T27 l0 x7_1).f1.f0), .int .u32 ((rd_T27 l0 x7_1).f1.f1), .int .u32 ((rd_T27 l0 x7_1).f1.f2), .int .i64 ((rd_T27 l0 x7_1).f2), .int .u8 ((rd_T27 l0 x7_1).f3), .int .u32 0]) ?_ 6 _ rfl; (with_reducible repeat (first | refine blk_drewN ?_ _ | refine blk_drew ?_ | refine blk_alloc ?_ _)); refine blk_put (cs := #[.int .u8 ((rd_T27 l0 x7_1).f0), .int .u8 ((rd_T27 l0 x7_1).f1.f0), .int .u32 ((rd_T27 l0 x7_1).f1.f1), .int .u32 ((rd_T27 l0 x7_1).f1.f2), .int .i64 ((rd_T27 l0 x7_1).f2), .int .u8 0, .int .u32 0]) ?_ 5 _ rfl; (with_reducible repeat (first | refine blk_drewN ?_ _ | refine blk_drew ?_ | refine blk_alloc ?_ _)); refine blk_put (cs := #[.int .u8 ((rd_T27 l0 x7_1).f0), .int .u8 ((rd_T27 l0 x7_1).f1.f0), .int .u32 ((rd_T27 l0 x7_1).f1.f1), .int .u32 ((rd_T27 l0 x7_1).f1.f2), .int .i64 0, .int .u8 0, .int .u32 0]) ?_ 4 _ rfl; (with_reducible repeat (first | refine blk_drewN ?_ _ | refine blk_drew ?_ | refine blk_alloc ?_ _)); refine blk_put (cs := #[.int .u8 ((rd_T27 l0 x7_1).f0), .int .u8 ((rd_T27 l0 x7_1).f1.f0), .int .u32 ((rd_T27 l0 x7_1).f1.f1), .int .u32 0, .int .i64 0, .int .u8 0, .int .u32 0]) ?_ 3 _ rfl; (with_reducible repeat (first | refine blk_drewN ?_ _ | refine blk_drew ?_ | refine blk_alloc ?_ _)); refine blk_put (cs := #[.int .u8 ((rd_T27 l0 x7_1).f0), .int .u8 ((rd_T27 l0 x7_1).f1.f0), .int .u32 0, .int .u32 0, .int .i64 0, .int .u8 0, .int .u32 0]) ?_ 2 _ rfl; (with_reducible repeat (first | refine blk_drewN ?_ _ | refine blk_drew ?_ | refine blk_alloc ?_ _)); refine blk_put (cs := #[.int .u8 ((rd_T27 l0 x7_1).f0), .int .u8 0, .int .u32 0, .int .u32 0, .int .i64 0, .int .u8 0, .int .u32 0]) ?_ 1 _ rfl; (with_reducible repeat (first | refine blk_drewN ?_ _ | refine blk_drew ?_ | refine blk_alloc ?_ _)); refine blk_put (cs := #[.int .u8 0, .int .u8 0, .int .u32 0, .int .u32 0, .int .i64 0, .int .u8 0, .int .u32 0]) ?_ 0 _ rfl; (with_reducible repeat (first | refine blk_drewN ?_ _ | refine blk_drew ?_ | refine blk_alloc ?_ _)); exact BK185.out⟩, ⟨by repeat (first | (with_reducible first | exact HB.out | apply below_alloc | apply pw_below_drewN | apply below_drew1 | refine below_set ?_ GE180.out | refine below_set ?_ GE185.out) | exact HB.out)⟩⟩
          case rest =>
            clear HC6
            try clear c1
            try clear p1
            try clear q1
            try clear hx1
            try clear p2
            try clear c4
            try clear c4b0
            try clear c5
            try clear c5b0
            try clear c8
            try clear c10
            try clear c10b0
            try clear c11
            try clear c13
            try clear c14
            try clear hcz12_0
            try clear hcz12_1
            try clear hcz12_2
            try clear hcz12_3
            try clear hcz12_4
            try clear hcz12_5
            try clear hcz12_6
            try clear hcz13_0
            try clear hcz13_1
            try clear hcz13_2
            try clear hcz13_3
            try clear hcz13_4
            try clear hcz13_5
            try clear hcz13_6
            try clear hcz15_0
            try clear hcz15_1
            try clear hcz15_2
            try clear hcz15_3
            try clear hcz15_4
            try clear hcz15_5
            try clear hcz15_6
            try clear hcz16_0
            try clear hcz16_1
            try clear hcz16_2
            try clear hcz16_3
            try clear hcz16_4
            try clear hcz16_5
            try clear hcz16_6
            try clear hcz9_0
            try clear hcz9_1
            try clear hcz9_2
            try clear hcz9_3
            try clear hcz9_4
            try clear hcz9_5
            try clear hcz9_6
            try clear hfz12_0
            try clear hfz12_1
            try clear hfz12_2
            try clear hfz12_3
            try clear hfz12_4
            try clear hfz12_5
            try clear hfz12_6
            try clear hfz13_0
            try clear hfz13_1
            try clear hfz13_2
            try clear hfz13_3
            try clear hfz13_4
            try clear hfz13_5
            try clear hfz13_6
            try clear hfz15_0
            try clear hfz15_1
            try clear hfz15_2
            try clear hfz15_3
            try clear hfz15_4
            try clear hfz15_5
            try clear hfz15_6
            try clear hfz16_0
            try clear hfz16_1
            try clear hfz16_2
            try clear hfz16_3
            try clear hfz16_4
            try clear hfz16_5
            try clear hfz16_6
            try clear hfz9_0
            try clear hfz9_1
            try clear hfz9_2
            try clear hfz9_3
            try clear hfz9_4
            try clear hfz9_5
            try clear hfz9_6
            try clear hx184_0
            try clear hx184_1
            try clear hx184_2
            try clear hx184_3
            try clear hx184_4
            try clear hx184_5
            try clear hx184_6
            try clear p184
            try clear p2
            try clear q184
            obtain ⟨kq, x27_5, rfl, HA, HJ5, HO_5, BK180, BK185, HB⟩ := hcut
            cases kq with
            | zero => exact absurd HA.out (by simp [tidingsref02_Take.j1])
            | succ kj5 =>
              have H := HA.out
              clear HA
              simp only [tidingsref02_Take.j1] at H
              have HC17 := Aside0.mk H
              clear H
              go_upto_if 27 with (fail)
              go_cut [5, 6] (fun v5 v6 wc => ∃ (kq : Nat) (x5_16 : List (S27)) (x6_16 : Bool), v6 = .bool x6_16 ∧ Aside0 (tidingsref02_Take.j2 kq l0 x5_16 x6_16 x7_1 a1_0 a1_1 a1_2 a1_3 a1_4 a1_5 a1_6 ((rd_T27 l0 x7_1).f0) ((rd_T27 l0 x7_1).f1.f0) ((rd_T27 l0 x7_1).f1.f1) ((rd_T27 l0 x7_1).f1.f2) ((rd_T27 l0 x7_1).f2) ((rd_T27 l0 x7_1).f3) ((rd_T27 l0 x7_1).f4) = some r) ∧ Aside0 (kq ≤ kj5) ∧ Aside0 (Kd.R k27 27 wc w.heap.size (fun k_ => k_ ≠ gb180 ∧ k_ ≠ gb185) v5 x5_16) ∧ Aside0 (wc.heap[gb180]? = some (.cells #[.int .u8 a1_0, .int .u8 a1_1, .int .u32 a1_2, .int .u32 a1_3, .int .i64 a1_4, .int .u8 a1_5, .int .u32 a1_6] 27 (0, 0))) ∧ Aside0 (wc.heap[gb185]? = some (.cells #[.int .u8 ((rd_T27 l0 x7_1).f0), .int .u8 ((rd_T27 l0 x7_1).f1.f0), .int .u32 ((rd_T27 l0 x7_1).f1.f1), .int .u32 ((rd_T27 l0 x7_1).f1.f2), .int .i64 ((rd_T27 l0 x7_1).f2), .int .u8 ((rd_T27 l0 x7_1).f3), .int .u32 ((rd_T27 l0 x7_1).f4)] 27 (0, 0))) ∧ Aside0 (Below w.heap.size w wc))
              case first =>
                have H := HC17.out
                clear HC17
                by_cases c18 : x27_5 = true
                · subst c18
                  have H1 : (if x5_1.length < 4398046511104 then (tidingsref02_Take.j2 kj5 l0 (x5_1 ++ [(⟨a1_0, (⟨a1_1, a1_2, a1_3⟩ : S25), a1_4, a1_5, a1_6⟩ : S27)]) true x7_1 a1_0 a1_1 a1_2 a1_3 a1_4 a1_5 a1_6 ((rd_T27 l0 x7_1).f0) ((rd_T27 l0 x7_1).f1.f0) ((rd_T27 l0 x7_1).f1.f1) ((rd_T27 l0 x7_1).f1.f2) ((rd_T27 l0 x7_1).f2) ((rd_T27 l0 x7_1).f3) ((rd_T27 l0 x7_1).f4)) else (none)) = some r := by rw [if_pos rfl] at H; exact H
                  clear H
                  have H := H1
                  clear H1
                  by_cases c19 : x5_1.length < 4398046511104
                  · rw [if_pos c19] at H
                    have LMc19 := Aside0.mk c19
                    clear c19
                    obtain ⟨y186, hy186⟩ : ∃ y_ : List (S27), y_ = (x5_1 ++ [(⟨a1_0, (⟨a1_1, a1_2, a1_3⟩ : S25), a1_4, a1_5, a1_6⟩ : S27)]) := ⟨_, rfl⟩
                    replace H : (tidingsref02_Take.j2 kj5 l0 y186 true x7_1 a1_0 a1_1 a1_2 a1_3 a1_4 a1_5 a1_6 ((rd_T27 l0 x7_1).f0) ((rd_T27 l0 x7_1).f1.f0) ((rd_T27 l0 x7_1).f1.f1) ((rd_T27 l0 x7_1).f1.f2) ((rd_T27 l0 x7_1).f2) ((rd_T27 l0 x7_1).f3) ((rd_T27 l0 x7_1).f4)) = some r := by first | (rw [hy186]; with_reducible exact H) | (have H2_ := (Option.bind_some _ _).symm.trans H; rw [hy186]; with_reducible exact H2_) | (have H2_ := (Option.bind_some _ _).symm.trans H; with_reducible exact H2_) | with_reducible exact H | (rw [hy186]; exact H) | exact H
                    have Ny186 := Aside0.mk hy186
                    clear hy186
                    have H' := Aside0.mk H
                    clear H
                    have hnb20 := NB180_185.out
                    have hnc20 := NB185_180.out
                    have hcz21_0 : wc.cell? ⟨gb180, 0, none⟩ = some (.int .u8 a1_0) := (blk_cell BK180.out 0).trans rfl
                    have hcz21_1 : wc.cell? ⟨gb180, 1, none⟩ = some (.int .u8 a1_1) := (blk_cell BK180.out 1).trans rfl
                    have hcz21_2 : wc.cell? ⟨gb180, 2, none⟩ = some (.int .u32 a1_2) := (blk_cell BK180.out 2).trans rfl
                    have hcz21_3 : wc.cell? ⟨gb180, 3, none⟩ = some (.int .u32 a1_3) := (blk_cell BK180.out 3).trans rfl
                    have hcz21_4 : wc.cell? ⟨gb180, 4, none⟩ = some (.int .i64 a1_4) := (blk_cell BK180.out 4).trans rfl
                    have hcz21_5 : wc.cell? ⟨gb180, 5, none⟩ = some (.int .u8 a1_5) := (blk_cell BK180.out 5).trans rfl
                    have hcz21_6 : wc.cell? ⟨gb180, 6, none⟩ = some (.int .u32 a1_6) := (blk_cell BK180.out 6).trans rfl
                    have hfz21_0 := blk_frozen BK180.out 0
                    have hfz21_1 := blk_frozen BK180.out 1
                    have hfz21_2 := blk_frozen BK180.out 2
                    have hfz21_3 := blk_frozen BK180.out 3
                    have hfz21_4 := blk_frozen BK180.out 4
                    have hfz21_5 := blk_frozen BK180.out 5
                    have hfz21_6 := blk_frozen BK180.out 6
                    go_wp2_with (first | ((with_reducible refine gate_builtin (b := .append) (xs := #[.tmp 28, .tmp 30]) rfl ?_); at_builtin; refine Kd.R_append k27 (w0 := w) w.heap.size rfl (.tmp 28) (.tmp 30) 22 27 (.agg #[(.int .u8 0), (.int .u8 0), (.int .u32 0), (.int .u32 0), (.int .i64 0), (.int .u8 0), (.int .u32 0)]) 32 rfl Tryd.underlying22 info27 rfl (by decide) (by omega) u5 x5_1 (⟨a1_0, (⟨a1_1, a1_2, a1_3⟩ : S25), a1_4, a1_5, a1_6⟩ : S27) [.int .u8 a1_0, .int .u8 a1_1, .int .u32 a1_2, .int .u32 a1_3, .int .i64 a1_4, .int .u8 a1_5, .int .u32 a1_6] (fun k_ => k_ ≠ gb180 ∧ k_ ≠ gb185) (fun _ => False) rfl rfl ?aP (fun _ hk => hk.elim) ?aF ?aO ?aB ?aS ?aL ?_; (case aP => exact k27_mkM _ _ _ (⟨a1_0, (⟨a1_1, a1_2, a1_3⟩ : S25), a1_4, a1_5, a1_6⟩ : S27)); (case aB => exact (by repeat (first | (with_reducible first | exact HB.out | apply below_alloc | apply pw_below_drewN | apply below_drew1 | refine below_set ?_ GE180.out | refine below_set ?_ GE185.out) | exact HB.out))); (case aF => exact (fun k_ hk => ⟨Kd.freshB (g := gb180) (o := .cells #[.int .u8 a1_0, .int .u8 a1_1, .int .u32 a1_2, .int .u32 a1_3, .int .i64 a1_4, .int .u8 a1_5, .int .u32 a1_6] 27 (0, 0)) (by (with_reducible repeat (first | refine blk_drewN ?_ _ | refine blk_drew ?_ | refine blk_alloc ?_ _)); exact BK180.out) k_ hk, Kd.freshB (g := gb185) (o := .cells #[.int .u8 ((rd_T27 l0 x7_1).f0), .int .u8 ((rd_T27 l0 x7_1).f1.f0), .int .u32 ((rd_T27 l0 x7_1).f1.f1), .int .u32 ((rd_T27 l0 x7_1).f1.f2), .int .i64 ((rd_T27 l0 x7_1).f2), .int .u8 ((rd_T27 l0 x7_1).f3), .int .u32 ((rd_T27 l0 x7_1).f4)] 27 (0, 0)) (by (with_reducible repeat (first | refine blk_drewN ?_ _ | refine blk_drew ?_ | refine blk_alloc ?_ _)); exact BK185.out) k_ hk⟩)); (case aO => exact (by (with_reducible repeat (first | apply Kd.R_alloc | apply Kd.R_drewN | apply Kd.R_drew)); exact HO_5.out)); (case aS => exact (below_size (by repeat (first | (with_reducible first | exact HB.out | apply below_alloc | apply pw_below_drewN | apply below_drew1 | refine below_set ?_ GE180.out | refine below_set ?_ GE185.out) | exact HB.out)))); (case aL => have := LMc19.out; omega); intro v187 w22 ho hb hg hat; rw [← Ny186.out] at ho; have n0_ := Aside0.mk (blk_grown (g := gb180) (o := .cells #[.int .u8 a1_0, .int .u8 a1_1, .int .u32 a1_2, .int .u32 a1_3, .int .i64 a1_4, .int .u8 a1_5, .int .u32 a1_6] 27 (0, 0)) (by (with_reducible repeat (first | refine blk_drewN ?_ _ | refine blk_drew ?_ | refine blk_alloc ?_ _)); exact BK180.out) hg (Kd.R_away HO_5.out (fun _ hk => hk.1))); have n1_ := Aside0.mk (blk_grown (g := gb185) (o := .cells #[.int .u8 ((rd_T27 l0 x7_1).f0), .int .u8 ((rd_T27 l0 x7_1).f1.f0), .int .u32 ((rd_T27 l0 x7_1).f1.f1), .int .u32 ((rd_T27 l0 x7_1).f1.f2), .int .i64 ((rd_T27 l0 x7_1).f2), .int .u8 ((rd_T27 l0 x7_1).f3), .int .u32 ((rd_T27 l0 x7_1).f4)] 27 (0, 0)) (by (with_reducible repeat (first | refine blk_drewN ?_ _ | refine blk_drew ?_ | refine blk_alloc ?_ _)); exact BK185.out) hg (Kd.R_away HO_5.out (fun _ hk => hk.2))); have n2_ := Aside0.mk (hb); have n3_ := Aside0.mk (ho); clear BK180; clear BK185; clear HB; clear HO_5; have BK180 := n0_; have BK185 := n1_; have HB := n2_; have HO188 := n3_; clear n0_ n1_ n2_ n3_; clear ho hb hg hat))
                    go_meet
                    case rel => exact ⟨_, (y186), (true), (by first | rfl | (simp; done) | (simp [*]; done)), H', ⟨by have := HK1.out; have := HJ5.out; first | omega | exact Nat.le_refl _⟩, ⟨by (with_reducible repeat (first | apply Kd.R_alloc | apply Kd.R_drewN | apply Kd.R_drew)); exact HO188.out⟩, ⟨by (with_reducible repeat (first | refine blk_drewN ?_ _ | refine blk_drew ?_ | refine blk_alloc ?_ _)); exact BK180.out⟩, ⟨by (with_reducible repeat (first | refine blk_drewN ?_ _ | refine blk_drew ?_ | refine blk_alloc ?_ _)); exact BK185.out⟩, ⟨by repeat (first | (with_reducible first | exact HB.out | apply below_alloc | apply pw_below_drewN | apply below_drew1 | refine below_set ?_ GE180.out | refine below_set ?_ GE185.out) | exact HB.out)⟩⟩
                  · rw [if_neg c19] at H
                    exact absurd H (by simp)
                · replace c18 := Bool.eq_false_iff.mpr c18
                  subst c18
                  have H1 : (tidingsref02_Take.j2 kj5 l0 x5_1 x6_1 x7_1 a1_0 a1_1 a1_2 a1_3 a1_4 a1_5 a1_6 ((rd_T27 l0 x7_1).f0) ((rd_T27 l0 x7_1).f1.f0) ((rd_T27 l0 x7_1).f1.f1) ((rd_T27 l0 x7_1).f1.f2) ((rd_T27 l0 x7_1).f2) ((rd_T27 l0 x7_1).f3) ((rd_T27 l0 x7_1).f4)) = some r := by rw [if_neg (show ¬ (false = true) by decide)] at H; exact H
                  clear H
                  have H := H1
                  clear H1
                  have H' := Aside0.mk H
                  clear H
                  go_wp2
                  go_meet
                  case rel => exact ⟨_, (x5_1), (x6_1), (by first | rfl | (simp; done) | (simp [*]; done)), H', ⟨by have := HK1.out; have := HJ5.out; first | omega | exact Nat.le_refl _⟩, ⟨by (with_reducible repeat (first | apply Kd.R_alloc | apply Kd.R_drewN | apply Kd.R_drew)); exact HO_5.out⟩, ⟨by (with_reducible repeat (first | refine blk_drewN ?_ _ | refine blk_drew ?_ | refine blk_alloc ?_ _)); exact BK180.out⟩, ⟨by (with_reducible repeat (first | refine blk_drewN ?_ _ | refine blk_drew ?_ | refine blk_alloc ?_ _)); exact BK185.out⟩, ⟨by repeat (first | (with_reducible first | exact HB.out | apply below_alloc | apply pw_below_drewN | apply below_drew1 | refine below_set ?_ GE180.out | refine below_set ?_ GE185.out) | exact HB.out)⟩⟩
              case rest =>
                clear HC17
                try clear c1
                try clear p1
                try clear q1
                try clear hx1
                try clear c2
                try clear p2
                try clear c4
                try clear c4b0
                try clear c5
                try clear c5b0
                try clear c8
                try clear c10
                try clear c10b0
                try clear c11
                try clear c13
                try clear c14
                try clear c18
                try clear p18
                try clear q18
                try clear hx18
                try clear c19
                try clear c20
                try clear hcz12_0
                try clear hcz12_1
                try clear hcz12_2
                try clear hcz12_3
                try clear hcz12_4
                try clear hcz12_5
                try clear hcz12_6
                try clear hcz13_0
                try clear hcz13_1
                try clear hcz13_2
                try clear hcz13_3
                try clear hcz13_4
                try clear hcz13_5
                try clear hcz13_6
                try clear hcz15_0
                try clear hcz15_1
                try clear hcz15_2
                try clear hcz15_3
                try clear hcz15_4
                try clear hcz15_5
                try clear hcz15_6
                try clear hcz16_0
                try clear hcz16_1
                try clear hcz16_2
                try clear hcz16_3
                try clear hcz16_4
                try clear hcz16_5
                try clear hcz16_6
                try clear hcz21_0
                try clear hcz21_1
                try clear hcz21_2
                try clear hcz21_3
                try clear hcz21_4
                try clear hcz21_5
                try clear hcz21_6
                try clear hcz9_0
                try clear hcz9_1
                try clear hcz9_2
                try clear hcz9_3
                try clear hcz9_4
                try clear hcz9_5
                try clear hcz9_6
                try clear hfz12_0
                try clear hfz12_1
                try clear hfz12_2
                try clear hfz12_3
                try clear hfz12_4
                try clear hfz12_5
                try clear hfz12_6
                try clear hfz13_0
                try clear hfz13_1
                try clear hfz13_2
                try clear hfz13_3
                try clear hfz13_4
                try clear hfz13_5
                try clear hfz13_6
                try clear hfz15_0
                try clear hfz15_1
                try clear hfz15_2
                try clear hfz15_3
                try clear hfz15_4
                try clear hfz15_5
                try clear hfz15_6
                try clear hfz16_0
                try clear hfz16_1
                try clear hfz16_2
                try clear hfz16_3
                try clear hfz16_4
                try clear hfz16_5
                try clear hfz16_6
                try clear hfz21_0
                try clear hfz21_1
                try clear hfz21_2
                try clear hfz21_3
                try clear hfz21_4
                try clear hfz21_5
                try clear hfz21_6
                try clear hfz9_0
                try clear hfz9_1
                try clear hfz9_2
                try clear hfz9_3
                try clear hfz9_4
                try clear hfz9_5
                try clear hfz9_6
                try clear hx184_0
                try clear hx184_1
                try clear hx184_2
                try clear hx184_3
                try clear hx184_4
                try clear hx184_5
                try clear hx184_6
                try clear p1
                try clear p184
                try clear p2
                try clear q1
                try clear q184
                obtain ⟨kq, x5_16, x6_16, rfl, HA, HJ16, HO_5, BK180, BK185, HB⟩ := hcut
                cases kq with
                | zero => exact absurd HA.out (by simp [tidingsref02_Take.j2])
                | succ kj16 =>
                  have H := HA.out
                  clear HA
                  simp only [tidingsref02_Take.j2] at H
                  by_cases c23 : ((rd_T27 l0 x7_1).f0) = a1_0
                  · rw [if_pos c23] at H
                    have c23b0 : (((rd_T27 l0 x7_1).f0) == a1_0) = true := beq_iff_eq.mpr c23
                    have c23b1 : (((rd_T27 l0 x7_1).f0) != a1_0) = false := bne_eq_false_iff_eq.mpr c23
                    clear c23
                    replace H := Option.bind_eq_some_iff.mp H
                    obtain ⟨t189, A240, H⟩ := H
                    replace H : (if t189 = true then (if x5_16.length < 4398046511104 then (tidingsref02_Take.l0 kj16 l0 (x5_16 ++ [(⟨a1_0, (⟨a1_1, a1_2, a1_3⟩ : S25), a1_4, a1_5, a1_6⟩ : S27)]) true (wrap64 (x7_1 + 1)) a1_0 a1_1 a1_2 a1_3 a1_4 a1_5 a1_6) else (none)) else (if (((rd_T27 l0 x7_1).f1.f0) == a1_1 && (((rd_T27 l0 x7_1).f1.f1) == a1_2 && (((rd_T27 l0 x7_1).f1.f2) == a1_3))) = true then (if ((rd_T27 l0 x7_1).f2) = 2 then (if a1_4 = 2 then (if x5_16.length < 4398046511104 then (tidingsref02_Take.l0 kj16 l0 (x5_16 ++ [(⟨((rd_T27 l0 x7_1).f0), (⟨((rd_T27 l0 x7_1).f1.f0), ((rd_T27 l0 x7_1).f1.f1), ((rd_T27 l0 x7_1).f1.f2)⟩ : S25), ((rd_T27 l0 x7_1).f2), ((rd_T27 l0 x7_1).f3), ((rd_T27 l0 x7_1).f4)⟩ : S27)]) true (wrap64 (x7_1 + 1)) a1_0 a1_1 a1_2 a1_3 a1_4 a1_5 a1_6) else (none)) else (if x5_16.length < 4398046511104 then (tidingsref02_Take.l0 kj16 l0 (x5_16 ++ [(⟨a1_0, (⟨a1_1, a1_2, a1_3⟩ : S25), a1_4, a1_5, a1_6⟩ : S27)]) true (wrap64 (x7_1 + 1)) a1_0 a1_1 a1_2 a1_3 a1_4 a1_5 a1_6) else (none))) else (if x5_16.length < 4398046511104 then (tidingsref02_Take.l0 kj16 l0 (x5_16 ++ [(⟨((rd_T27 l0 x7_1).f0), (⟨((rd_T27 l0 x7_1).f1.f0), ((rd_T27 l0 x7_1).f1.f1), ((rd_T27 l0 x7_1).f1.f2)⟩ : S25), ((rd_T27 l0 x7_1).f2), ((rd_T27 l0 x7_1).f3), ((rd_T27 l0 x7_1).f4)⟩ : S27)]) true (wrap64 (x7_1 + 1)) a1_0 a1_1 a1_2 a1_3 a1_4 a1_5 a1_6) else (none))) else (if x5_16.length < 4398046511104 then (tidingsref02_Take.l0 kj16 l0 (x5_16 ++ [(⟨((rd_T27 l0 x7_1).f0), (⟨((rd_T27 l0 x7_1).f1.f0), ((rd_T27 l0 x7_1).f1.f1), ((rd_T27 l0 x7_1).f1.f2)⟩ : S25), ((rd_T27 l0 x7_1).f2), ((rd_T27 l0 x7_1).f3), ((rd_T27 l0 x7_1).f4)⟩ : S27)]) true (wrap64 (x7_1 + 1)) a1_0 a1_1 a1_2 a1_3 a1_4 a1_5 a1_6) else (none)))) = some r := H
                    have A24 := Aside0.mk A240
                    clear A240
                    by_cases c25 : t189 = true
                    · subst c25
                      have H1 : (if x5_16.length < 4398046511104 then (tidingsref02_Take.l0 kj16 l0 (x5_16 ++ [(⟨a1_0, (⟨a1_1, a1_2, a1_3⟩ : S25), a1_4, a1_5, a1_6⟩ : S27)]) true (wrap64 (x7_1 + 1)) a1_0 a1_1 a1_2 a1_3 a1_4 a1_5 a1_6) else (none)) = some r := by rw [if_pos rfl] at H; exact H
                      clear H
                      have H := H1
                      clear H1
                      by_cases c26 : x5_16.length < 4398046511104
                      · rw [if_pos c26] at H
                        have LMc26 := Aside0.mk c26
                        clear c26
                        obtain ⟨y190, hy190⟩ : ∃ y_ : List (S27), y_ = (x5_16 ++ [(⟨a1_0, (⟨a1_1, a1_2, a1_3⟩ : S25), a1_4, a1_5, a1_6⟩ : S27)]) := ⟨_, rfl⟩
                        replace H : (tidingsref02_Take.l0 kj16 l0 y190 true (wrap64 (x7_1 + 1)) a1_0 a1_1 a1_2 a1_3 a1_4 a1_5 a1_6) = some r := by first | (rw [hy190]; with_reducible exact H) | (have H2_ := (Option.bind_some _ _).symm.trans H; rw [hy190]; with_reducible exact H2_) | (have H2_ := (Option.bind_some _ _).symm.trans H; with_reducible exact H2_) | with_reducible exact H | (rw [hy190]; exact H) | exact H
                        have Ny190 := Aside0.mk hy190
                        clear hy190
                        have H' := Aside0.mk H
                        clear H
                        have hnb27 := NB185_180.out
                        have hnc27 := NB180_185.out
                        have hcz28_0 : wc.cell? ⟨gb185, 0, none⟩ = some (.int .u8 ((rd_T27 l0 x7_1).f0)) := (blk_cell BK185.out 0).trans rfl
                        have hcz28_1 : wc.cell? ⟨gb185, 1, none⟩ = some (.int .u8 ((rd_T27 l0 x7_1).f1.f0)) := (blk_cell BK185.out 1).trans rfl
                        have hcz28_2 : wc.cell? ⟨gb185, 2, none⟩ = some (.int .u32 ((rd_T27 l0 x7_1).f1.f1)) := (blk_cell BK185.out 2).trans rfl
                        have hcz28_3 : wc.cell? ⟨gb185, 3, none⟩ = some (.int .u32 ((rd_T27 l0 x7_1).f1.f2)) := (blk_cell BK185.out 3).trans rfl
                        have hcz28_4 : wc.cell? ⟨gb185, 4, none⟩ = some (.int .i64 ((rd_T27 l0 x7_1).f2)) := (blk_cell BK185.out 4).trans rfl
                        have hcz28_5 : wc.cell? ⟨gb185, 5, none⟩ = some (.int .u8 ((rd_T27 l0 x7_1).f3)) := (blk_cell BK185.out 5).trans rfl
                        have hcz28_6 : wc.cell? ⟨gb185, 6, none⟩ = some (.int .u32 ((rd_T27 l0 x7_1).f4)) := (blk_cell BK185.out 6).trans rfl
                        have hfz28_0 := blk_frozen BK185.out 0
                        have hfz28_1 := blk_frozen BK185.out 1
                        have hfz28_2 := blk_frozen BK185.out 2
                        have hfz28_3 := blk_frozen BK185.out 3
                        have hfz28_4 := blk_frozen BK185.out 4
                        have hfz28_5 := blk_frozen BK185.out 5
                        have hfz28_6 := blk_frozen BK185.out 6
                        have hcz29_0 : wc.cell? ⟨gb180, 0, none⟩ = some (.int .u8 a1_0) := (blk_cell BK180.out 0).trans rfl
                        have hcz29_1 : wc.cell? ⟨gb180, 1, none⟩ = some (.int .u8 a1_1) := (blk_cell BK180.out 1).trans rfl
                        have hcz29_2 : wc.cell? ⟨gb180, 2, none⟩ = some (.int .u32 a1_2) := (blk_cell BK180.out 2).trans rfl
                        have hcz29_3 : wc.cell? ⟨gb180, 3, none⟩ = some (.int .u32 a1_3) := (blk_cell BK180.out 3).trans rfl
                        have hcz29_4 : wc.cell? ⟨gb180, 4, none⟩ = some (.int .i64 a1_4) := (blk_cell BK180.out 4).trans rfl
                        have hcz29_5 : wc.cell? ⟨gb180, 5, none⟩ = some (.int .u8 a1_5) := (blk_cell BK180.out 5).trans rfl
                        have hcz29_6 : wc.cell? ⟨gb180, 6, none⟩ = some (.int .u32 a1_6) := (blk_cell BK180.out 6).trans rfl
                        have hfz29_0 := blk_frozen BK180.out 0
                        have hfz29_1 := blk_frozen BK180.out 1
                        have hfz29_2 := blk_frozen BK180.out 2
                        have hfz29_3 := blk_frozen BK180.out 3
                        have hfz29_4 := blk_frozen BK180.out 4
                        have hfz29_5 := blk_frozen BK180.out 5
                        have hfz29_6 := blk_frozen BK180.out 6
                        go_wp2_with (first | ((with_reducible refine gate_callee (f := 38) rfl ?_); refine goesL_ (some 41) rfl rfl Tryd.func38 (by kernel_rfl) rfl #[.agg #[.int .u8 ((rd_T27 l0 x7_1).f1.f0), .int .u32 ((rd_T27 l0 x7_1).f1.f1), .int .u32 ((rd_T27 l0 x7_1).f1.f2)], .agg #[.int .u8 a1_1, .int .u32 a1_2, .int .u32 a1_3]] rfl (by (try simp only [List.map_toArray, List.map_cons, List.map_nil]); first | done | rfl | (simp only [List.length_drop, List.length_take]; rfl)) ?_; (with_reducible refine (tidingsref02_Less.calls ((rd_T27 l0 x7_1).f1.f0) ((rd_T27 l0 x7_1).f1.f1) ((rd_T27 l0 x7_1).f1.f2) a1_1 a1_2 a1_3 true _ A24.out).mono ?_); rintro e w30 ⟨rfl, hb⟩; refine ⟨_, rfl, ?_⟩; have n0_ := Aside0.mk (Kd.R_below (by (with_reducible repeat (first | apply Kd.R_alloc | apply Kd.R_drewN | apply Kd.R_drew)); exact HO_5.out) hb); have n1_ := Aside0.mk (blk_below (g := gb180) (o := .cells #[.int .u8 a1_0, .int .u8 a1_1, .int .u32 a1_2, .int .u32 a1_3, .int .i64 a1_4, .int .u8 a1_5, .int .u32 a1_6] 27 (0, 0)) (by (with_reducible repeat (first | refine blk_drewN ?_ _ | refine blk_drew ?_ | refine blk_alloc ?_ _)); exact BK180.out) hb); have n2_ := Aside0.mk (blk_below (g := gb185) (o := .cells #[.int .u8 ((rd_T27 l0 x7_1).f0), .int .u8 ((rd_T27 l0 x7_1).f1.f0), .int .u32 ((rd_T27 l0 x7_1).f1.f1), .int .u32 ((rd_T27 l0 x7_1).f1.f2), .int .i64 ((rd_T27 l0 x7_1).f2), .int .u8 ((rd_T27 l0 x7_1).f3), .int .u32 ((rd_T27 l0 x7_1).f4)] 27 (0, 0)) (by (with_reducible repeat (first | refine blk_drewN ?_ _ | refine blk_drew ?_ | refine blk_alloc ?_ _)); exact BK185.out) hb); have n3_ := Aside0.mk (below_step (by repeat (first | (with_reducible first | exact HB.out | apply below_alloc | apply pw_below_drewN | apply below_drew1 | refine below_set ?_ GE180.out | refine below_set ?_ GE185.out) | exact HB.out)) hb); clear HO_5; clear BK180; clear BK185; clear HB; have HO_5 := n0_; have BK180 := n1_; have BK185 := n2_; have HB := n3_; clear n0_ n1_ n2_ n3_; (try clear hb); (try clear hb2); (try clear hk); (try clear hi); have hcz31_0 : w30.cell? ⟨gb180, 0, none⟩ = some (.int .u8 a1_0) := (blk_cell BK180.out 0).trans rfl; have hcz31_1 : w30.cell? ⟨gb180, 1, none⟩ = some (.int .u8 a1_1) := (blk_cell BK180.out 1).trans rfl; have hcz31_2 : w30.cell? ⟨gb180, 2, none⟩ = some (.int .u32 a1_2) := (blk_cell BK180.out 2).trans rfl; have hcz31_3 : w30.cell? ⟨gb180, 3, none⟩ = some (.int .u32 a1_3) := (blk_cell BK180.out 3).trans rfl; have hcz31_4 : w30.cell? ⟨gb180, 4, none⟩ = some (.int .i64 a1_4) := (blk_cell BK180.out 4).trans rfl; have hcz31_5 : w30.cell? ⟨gb180, 5, none⟩ = some (.int .u8 a1_5) := (blk_cell BK180.out 5).trans rfl; have hcz31_6 : w30.cell? ⟨gb180, 6, none⟩ = some (.int .u32 a1_6) := (blk_cell BK180.out 6).trans rfl; have hfz31_0 := blk_frozen BK180.out 0; have hfz31_1 := blk_frozen BK180.out 1; have hfz31_2 := blk_frozen BK180.out 2; have hfz31_3 := blk_frozen BK180.out 3; have hfz31_4 := blk_frozen BK180.out 4; have hfz31_5 := blk_frozen BK180.out 5; have hfz31_6 := blk_frozen BK180.out 6; have hcz32_0 : w30.cell? ⟨gb185, 0, none⟩ = some (.int .u8 ((rd_T27 l0 x7_1).f0)) := (blk_cell BK185.out 0).trans rfl; have hcz32_1 : w30.cell? ⟨gb185, 1, none⟩ = some (.int .u8 ((rd_T27 l0 x7_1).f1.f0)) := (blk_cell BK185.out 1).trans rfl; have hcz32_2 : w30.cell? ⟨gb185, 2, none⟩ = some (.int .u32 ((rd_T27 l0 x7_1).f1.f1)) := (blk_cell BK185.out 2).trans rfl; have hcz32_3 : w30.cell? ⟨gb185, 3, none⟩ = some (.int .u32 ((rd_T27 l0 x7_1).f1.f2)) := (blk_cell BK185.out 3).trans rfl; have hcz32_4 : w30.cell? ⟨gb185, 4, none⟩ = some (.int .i64 ((rd_T27 l0 x7_1).f2)) := (blk_cell BK185.out 4).trans rfl; have hcz32_5 : w30.cell? ⟨gb185, 5, none⟩ = some (.int .u8 ((rd_T27 l0 x7_1).f3)) := (blk_cell BK185.out 5).trans rfl; have hcz32_6 : w30.cell? ⟨gb185, 6, none⟩ = some (.int .u32 ((rd_T27 l0 x7_1).f4)) := (blk_cell BK185.out 6).trans rfl; have hfz32_0 := blk_frozen BK185.out 0; have hfz32_1 := blk_frozen BK185.out 1; have hfz32_2 := blk_frozen BK185.out 2; have hfz32_3 := blk_frozen BK185.out 3; have hfz32_4 := blk_frozen BK185.out 4; have hfz32_5 := blk_frozen BK185.out 5; have hfz32_6 := blk_frozen BK185.out 6) | ((with_reducible refine gate_builtin (b := .append) (xs := #[.tmp 60, .tmp 62]) rfl ?_); at_builtin; refine Kd.R_append k27 (w0 := w) w.heap.size rfl (.tmp 60) (.tmp 62) 22 27 (.agg #[(.int .u8 0), (.int .u8 0), (.int .u32 0), (.int .u32 0), (.int .i64 0), (.int .u8 0), (.int .u32 0)]) 32 rfl Tryd.underlying22 info27 rfl (by decide) (by omega) u5 x5_16 (⟨a1_0, (⟨a1_1, a1_2, a1_3⟩ : S25), a1_4, a1_5, a1_6⟩ : S27) [.int .u8 a1_0, .int .u8 a1_1, .int .u32 a1_2, .int .u32 a1_3, .int .i64 a1_4, .int .u8 a1_5, .int .u32 a1_6] (fun k_ => k_ ≠ gb180 ∧ k_ ≠ gb185) (fun _ => False) rfl (by first | (go_simp; done) | (go_simp; rfl)) ?aP (fun _ hk => hk.elim) ?aF ?aO ?aB ?aS ?aL ?_; (case aP => exact k27_mkM _ _ _ (⟨a1_0, (⟨a1_1, a1_2, a1_3⟩ : S25), a1_4, a1_5, a1_6⟩ : S27)); (case aB => exact (by repeat (first | (with_reducible first | exact HB.out | apply below_alloc | apply pw_below_drewN | apply below_drew1 | refine below_set ?_ GE180.out | refine below_set ?_ GE185.out) | exact HB.out))); (case aF => exact (fun k_ hk => ⟨Kd.freshB (g := gb180) (o := .cells #[.int .u8 a1_0, .int .u8 a1_1, .int .u32 a1_2, .int .u32 a1_3, .int .i64 a1_4, .int .u8 a1_5, .int .u32 a1_6] 27 (0, 0)) (by (with_reducible repeat (first | refine blk_drewN ?_ _ | refine blk_drew ?_ | refine blk_alloc ?_ _)); refine blk_far ?_ NB180_185.out _; (with_reducible repeat (first | refine blk_drewN ?_ _ | refine blk_drew ?_ | refine blk_alloc ?_ _)); refine blk_far ?_ NB180_185.out _; (with_reducible repeat (first | refine blk_drewN ?_ _ | refine blk_drew ?_ | refine blk_alloc ?_ _)); refine blk_far ?_ NB180_185.out _; (with_reducible repeat (first | refine blk_drewN ?_ _ | refine blk_drew ?_ | refine blk_alloc ?_ _)); refine blk_far ?_ NB180_185.out _; (with_reducible repeat (first | refine blk_drewN ?_ _ | refine blk_drew ?_ | refine blk_alloc ?_ _)); refine blk_far ?_ NB180_185.out _; (with_reducible repeat (first | refine blk_drewN ?_ _ | refine blk_drew ?_ | refine blk_alloc ?_ _)); refine blk_far ?_ NB180_185.out _; (with_reducible repeat (first | refine blk_drewN ?_ _ | refine blk_drew ?_ | refine blk_alloc ?_ _)); refine blk_far ?_ NB180_185.out _; (with_reducible repeat (first | refine blk_drewN ?_ _ | refine blk_drew ?_ | refine blk_alloc ?_ _)); exact BK180.out) k_ hk, Kd.freshB (g := gb185) (o := .cells #[.int .u8 a1_0, .int .u8 a1_1, .int .u32 a1_2, .int .u32 a1_3, .int .i64 a1_4, .int .u8 a1_5, .int .u32 a1_6] 27 (0, 0)) (by (with_reducible repeat (first | refine blk_drewN ?_ _ | refine blk_drew ?_ | refine blk_alloc ?_ _)); refine blk_put (cs := #[.int .u8 a1_0, .int .u8 a1_1, .int .u32 a1_2, .int .u32 a1_3, .int .i64 a1_4, .int .u8 a1_5, .int .u32 ((rd_T27 l0 x7_1).f4)]) ?_ 6 _ rfl; (with_reducible repeat (first | refine blk_drewN ?_ _ | refine blk_drew ?_ | refine blk_alloc ?_ _)); refine blk_put (cs := #[.int .u8 a1_0, .int .u8 a1_1, .int .u32 a1_2, .int .u32 a1_3, .int .i64 a1_4, .int .u8 ((rd_T27 l0 x7_1).f3), .int .u32 ((rd_T27 l0 x7_1).f4)]) ?_ 5 _ rfl; (with_reducible repeat (first | refine blk_drewN ?_ _ | refine blk_drew ?_ | refine blk_alloc ?_ _)); refine blk_put (cs := #[.int .u8 a1_0, .int .u8 a1_1, .int .u32 a1_2, .int .u32 a1_3, .int .i64 ((rd_T27 l0 x7_1).f2), .int .u8 ((rd_T27 l0 x7_1).f3), .int .u32 ((rd_T27 l0 x7_1).f4)]) ?_ 4 _ rfl; (with_reducible repeat (first | refine blk_drewN ?_ _ | refine blk_drew ?_ | refine blk_alloc ?_ _)); refine blk_put (cs := #[.int .u8 a1_0, .int .u8 a1_1, .int .u32 a1_2, .int .u32 ((rd_T27 l0 x7_1).f1.f2), .int .i64 ((rd_T27 l0 x7_1).f2), .int .u8 ((rd_T27 l0 x7_1).f3), .int .u32 ((rd_T27 l0 x7_1).f4)]) ?_ 3 _ rfl; (with_reducible repeat (first | refine blk_drewN ?_ _ | refine blk_drew ?_ | refine blk_alloc ?_ _)); refine blk_put (cs := #[.int .u8 a1_0, .int .u8 a1_1, .int .u32 ((rd_T27 l0 x7_1).f1.f1), .int .u32 ((rd_T27 l0 x7_1).f1.f2), .int .i64 ((rd_T27 l0 x7_1).f2), .int .u8 ((rd_T27 l0 x7_1).f3), .int .u32 ((rd_T27 l0 x7_1).f4)]) ?_ 2 _ rfl; (with_reducible repeat (first | refine blk_drewN ?_ _ | refine blk_drew ?_ | refine blk_alloc ?_ _)); refine blk_put (cs := #[.int .u8 a1_0, .int .u8 ((rd_T27 l0 x7_1).f1.f0), .int .u32 ((rd_T27 l0 x7_1).f1.f1), .int .u32 ((rd_T27 l0 x7_1).f1.f2), .int .i64 ((rd_T27 l0 x7_1).f2), .int .u8 ((rd_T27 l0 x7_1).f3), .int .u32 ((rd_T27 l0 x7_1).f4)]) ?_ 1 _ rfl; (with_reducible repeat (first | refine blk_drewN ?_ _ | refine blk_drew ?_ | refine blk_alloc ?_ _)); refine blk_put (cs := #[.int .u8 ((rd_T27 l0 x7_1).f0), .int .u8 ((rd_T27 l0 x7_1).f1.f0), .int .u32 ((rd_T27 l0 x7_1).f1.f1), .int .u32 ((rd_T27 l0 x7_1).f1.f2), .int .i64 ((rd_T27 l0 x7_1).f2), .int .u8 ((rd_T27 l0 x7_1).f3), .int .u32 ((rd_T27 l0 x7_1).f4)]) ?_ 0 _ rfl; (with_reducible repeat (first | refine blk_drewN ?_ _ | refine blk_drew ?_ | refine blk_alloc ?_ _)); exact BK185.out) k_ hk⟩)); (case aO => exact (by (with_reducible repeat (first | apply Kd.R_alloc | apply Kd.R_drewN | apply Kd.R_drew)); exact Kd.R_mono (Kd.R_far (p := ⟨gb185, 6, none⟩) (Kd.R_far (p := ⟨gb185, 5, none⟩) (Kd.R_far (p := ⟨gb185, 4, none⟩) (Kd.R_far (p := ⟨gb185, 3, none⟩) (Kd.R_far (p := ⟨gb185, 2, none⟩) (Kd.R_far (p := ⟨gb185, 1, none⟩) (Kd.R_far (p := ⟨gb185, 0, none⟩) (Kd.R_mono HO_5.out (fun k_ hk => (⟨hk, hk.2⟩ : _ ∧ k_ ≠ gb185))) (fun _ hk => hk.2) (.int .u8 a1_0)) (fun _ hk => hk.2) (.int .u8 a1_1)) (fun _ hk => hk.2) (.int .u32 a1_2)) (fun _ hk => hk.2) (.int .u32 a1_3)) (fun _ hk => hk.2) (.int .i64 a1_4)) (fun _ hk => hk.2) (.int .u8 a1_5)) (fun _ hk => hk.2) (.int .u32 a1_6)) (fun _ hk => ⟨hk.1.1, hk.1.2⟩))); (case aS => exact (below_size (by repeat (first | (with_reducible first | exact HB.out | apply below_alloc | apply pw_below_drewN | apply below_drew1 | refine below_set ?_ GE180.out | refine below_set ?_ GE185.out) | exact HB.out)))); (case aL => have := LMc26.out; omega); intro v191 w33 ho hb hg hat; rw [← Ny190.out] at ho; have n0_ := Aside0.mk (blk_grown (g := gb180) (o := .cells #[.int .u8 a1_0, .int .u8 a1_1, .int .u32 a1_2, .int .u32 a1_3, .int .i64 a1_4, .int .u8 a1_5, .int .u32 a1_6] 27 (0, 0)) (by (with_reducible repeat (first | refine blk_drewN ?_ _ | refine blk_drew ?_ | refine blk_alloc ?_ _)); refine blk_far ?_ NB180_185.out _; (with_reducible repeat (first | refine blk_drewN ?_ _ | refine blk_drew ?_ | refine blk_alloc ?_ _)); refine blk_far ?_ NB180_185.out _; (with_reducible repeat (first | refine blk_drewN ?_ _ | refine blk_drew ?_ | refine blk_alloc ?_ _)); refine blk_far ?_ NB180_185.out _; (with_reducible repeat (first | refine blk_drewN ?_ _ | refine blk_drew ?_ | refine blk_alloc ?_ _)); refine blk_far ?_ NB180_185.out _; (with_reducible repeat (first | refine blk_drewN ?_ _ | refine blk_drew ?_ | refine blk_alloc ?_ _)); refine blk_far ?_ NB180_185.out _; (with_reducible repeat (first | refine blk_drewN ?_ _ | refine blk_drew ?_ | refine blk_alloc ?_ _)); refine blk_far ?_ NB180_185.out _; (with_reducible repeat (first | refine blk_drewN ?_ _ | refine blk_drew ?_ | refine blk_alloc ?_ _)); refine blk_far ?_ NB180_185.out _; (with_reducible repeat (first | refine blk_drewN ?_ _ | refine blk_drew ?_ | refine blk_alloc ?_ _)); exact BK180.out) hg (Kd.R_away HO_5.out (fun _ hk => hk.1))); have n1_ := Aside0.mk (blk_grown (g := gb185) (o := .cells #[.int .u8 a1_0, .int .u8 a1_1, .int .u32 a1_2, .int .u32 a1_3, .int .i64 a1_4, .int .u8 a1_5, .int .u32 a1_6] 27 (0, 0)) (by (with_reducible repeat (first | refine blk_drewN ?_ _ | refine blk_drew ?_ | refine blk_alloc ?_ _)); refine blk_put (cs := #[.int .u8 a1_0, .int .u8 a1_1, .int .u32 a1_2, .int .u32 a1_3, .int .i64 a1_4, .int .u8 a1_5, .int .u32 ((rd_T27 l0 x7_1).f4)]) ?_ 6 _ rfl; (with_reducible repeat (first | refine blk_drewN ?_ _ | refine blk_drew ?_ | refine blk_alloc ?_ _)); refine blk_put (cs := #[.int .u8 a1_0, .int .u8 a1_1, .int .u32 a1_2, .int .u32 a1_3, .int .i64 a1_4, .int .u8 ((rd_T27 l0 x7_1).f3), .int .u32 ((rd_T27 l0 x7_1).f4)]) ?_ 5 _ rfl; (with_reducible repeat (first | refine blk_drewN ?_ _ | refine blk_drew ?_ | refine blk_alloc ?_ _)); refine blk_put (cs := #[.int .u8 a1_0, .int .u8 a1_1, .int .u32 a1_2, .int .u32 a1_3, .int .i64 ((rd_T27 l0 x7_1).f2), .int .u8 ((rd_T27 l0 x7_1).f3), .int .u32 ((rd_T27 l0 x7_1).f4)]) ?_ 4 _ rfl; (with_reducible repeat (first | refine blk_drewN ?_ _ | refine blk_drew ?_ | refine blk_alloc ?_ _)); refine blk_put (cs := #[.int .u8 a1_0, .int .u8 a1_1, .int .u32 a1_2, .int .u32 ((rd_T27 l0 x7_1).f1.f2), .int .i64 ((rd_T27 l0 x7_1).f2), .int .u8 ((rd_T27 l0 x7_1).f3), .int .u32 ((rd_T27 l0 x7_1).f4)]) ?_ 3 _ rfl; (with_reducible repeat (first | refine blk_drewN ?_ _ | refine blk_drew ?_ | refine blk_alloc ?_ _)); refine blk_put (cs := #[.int .u8 a1_0, .int .u8 a1_1, .int .u32 ((rd_T27 l0 x7_1).f1.f1), .int .u32 ((rd_T27 l0 x7_1).f1.f2), .int .i64 ((rd_T27 l0 x7_1).f2), .int .u8 ((rd_T27 l0 x7_1).f3), .int .u32 ((rd_T27 l0 x7_1).f4)]) ?_ 2 _ rfl; (with_reducible repeat (first | refine blk_drewN ?_ _ | refine blk_drew ?_ | refine blk_alloc ?_ _)); refine blk_put (cs := #[.int .u8 a1_0, .int .u8 ((rd_T27 l0 x7_1).f1.f0), .int .u32 ((rd_T27 l0 x7_1).f1.f1), .int .u32 ((rd_T27 l0 x7_1).f1.f2), .int .i64 ((rd_T27 l0 x7_1).f2), .int .u8 ((rd_T27 l0 x7_1).f3), .int .u32 ((rd_T27 l0 x7_1).f4)]) ?_ 1 _ rfl; (with_reducible repeat (first | refine blk_drewN ?_ _ | refine blk_drew ?_ | refine blk_alloc ?_ _)); refine blk_put (cs := #[.int .u8 ((rd_T27 l0 x7_1).f0), .int .u8 ((rd_T27 l0 x7_1).f1.f0), .int .u32 ((rd_T27 l0 x7_1).f1.f1), .int .u32 ((rd_T27 l0 x7_1).f1.f2), .int .i64 ((rd_T27 l0 x7_1).f2), .int .u8 ((rd_T27 l0 x7_1).f3), .int .u32 ((rd_T27 l0 x7_1).f4)]) ?_ 0 _ rfl; (with_reducible repeat (first | refine blk_drewN ?_ _ | refine blk_drew ?_ | refine blk_alloc ?_ _)); exact BK185.out) hg (Kd.R_away HO_5.out (fun _ hk => hk.2))); have n2_ := Aside0.mk (hb); have n3_ := Aside0.mk (ho); clear BK180; clear BK185; clear HB; clear HO_5; have BK180 := n0_; have BK185 := n1_; have HB := n2_; have HO192 := n3_; clear n0_ n1_ n2_ n3_; clear ho hb hg hat))
                        go_roundg kj16
                        case measure => have := HK1.out; have := HJ5.out; have := HJ16.out; omega
                        case rel => exact ⟨(y190), (true), (wrap64 (x7_1 + 1)), (by first | rfl | (simp; done) | (simp [*]; done)), (by first | rfl | (simp; done) | (simp [*]; done)), H', ⟨by have := HK1.out; have := HJ5.out; have := HJ16.out; omega⟩, ⟨by (with_reducible repeat (first | apply Kd.R_alloc | apply Kd.R_drewN | apply Kd.R_drew)); exact Kd.R_mono HO192.out (fun _ hk => hk.1)⟩, ⟨by (with_reducible repeat (first | refine blk_drewN ?_ _ | refine blk_drew ?_ | refine blk_alloc ?_ _)); exact BK180.out⟩, ⟨by repeat (first | (with_reducible first | exact HB.out | apply below_alloc | apply pw_below_drewN | apply below_drew1 | refine below_set ?_ GE180.out | refine below_set ?_ GE185.out) | exact HB.out)⟩⟩
                      · rw [if_neg c26] at H
                        exact absurd H (by simp)
                    · replace c25 := Bool.eq_false_iff.mpr c25
                      subst c25
                      have H1 : (if (((rd_T27 l0 x7_1).f1.f0) == a1_1 && (((rd_T27 l0 x7_1).f1.f1) == a1_2 && (((rd_T27 l0 x7_1).f1.f2) == a1_3))) = true then (if ((rd_T27 l0 x7_1).f2) = 2 then (if a1_4 = 2 then (if x5_16.length < 4398046511104 then (tidingsref02_Take.l0 kj16 l0 (x5_16 ++ [(⟨((rd_T27 l0 x7_1).f0), (⟨((rd_T27 l0 x7_1).f1.f0), ((rd_T27 l0 x7_1).f1.f1), ((rd_T27 l0 x7_1).f1.f2)⟩ : S25), ((rd_T27 l0 x7_1).f2), ((rd_T27 l0 x7_1).f3), ((rd_T27 l0 x7_1).f4)⟩ : S27)]) true (wrap64 (x7_1 + 1)) a1_0 a1_1 a1_2 a1_3 a1_4 a1_5 a1_6) else (none)) else (if x5_16.length < 4398046511104 then (tidingsref02_Take.l0 kj16 l0 (x5_16 ++ [(⟨a1_0, (⟨a1_1, a1_2, a1_3⟩ : S25), a1_4, a1_5, a1_6⟩ : S27)]) true (wrap64 (x7_1 + 1)) a1_0 a1_1 a1_2 a1_3 a1_4 a1_5 a1_6) else (none))) else (if x5_16.length < 4398046511104 then (tidingsref02_Take.l0 kj16 l0 (x5_16 ++ [(⟨((rd_T27 l0 x7_1).f0), (⟨((rd_T27 l0 x7_1).f1.f0), ((rd_T27 l0 x7_1).f1.f1), ((rd_T27 l0 x7_1).f1.f2)⟩ : S25), ((rd_T27 l0 x7_1).f2), ((rd_T27 l0 x7_1).f3), ((rd_T27 l0 x7_1).f4)⟩ : S27)]) true (wrap64 (x7_1 + 1)) a1_0 a1_1 a1_2 a1_3 a1_4 a1_5 a1_6) else (none))) else (if x5_16.length < 4398046511104 then (tidingsref02_Take.l0 kj16 l0 (x5_16 ++ [(⟨((rd_T27 l0 x7_1).f0), (⟨((rd_T27 l0 x7_1).f1.f0), ((rd_T27 l0 x7_1).f1.f1), ((rd_T27 l0 x7_1).f1.f2)⟩ : S25), ((rd_T27 l0 x7_1).f2), ((rd_T27 l0 x7_1).f3), ((rd_T27 l0 x7_1).f4)⟩ : S27)]) true (wrap64 (x7_1 + 1)) a1_0 a1_1 a1_2 a1_3 a1_4 a1_5 a1_6) else (none))) = some r := by rw [if_neg (show ¬ (false = true) by decide)] at H; exact H
                      clear H
                      have H := H1
                      clear H1
                      by_cases c34 : (((rd_T27 l0 x7_1).f1.f0) == a1_1 && (((rd_T27 l0 x7_1).f1.f1) == a1_2 && (((rd_T27 l0 x7_1).f1.f2) == a1_3))) = true
                      · rw [if_pos c34] at H
                        have c34b0 : (((rd_T27 l0 x7_1).f1.f0) == a1_1 && (((rd_T27 l0 x7_1).f1.f1) == a1_2 && (((rd_T27 l0 x7_1).f1.f2) == a1_3))) = true := c34
                        (try (have c34b1 : decide (((rd_T27 l0 x7_1).f1.f0) = a1_1 && (((rd_T27 l0 x7_1).f1.f1) == a1_2 && (((rd_T27 l0 x7_1).f1.f2) == a1_3))) = true := by simpa using c34))
                        (try (have c34b2 : (((rd_T27 l0 x7_1).f1.f0) == a1_1 && (((rd_T27 l0 x7_1).f1.f1) == a1_2 && (((rd_T27 l0 x7_1).f1.f2) == a1_3))) = true := by simpa using c34))
                        clear c34
                        by_cases c35 : ((rd_T27 l0 x7_1).f2) = 2
                        · rw [if_pos c35] at H
                          have c35b0 : (((rd_T27 l0 x7_1).f2) == 2) = true := beq_iff_eq.mpr c35
                          have c35b1 : (((rd_T27 l0 x7_1).f2) != 2) = false := bne_eq_false_iff_eq.mpr c35
                          clear c35
                          by_cases c36 : a1_4 = 2
                          · rw [if_pos c36] at H
                            have c36b0 : (a1_4 == 2) = true := beq_iff_eq.mpr c36
                            have c36b1 : (a1_4 != 2) = false := bne_eq_false_iff_eq.mpr c36
                            clear c36
                            by_cases c37 : x5_16.length < 4398046511104
                            · rw [if_pos c37] at H
                              have LMc37 := Aside0.mk c37
                              clear c37
                              obtain ⟨y193, hy193⟩ : ∃ y_ : List (S27), y_ = (x5_16 ++ [(⟨((rd_T27 l0 x7_1).f0), (⟨((rd_T27 l0 x7_1).f1.f0), ((rd_T27 l0 x7_1).f1.f1), ((rd_T27 l0 x7_1).f1.f2)⟩ : S25), ((rd_T27 l0 x7_1).f2), ((rd_T27 l0 x7_1).f3), ((rd_T27 l0 x7_1).f4)⟩ : S27)]) := ⟨_, rfl⟩
                              replace H : (tidingsref02_Take.l0 kj16 l0 y193 true (wrap64 (x7_1 + 1)) a1_0 a1_1 a1_2 a1_3 a1_4 a1_5 a1_6) = some r := by first | (rw [hy193]; with_reducible exact H) | (have H2_ := (Option.bind_some _ _).symm.trans H; rw [hy193]; with_reducible exact H2_) | (have H2_ := (Option.bind_some _ _).symm.trans H; with_reducible exact H2_) | with_reducible exact H | (rw [hy193]; exact H) | exact H
                              have Ny193 := Aside0.mk hy193
                              clear hy193
                              have H' := Aside0.mk H
                              clear H
                              have hnb38 := NB185_180.out
                              have hnc38 := NB180_185.out
                              have hcz39_0 : wc.cell? ⟨gb185, 0, none⟩ = some (.int .u8 ((rd_T27 l0 x7_1).f0)) := (blk_cell BK185.out 0).trans rfl
                              have hcz39_1 : wc.cell? ⟨gb185, 1, none⟩ = some (.int .u8 ((rd_T27 l0 x7_1).f1.f0)) := (blk_cell BK185.out 1).trans rfl
                              have hcz39_2 : wc.cell? ⟨gb185, 2, none⟩ = some (.int .u32 ((rd_T27 l0 x7_1).f1.f1)) := (blk_cell BK185.out 2).trans rfl
                              have hcz39_3 : wc.cell? ⟨gb185, 3, none⟩ = some (.int .u32 ((rd_T27 l0 x7_1).f1.f2)) := (blk_cell BK185.out 3).trans rfl
                              have hcz39_4 : wc.cell? ⟨gb185, 4, none⟩ = some (.int .i64 ((rd_T27 l0 x7_1).f2)) := (blk_cell BK185.out 4).trans rfl
                              have hcz39_5 : wc.cell? ⟨gb185, 5, none⟩ = some (.int .u8 ((rd_T27 l0 x7_1).f3)) := (blk_cell BK185.out 5).trans rfl
                              have hcz39_6 : wc.cell? ⟨gb185, 6, none⟩ = some (.int .u32 ((rd_T27 l0 x7_1).f4)) := (blk_cell BK185.out 6).trans rfl
                              have hfz39_0 := blk_frozen BK185.out 0
                              have hfz39_1 := blk_frozen BK185.out 1
                              have hfz39_2 := blk_frozen BK185.out 2
                              have hfz39_3 := blk_frozen BK185.out 3
                              have hfz39_4 := blk_frozen BK185.out 4
                              have hfz39_5 := blk_frozen BK185.out 5
                              have hfz39_6 := blk_frozen BK185.out 6
                              have hcz40_0 : wc.cell? ⟨gb180, 0, none⟩ = some (.int .u8 a1_0) := (blk_cell BK180.out 0).trans rfl
                              have hcz40_1 : wc.cell? ⟨gb180, 1, none⟩ = some (.int .u8 a1_1) := (blk_cell BK180.out 1).trans rfl
                              have hcz40_2 : wc.cell? ⟨gb180, 2, none⟩ = some (.int .u32 a1_2) := (blk_cell BK180.out 2).trans rfl
                              have hcz40_3 : wc.cell? ⟨gb180, 3, none⟩ = some (.int .u32 a1_3) := (blk_cell BK180.out 3).trans rfl
                              have hcz40_4 : wc.cell? ⟨gb180, 4, none⟩ = some (.int .i64 a1_4) := (blk_cell BK180.out 4).trans rfl
                              have hcz40_5 : wc.cell? ⟨gb180, 5, none⟩ = some (.int .u8 a1_5) := (blk_cell BK180.out 5).trans rfl
                              have hcz40_6 : wc.cell? ⟨gb180, 6, none⟩ = some (.int .u32 a1_6) := (blk_cell BK180.out 6).trans rfl
                              have hfz40_0 := blk_frozen BK180.out 0
                              have hfz40_1 := blk_frozen BK180.out 1
                              have hfz40_2 := blk_frozen BK180.out 2
                              have hfz40_3 := blk_frozen BK180.out 3
                              have hfz40_4 := blk_frozen BK180.out 4
                              have hfz40_5 := blk_frozen BK180.out 5
                              have hfz40_6 := blk_frozen BK180.out 6
                              go_wp2_with (first | ((with_reducible refine gate_callee (f := 38) rfl ?_); refine goesL_ (some 41) rfl rfl Tryd.func38 (by kernel_rfl) rfl #[.agg #[.int .u8 ((rd_T27 l0 x7_1).f1.f0), .int .u32 ((rd_T27 l0 x7_1).f1.f1), .int .u32 ((rd_T27 l0 x7_1).f1.f2)], .agg #[.int .u8 a1_1, .int .u32 a1_2, .int .u32 a1_3]] rfl (by (try simp only [List.map_toArray, List.map_cons, List.map_nil]); first | done | rfl | (simp only [List.length_drop, List.length_take]; rfl)) ?_; (with_reducible refine (tidingsref02_Less.calls ((rd_T27 l0 x7_1).f1.f0) ((rd_T27 l0 x7_1).f1.f1) ((rd_T27 l0 x7_1).f1.f2) a1_1 a1_2 a1_3 false _ A24.out).mono ?_); rintro e w41 ⟨rfl, hb⟩; refine ⟨_, rfl, ?_⟩; have n0_ := Aside0.mk (Kd.R_below (by (with_reducible repeat (first | apply Kd.R_alloc | apply Kd.R_drewN | apply Kd.R_drew)); exact HO_5.out) hb); have n1_ := Aside0.mk (blk_below (g := gb180) (o := .cells #[.int .u8 a1_0, .int .u8 a1_1, .int .u32 a1_2, .int .u32 a1_3, .int .i64 a1_4, .int .u8 a1_5, .int .u32 a1_6] 27 (0, 0)) (by (with_reducible repeat (first | refine blk_drewN ?_ _ | refine blk_drew ?_ | refine blk_alloc ?_ _)); exact BK180.out) hb); have n2_ := Aside0.mk (blk_below (g := gb185) (o := .cells #[.int .u8 ((rd_T27 l0 x7_1).f0), .int .u8 ((rd_T27 l0 x7_1).f1.f0), .int .u32 ((rd_T27 l0 x7_1).f1.f1), .int .u32 ((rd_T27 l0 x7_1).f1.f2), .int .i64 ((rd_T27 l0 x7_1).f2), .int .u8 ((rd_T27 l0 x7_1).f3), .int .u32 ((rd_T27 l0 x7_1).f4)] 27 (0, 0)) (by (with_reducible repeat (first | refine blk_drewN ?_ _ | refine blk_drew ?_ | refine blk_alloc ?_ _)); exact BK185.out) hb); have n3_ := Aside0.mk (below_step (by repeat (first | (with_reducible first | exact HB.out | apply below_alloc | apply pw_below_drewN | apply below_drew1 | refine below_set ?_ GE180.out | refine below_set ?_ GE185.out) | exact HB.out)) hb); clear HO_5; clear BK180; clear BK185; clear HB; have HO_5 := n0_; have BK180 := n1_; have BK185 := n2_; have HB := n3_; clear n0_ n1_ n2_ n3_; (try clear hb); (try clear hb2); (try clear hk); (try clear hi); have hcz42_0 : w41.cell? ⟨gb185, 0, none⟩ = some (.int .u8 ((rd_T27 l0 x7_1).f0)) := (blk_cell BK185.out 0).trans rfl; have hcz42_1 : w41.cell? ⟨gb185, 1, none⟩ = some (.int .u8 ((rd_T27 l0 x7_1).f1.f0)) := (blk_cell BK185.out 1).trans rfl; have hcz42_2 : w41.cell? ⟨gb185, 2, none⟩ = some (.int .u32 ((rd_T27 l0 x7_1).f1.f1)) := (blk_cell BK185.out 2).trans rfl; have hcz42_3 : w41.cell? ⟨gb185, 3, none⟩ = some (.int .u32 ((rd_T27 l0 x7_1).f1.f2)) := (blk_cell BK185.out 3).trans rfl; have hcz42_4 : w41.cell? ⟨gb185, 4, none⟩ = some (.int .i64 ((rd_T27 l0 x7_1).f2)) := (blk_cell BK185.out 4).trans rfl; have hcz42_5 : w41.cell? ⟨gb185, 5, none⟩ = some (.int .u8 ((rd_T27 l0 x7_1).f3)) := (blk_cell BK185.out 5).trans rfl; have hcz42_6 : w41.cell? ⟨gb185, 6, none⟩ = some (.int .u32 ((rd_T27 l0 x7_1).f4)) := (blk_cell BK185.out 6).trans rfl; have hfz42_0 := blk_frozen BK185.out 0; have hfz42_1 := blk_frozen BK185.out 1; have hfz42_2 := blk_frozen BK185.out 2; have hfz42_3 := blk_frozen BK185.out 3; have hfz42_4 := blk_frozen BK185.out 4; have hfz42_5 := blk_frozen BK185.out 5; have hfz42_6 := blk_frozen BK185.out 6; have hcz43_0 : w41.cell? ⟨gb180, 0, none⟩ = some (.int .u8 a1_0) := (blk_cell BK180.out 0).trans rfl; have hcz43_1 : w41.cell? ⟨gb180, 1, none⟩ = some (.int .u8 a1_1) := (blk_cell BK180.out 1).trans rfl; have hcz43_2 : w41.cell? ⟨gb180, 2, none⟩ = some (.int .u32 a1_2) := (blk_cell BK180.out 2).trans rfl; have hcz43_3 : w41.cell? ⟨gb180, 3, none⟩ = some (.int .u32 a1_3) := (blk_cell BK180.out 3).trans rfl; have hcz43_4 : w41.cell? ⟨gb180, 4, none⟩ = some (.int .i64 a1_4) := (blk_cell BK180.out 4).trans rfl; have hcz43_5 : w41.cell? ⟨gb180, 5, none⟩ = some (.int .u8 a1_5) := (blk_cell BK180.out 5).trans rfl; have hcz43_6 : w41.cell? ⟨gb180, 6, none⟩ = some (.int .u32 a1_6) := (blk_cell BK180.out 6).trans rfl; have hfz43_0 := blk_frozen BK180.out 0; have hfz43_1 := blk_frozen BK180.out 1; have hfz43_2 := blk_frozen BK180.out 2; have hfz43_3 := blk_frozen BK180.out 3; have hfz43_4 := blk_frozen BK180.out 4; have hfz43_5 := blk_frozen BK180.out 5; have hfz43_6 := blk_frozen BK180.out 6) | ((with_reducible refine gate_builtin (b := .append) (xs := #[.tmp 60, .tmp 62]) rfl ?_); at_builtin; refine Kd.R_append k27 (w0 := w) w.heap.size rfl (.tmp 60) (.tmp 62) 22 27 (.agg #[(.int .u8 0), (.int .u8 0), (.int .u32 0), (.int .u32 0), (.int .i64 0), (.int .u8 0), (.int .u32 0)]) 32 rfl Tryd.underlying22 info27 rfl (by decide) (by omega) u5 x5_16 (⟨((rd_T27 l0 x7_1).f0), (⟨((rd_T27 l0 x7_1).f1.f0), ((rd_T27 l0 x7_1).f1.f1), ((rd_T27 l0 x7_1).f1.f2)⟩ : S25), ((rd_T27 l0 x7_1).f2), ((rd_T27 l0 x7_1).f3), ((rd_T27 l0 x7_1).f4)⟩ : S27) [.int .u8 ((rd_T27 l0 x7_1).f0), .int .u8 ((rd_T27 l0 x7_1).f1.f0), .int .u32 ((rd_T27 l0 x7_1).f1.f1), .int .u32 ((rd_T27 l0 x7_1).f1.f2), .int .i64 ((rd_T27 l0 x7_1).f2), .int .u8 ((rd_T27 l0 x7_1).f3), .int .u32 ((rd_T27 l0 x7_1).f4)] (fun k_ => k_ ≠ gb180 ∧ k_ ≠ gb185) (fun _ => False) rfl rfl ?aP (fun _ hk => hk.elim) ?aF ?aO ?aB ?aS ?aL ?_; (case aP => exact k27_mkM _ _ _ (⟨((rd_T27 l0 x7_1).f0), (⟨((rd_T27 l0 x7_1).f1.f0), ((rd_T27 l0 x7_1).f1.f1), ((rd_T27 l0 x7_1).f1.f2)⟩ : S25), ((rd_T27 l0 x7_1).f2), ((rd_T27 l0 x7_1).f3), ((rd_T27 l0 x7_1).f4)⟩ : S27)); (case aB => exact (by repeat (first | (with_reducible first | exact HB.out | apply below_alloc | apply pw_below_drewN | apply below_drew1 | refine below_set ?_ GE180.out | refine below_set ?_ GE185.out) | exact HB.out))); (case aF => exact (fun k_ hk => ⟨Kd.freshB (g := gb180) (o := .cells #[.int .u8 a1_0, .int .u8 a1_1, .int .u32 a1_2, .int .u32 a1_3, .int .i64 a1_4, .int .u8 a1_5, .int .u32 a1_6] 27 (0, 0)) (by (with_reducible repeat (first | refine blk_drewN ?_ _ | refine blk_drew ?_ | refine blk_alloc ?_ _)); exact BK180.out) k_ hk, Kd.freshB (g := gb185) (o := .cells #[.int .u8 ((rd_T27 l0 x7_1).f0), .int .u8 ((rd_T27 l0 x7_1).f1.f0), .int .u32 ((rd_T27 l0 x7_1).f1.f1), .int .u32 ((rd_T27 l0 x7_1).f1.f2), .int .i64 ((rd_T27 l0 x7_1).f2), .int .u8 ((rd_T27 l0 x7_1).f3), .int .u32 ((rd_T27 l0 x7_1).f4)] 27 (0, 0)) (by (with_reducible repeat (first | refine blk_drewN ?_ _ | refine blk_drew ?_ | refine blk_alloc ?_ _)); exact BK185.out) k_ hk⟩)); (case aO => exact (by (with_reducible repeat (first | apply Kd.R_alloc | apply Kd.R_drewN | apply Kd.R_drew)); exact HO_5.out)); (case aS => exact (below_size (by repeat (first | (with_reducible first | exact HB.out | apply below_alloc | apply pw_below_drewN | apply below_drew1 | refine below_set ?_ GE180.out | refine below_set ?_ GE185.out) | exact HB.out)))); (case aL => have := LMc37.out; omega); intro v194 w44 ho hb hg hat; rw [← Ny193.out] at ho; have n0_ := Aside0.mk (blk_grown (g := gb180) (o := .cells #[.int .u8 a1_0, .int .u8 a1_1, .int .u32 a1_2, .int .u32 a1_3, .int .i64 a1_4, .int .u8 a1_5, .int .u32 a1_6] 27 (0, 0)) (by (with_reducible repeat (first | refine blk_drewN ?_ _ | refine blk_drew ?_ | refine blk_alloc ?_ _)); exact BK180.out) hg (Kd.R_away HO_5.out (fun _ hk => hk.1))); have n1_ := Aside0.mk (blk_grown (g := gb185) (o := .cells #[.int .u8 ((rd_T27 l0 x7_1).f0), .int .u8 ((rd_T27 l0 x7_1).f1.f0), .int .u32 ((rd_T27 l0 x7_1).f1.f1), .int .u32 ((rd_T27 l0 x7_1).f1.f2), .int .i64 ((rd_T27 l0 x7_1).f2), .int .u8 ((rd_T27 l0 x7_1).f3), .int .u32 ((rd_T27 l0 x7_1).f4)] 27 (0, 0)) (by (with_reducible repeat (first | refine blk_drewN ?_ _ | refine blk_drew ?_ | refine blk_alloc ?_ _)); exact BK185.out) hg (Kd.R_away HO_5.out (fun _ hk => hk.2))); have n2_ := Aside0.mk (hb); have n3_ := Aside0.mk (ho); clear BK180; clear BK185; clear HB; clear HO_5; have BK180 := n0_; have BK185 := n1_; have HB := n2_; have HO195 := n3_; clear n0_ n1_ n2_ n3_; clear ho hb hg hat))
                              go_roundg kj16
                              case measure => have := HK1.out; have := HJ5.out; have := HJ16.out; omega
                              case rel => exact ⟨(y193), (true), (wrap64 (x7_1 + 1)), (by first | rfl | (simp; done) | (simp [*]; done)), (by first | rfl | (simp; done) | (simp [*]; done)), H', ⟨by have := HK1.out; have := HJ5.out; have := HJ16.out; omega⟩, ⟨by (with_reducible repeat (first | apply Kd.R_alloc | apply Kd.R_drewN | apply Kd.R_drew)); exact Kd.R_mono HO195.out (fun _ hk => hk.1)⟩, ⟨by (with_reducible repeat (first | refine blk_drewN ?_ _ | refine blk_drew ?_ | refine blk_alloc ?_ _)); exact BK180.out⟩, ⟨by repeat (first | (with_reducible first | exact HB.out | apply below_alloc | apply pw_below_drewN | apply below_drew1 | refine below_set ?_ GE180.out | refine below_set ?_ GE185.out) | exact HB.out)⟩⟩
                            · rw [if_neg c37] at H
                              exact absurd H (by simp)
                          · rw [if_neg c36] at H
                            have c36b0 : (a1_4 == 2) = false := beq_eq_false_iff_ne.mpr c36
                            have c36b1 : (a1_4 != 2) = true := bne_iff_ne.mpr c36
                            by_cases c45 : x5_16.length < 4398046511104
                            · rw [if_pos c45] at H
                              have LMc45 := Aside0.mk c45
                              clear c45
                              obtain ⟨y196, hy196⟩ : ∃ y_ : List (S27), y_ = (x5_16 ++ [(⟨a1_0, (⟨a1_1, a1_2, a1_3⟩ : S25), a1_4, a1_5, a1_6⟩ : S27)]) := ⟨_, rfl⟩
                              replace H : (tidingsref02_Take.l0 kj16 l0 y196 true (wrap64 (x7_1 + 1)) a1_0 a1_1 a1_2 a1_3 a1_4 a1_5 a1_6) = some r := by first | (rw [hy196]; with_reducible exact H) | (have H2_ := (Option.bind_some _ _).symm.trans H; rw [hy196]; with_reducible exact H2_) | (have H2_ := (Option.bind_some _ _).symm.trans H; with_reducible exact H2_) | with_reducible exact H | (rw [hy196]; exact H) | exact H
                              have Ny196 := Aside0.mk hy196
                              clear hy196
                              have H' := Aside0.mk H
                              clear H
                              have hnb46 := NB185_180.out
                              have hnc46 := NB180_185.out
                              have hcz47_0 : wc.cell? ⟨gb185, 0, none⟩ = some (.int .u8 ((rd_T27 l0 x7_1).f0)) := (blk_cell BK185.out 0).trans rfl
                              have hcz47_1 : wc.cell? ⟨gb185, 1, none⟩ = some (.int .u8 ((rd_T27 l0 x7_1).f1.f0)) := (blk_cell BK185.out 1).trans rfl
                              have hcz47_2 : wc.cell? ⟨gb185, 2, none⟩ = some (.int .u32 ((rd_T27 l0 x7_1).f1.f1)) := (blk_cell BK185.out 2).trans rfl
                              have hcz47_3 : wc.cell? ⟨gb185, 3, none⟩ = some (.int .u32 ((rd_T27 l0 x7_1).f1.f2)) := (blk_cell BK185.out 3).trans rfl
                              have hcz47_4 : wc.cell? ⟨gb185, 4, none⟩ = some (.int .i64 ((rd_T27 l0 x7_1).f2)) := (blk_cell BK185.out 4).trans rfl
                              have hcz47_5 : wc.cell? ⟨gb185, 5, none⟩ = some (.int .u8 ((rd_T27 l0 x7_1).f3)) := (blk_cell BK185.out 5).trans rfl
                              have hcz47_6 : wc.cell? ⟨gb185, 6, none⟩ = some (.int .u32 ((rd_T27 l0 x7_1).f4)) := (blk_cell BK185.out 6).trans rfl
                              have hfz47_0 := blk_frozen BK185.out 0
                              have hfz47_1 := blk_frozen BK185.out 1
                              have hfz47_2 := blk_frozen BK185.out 2
                              have hfz47_3 := blk_frozen BK185.out 3
                              have hfz47_4 := blk_frozen BK185.out 4
                              have hfz47_5 := blk_frozen BK185.out 5
                              have hfz47_6 := blk_frozen BK185.out 6
                              have hcz48_0 : wc.cell? ⟨gb180, 0, none⟩ = some (.int .u8 a1_0) := (blk_cell BK180.out 0).trans rfl
                              have hcz48_1 : wc.cell? ⟨gb180, 1, none⟩ = some (.int .u8 a1_1) := (blk_cell BK180.out 1).trans rfl
                              have hcz48_2 : wc.cell? ⟨gb180, 2, none⟩ = some (.int .u32 a1_2) := (blk_cell BK180.out 2).trans rfl
                              have hcz48_3 : wc.cell? ⟨gb180, 3, none⟩ = some (.int .u32 a1_3) := (blk_cell BK180.out 3).trans rfl
                              have hcz48_4 : wc.cell? ⟨gb180, 4, none⟩ = some (.int .i64 a1_4) := (blk_cell BK180.out 4).trans rfl
                              have hcz48_5 : wc.cell? ⟨gb180, 5, none⟩ = some (.int .u8 a1_5) := (blk_cell BK180.out 5).trans rfl
                              have hcz48_6 : wc.cell? ⟨gb180, 6, none⟩ = some (.int .u32 a1_6) := (blk_cell BK180.out 6).trans rfl
                              have hfz48_0 := blk_frozen BK180.out 0
                              have hfz48_1 := blk_frozen BK180.out 1
                              have hfz48_2 := blk_frozen BK180.out 2
                              have hfz48_3 := blk_frozen BK180.out 3
                              have hfz48_4 := blk_frozen BK180.out 4
                              have hfz48_5 := blk_frozen BK180.out 5
                              have hfz48_6 := blk_frozen BK180.out 6
                              go_wp2_with (first | ((with_reducible refine gate_callee (f := 38) rfl ?_); refine goesL_ (some 41) rfl rfl Tryd.func38 (by kernel_rfl) rfl #[.agg #[.int .u8 ((rd_T27 l0 x7_1).f1.f0), .int .u32 ((rd_T27 l0 x7_1).f1.f1), .int .u32 ((rd_T27 l0 x7_1).f1.f2)], .agg #[.int .u8 a1_1, .int .u32 a1_2, .int .u32 a1_3]] rfl (by (try simp only [List.map_toArray, List.map_cons, List.map_nil]); first | done | rfl | (simp only [List.length_drop, List.length_take]; rfl)) ?_; (with_reducible refine (tidingsref02_Less.calls ((rd_T27 l0 x7_1).f1.f0) ((rd_T27 l0 x7_1).f1.f1) ((rd_T27 l0 x7_1).f1.f2) a1_1 a1_2 a1_3 false _ A24.out).mono ?_); rintro e w49 ⟨rfl, hb⟩; refine ⟨_, rfl, ?_⟩; have n0_ := Aside0.mk (Kd.R_below (by (with_reducible repeat (first | apply Kd.R_alloc | apply Kd.R_drewN | apply Kd.R_drew)); exact HO_5.out) hb); have n1_ := Aside0.mk (blk_below (g := gb180) (o := .cells #[.int .u8 a1_0, .int .u8 a1_1, .int .u32 a1_2, .int .u32 a1_3, .int .i64 a1_4, .int .u8 a1_5, .int .u32 a1_6] 27 (0, 0)) (by (with_reducible repeat (first | refine blk_drewN ?_ _ | refine blk_drew ?_ | refine blk_alloc ?_ _)); exact BK180.out) hb); have n2_ := Aside0.mk (blk_below (g := gb185) (o := .cells #[.int .u8 ((rd_T27 l0 x7_1).f0), .int .u8 ((rd_T27 l0 x7_1).f1.f0), .int .u32 ((rd_T27 l0 x7_1).f1.f1), .int .u32 ((rd_T27 l0 x7_1).f1.f2), .int .i64 ((rd_T27 l0 x7_1).f2), .int .u8 ((rd_T27 l0 x7_1).f3), .int .u32 ((rd_T27 l0 x7_1).f4)] 27 (0, 0)) (by (with_reducible repeat (first | refine blk_drewN ?_ _ | refine blk_drew ?_ | refine blk_alloc ?_ _)); exact BK185.out) hb); have n3_ := Aside0.mk (below_step (by repeat (first | (with_reducible first | exact HB.out | apply below_alloc | apply pw_below_drewN | apply below_drew1 | refine below_set ?_ GE180.out | refine below_set ?_ GE185.out) | exact HB.out)) hb); clear HO_5; clear BK180; clear BK185; clear HB; have HO_5 := n0_; have BK180 := n1_; have BK185 := n2_; have HB := n3_; clear n0_ n1_ n2_ n3_; (try clear hb); (try clear hb2); (try clear hk); (try clear hi); have hcz50_0 : w49.cell? ⟨gb185, 0, none⟩ = some (.int .u8 ((rd_T27 l0 x7_1).f0)) := (blk_cell BK185.out 0).trans rfl; have hcz50_1 : w49.cell? ⟨gb185, 1, none⟩ = some (.int .u8 ((rd_T27 l0 x7_1).f1.f0)) := (blk_cell BK185.out 1).trans rfl; have hcz50_2 : w49.cell? ⟨gb185, 2, none⟩ = some (.int .u32 ((rd_T27 l0 x7_1).f1.f1)) := (blk_cell BK185.out 2).trans rfl; have hcz50_3 : w49.cell? ⟨gb185, 3, none⟩ = some (.int .u32 ((rd_T27 l0 x7_1).f1.f2)) := (blk_cell BK185.out 3).trans rfl; have hcz50_4 : w49.cell? ⟨gb185, 4, none⟩ = some (.int .i64 ((rd_T27 l0 x7_1).f2)) := (blk_cell BK185.out 4).trans rfl; have hcz50_5 : w49.cell? ⟨gb185, 5, none⟩ = some (.int .u8 ((rd_T27 l0 x7_1).f3)) := (blk_cell BK185.out 5).trans rfl; have hcz50_6 : w49.cell? ⟨gb185, 6, none⟩ = some (.int .u32 ((rd_T27 l0 x7_1).f4)) := (blk_cell BK185.out 6).trans rfl; have hfz50_0 := blk_frozen BK185.out 0; have hfz50_1 := blk_frozen BK185.out 1; have hfz50_2 := blk_frozen BK185.out 2; have hfz50_3 := blk_frozen BK185.out 3; have hfz50_4 := blk_frozen BK185.out 4; have hfz50_5 := blk_frozen BK185.out 5; have hfz50_6 := blk_frozen BK185.out 6; have hcz51_0 : w49.cell? ⟨gb180, 0, none⟩ = some (.int .u8 a1_0) := (blk_cell BK180.out 0).trans rfl; have hcz51_1 : w49.cell? ⟨gb180, 1, none⟩ = some (.int .u8 a1_1) := (blk_cell BK180.out 1).trans rfl; have hcz51_2 : w49.cell? ⟨gb180, 2, none⟩ = some (.int .u32 a1_2) := (blk_cell BK180.out 2).trans rfl; have hcz51_3 : w49.cell? ⟨gb180, 3, none⟩ = some (.int .u32 a1_3) := (blk_cell BK180.out 3).trans rfl; have hcz51_4 : w49.cell? ⟨gb180, 4, none⟩ = some (.int .i64 a1_4) := (blk_cell BK180.out 4).trans rfl; have hcz51_5 : w49.cell? ⟨gb180, 5, none⟩ = some (.int .u8 a1_5) := (blk_cell BK180.out 5).trans rfl; have hcz51_6 : w49.cell? ⟨gb180, 6, none⟩ = some (.int .u32 a1_6) := (blk_cell BK180.out 6).trans rfl; have hfz51_0 := blk_frozen BK180.out 0; have hfz51_1 := blk_frozen BK180.out 1; have hfz51_2 := blk_frozen BK180.out 2; have hfz51_3 := blk_frozen BK180.out 3; have hfz51_4 := blk_frozen BK180.out 4; have hfz51_5 := blk_frozen BK180.out 5; have hfz51_6 := blk_frozen BK180.out 6) | ((with_reducible refine gate_builtin (b := .append) (xs := #[.tmp 60, .tmp 62]) rfl ?_); at_builtin; refine Kd.R_append k27 (w0 := w) w.heap.size rfl (.tmp 60) (.tmp 62) 22 27 (.agg #[(.int .u8 0), (.int .u8 0), (.int .u32 0), (.int .u32 0), (.int .i64 0), (.int .u8 0), (.int .u32 0)]) 32 rfl Tryd.underlying22 info27 rfl (by decide) (by omega) u5 x5_16 (⟨a1_0, (⟨a1_1, a1_2, a1_3⟩ : S25), a1_4, a1_5, a1_6⟩ : S27) [.int .u8 a1_0, .int .u8 a1_1, .int .u32 a1_2, .int .u32 a1_3, .int .i64 a1_4, .int .u8 a1_5, .int .u32 a1_6] (fun k_ => k_ ≠ gb180 ∧ k_ ≠ gb185) (fun _ => False) rfl (by first | (go_simp; done) | (go_simp; rfl)) ?aP (fun _ hk => hk.elim) ?aF ?aO ?aB ?aS ?aL ?_; (case aP => exact k27_mkM _ _ _ (⟨a1_0, (⟨a1_1, a1_2, a1_3⟩ : S25), a1_4, a1_5, a1_6⟩ : S27)); (case aB => exact (by repeat (first | (with_reducible first | exact HB.out | apply below_alloc | apply pw_below_drewN | apply below_drew1 | refine below_set ?_ GE180.out | refine below_set ?_ GE185.out) | exact HB.out))); (case aF => exact (fun k_ hk => ⟨Kd.freshB (g := gb180) (o := .cells #[.int .u8 a1_0, .int .u8 a1_1, .int .u32 a1_2, .int .u32 a1_3, .int .i64 a1_4, .int .u8 a1_5, .int .u32 a1_6] 27 (0, 0)) (by (with_reducible repeat (first | refine blk_drewN ?_ _ | refine blk_drew ?_ | refine blk_alloc ?_ _)); refine blk_far ?_ NB180_185.out _; (with_reducible repeat (first | refine blk_drewN ?_ _ | refine blk_drew ?_ | refine blk_alloc ?_ _)); refine blk_far ?_ NB180_185.out _; (with_reducible repeat (first | refine blk_drewN ?_ _ | refine blk_drew ?_ | refine blk_alloc ?_ _)); refine blk_far ?_ NB180_185.out _; (with_reducible repeat (first | refine blk_drewN ?_ _ | refine blk_drew ?_ | refine blk_alloc ?_ _)); refine blk_far ?_ NB180_185.out _; (with_reducible repeat (first | refine blk_drewN ?_ _ | refine blk_drew ?_ | refine blk_alloc ?_ _)); refine blk_far ?_ NB180_185.out _; (with_reducible repeat (first | refine blk_drewN ?_ _ | refine blk_drew ?_ | refine blk_alloc ?_ _)); refine blk_far ?_ NB180_185.out _; (with_reducible repeat (first | refine blk_drewN ?_ _ | refine blk_drew ?_ | refine blk_alloc ?_ _)); refine blk_far ?_ NB180_185.out _; (with_reducible repeat (first | refine blk_drewN ?_ _ | refine blk_drew ?_ | refine blk_alloc ?_ _)); exact BK180.out) k_ hk, Kd.freshB (g := gb185) (o := .cells #[.int .u8 a1_0, .int .u8 a1_1, .int .u32 a1_2, .int .u32 a1_3, .int .i64 a1_4, .int .u8 a1_5, .int .u32 a1_6] 27 (0, 0)) (by (with_reducible repeat (first | refine blk_drewN ?_ _ | refine blk_drew ?_ | refine blk_alloc ?_ _)); refine blk_put (cs := #[.int .u8 a1_0, .int .u8 a1_1, .int .u32 a1_2, .int .u32 a1_3, .int .i64 a1_4, .int .u8 a1_5, .int .u32 ((rd_T27 l0 x7_1).f4)]) ?_ 6 _ rfl; (with_reducible repeat (first | refine blk_drewN ?_ _ | refine blk_drew ?_ | refine blk_alloc ?_ _)); refine blk_put (cs := #[.int .u8 a1_0, .int .u8 a1_1, .int .u32 a1_2, .int .u32 a1_3, .int .i64 a1_4, .int .u8 ((rd_T27 l0 x7_1).f3), .int .u32 ((rd_T27 l0 x7_1).f4)]) ?_ 5 _ rfl; (with_reducible repeat (first | refine blk_drewN ?_ _ | refine blk_drew ?_ | refine blk_alloc ?_ _)); refine blk_put (cs := #[.int .u8 a1_0, .int .u8 a1_1, .int .u32 a1_2, .int .u32 a1_3, .int .i64 ((rd_T27 l0 x7_1).f2), .int .u8 ((rd_T27 l0 x7_1).f3), .int .u32 ((rd_T27 l0 x7_1).f4)]) ?_ 4 _ rfl; (with_reducible repeat (first | refine blk_drewN ?_ _ | refine blk_drew ?_ | refine blk_alloc ?_ _)); refine blk_put (cs := #[.int .u8 a1_0, .int .u8 a1_1, .int .u32 a1_2, .int .u32 ((rd_T27 l0 x7_1).f1.f2), .int .i64 ((rd_T27 l0 x7_1).f2), .int .u8 ((rd_T27 l0 x7_1).f3), .int .u32 ((rd_T27 l0 x7_1).f4)]) ?_ 3 _ rfl; (with_reducible repeat (first | refine blk_drewN ?_ _ | refine blk_drew ?_ | refine blk_alloc ?_ _)); refine blk_put (cs := #[.int .u8 a1_0, .int .u8 a1_1, .int .u32 ((rd_T27 l0 x7_1).f1.f1), .int .u32 ((rd_T27 l0 x7_1).f1.f2), .int .i64 ((rd_T27 l0 x7_1).f2), .int .u8 ((rd_T27 l0 x7_1).f3), .int .u32 ((rd_T27 l0 x7_1).f4)]) ?_ 2 _ rfl; (with_reducible repeat (first | refine blk_drewN ?_ _ | refine blk_drew ?_ | refine blk_alloc ?_ _)); refine blk_put (cs := #[.int .u8 a1_0, .int .u8 ((rd_T27 l0 x7_1).f1.f0), .int .u32 ((rd_T27 l0 x7_1).f1.f1), .int .u32 ((rd_T27 l0 x7_1).f1.f2), .int .i64 ((rd_T27 l0 x7_1).f2), .int .u8 ((rd_T27 l0 x7_1).f3), .int .u32 ((rd_T27 l0 x7_1).f4)]) ?_ 1 _ rfl; (with_reducible repeat (first | refine blk_drewN ?_ _ | refine blk_drew ?_ | refine blk_alloc ?_ _)); refine blk_put (cs := #[.int .u8 ((rd_T27 l0 x7_1).f0), .int .u8 ((rd_T27 l0 x7_1).f1.f0), .int .u32 ((rd_T27 l0 x7_1).f1.f1), .int .u32 ((rd_T27 l0 x7_1).f1.f2), .int .i64 ((rd_T27 l0 x7_1).f2), .int .u8 ((rd_T27 l0 x7_1).f3), .int .u32 ((rd_T27 l0 x7_1).f4)]) ?_ 0 _ rfl; (with_reducible repeat (first | refine blk_drewN ?_ _ | refine blk_drew ?_ | refine blk_alloc ?_ _)); exact BK185.out) k_ hk⟩)); (case aO => exact (by (with_reducible repeat (first | apply Kd.R_alloc | apply Kd.R_drewN | apply Kd.R_drew)); exact Kd.R_mono (Kd.R_far (p := ⟨gb185, 6, none⟩) (Kd.R_far (p := ⟨gb185, 5, none⟩) (Kd.R_far (p := ⟨gb185, 4, none⟩) (Kd.R_far (p := ⟨gb185, 3, none⟩) (Kd.R_far (p := ⟨gb185, 2, none⟩) (Kd.R_far (p := ⟨gb185, 1, none⟩) (Kd.R_far (p := ⟨gb185, 0, none⟩) (Kd.R_mono HO_5.out (fun k_ hk => (⟨hk, hk.2⟩ : _ ∧ k_ ≠ gb185))) (fun _ hk => hk.2) (.int .u8 a1_0)) (fun _ hk => hk.2) (.int .u8 a1_1)) (fun _ hk => hk.2) (.int .u32 a1_2)) (fun _ hk => hk.2) (.int .u32 a1_3)) (fun _ hk => hk.2) (.int .i64 a1_4)) (fun _ hk => hk.2) (.int .u8 a1_5)) (fun _ hk => hk.2) (.int .u32 a1_6)) (fun _ hk => ⟨hk.1.1, hk.1.2⟩))); (case aS => exact (below_size (by repeat (first | (with_reducible first | exact HB.out | apply below_alloc | apply pw_below_drewN | apply below_drew1 | refine below_set ?_ GE180.out | refine below_set ?_ GE185.out) | exact HB.out)))); (case aL => have := LMc45.out; omega); intro v197 w52 ho hb hg hat; rw [← Ny196.out] at ho; have n0_ := Aside0.mk (blk_grown (g := gb180) (o := .cells #[.int .u8 a1_0, .int .u8 a1_1, .int .u32 a1_2, .int .u32 a1_3, .int .i64 a1_4, .int .u8 a1_5, .int .u32 a1_6] 27 (0, 0)) (by (with_reducible repeat (first | refine blk_drewN ?_ _ | refine blk_drew ?_ | refine blk_alloc ?_ _)); refine blk_far ?_ NB180_185.out _; (with_reducible repeat (first | refine blk_drewN ?_ _ | refine blk_drew ?_ | refine blk_alloc ?_ _)); refine blk_far ?_ NB180_185.out _; (with_reducible repeat (first | refine blk_drewN ?_ _ | refine blk_drew ?_ | refine blk_alloc ?_ _)); refine blk_far ?_ NB180_185.out _; (with_reducible repeat (first | refine blk_drewN ?_ _ | refine blk_drew ?_ | refine blk_alloc ?_ _)); refine blk_far ?_ NB180_185.out _; (with_reducible repeat (first | refine blk_drewN ?_ _ | refine blk_drew ?_ | refine blk_alloc ?_ _)); refine blk_far ?_ NB180_185.out _; (with_reducible repeat (first | refine blk_drewN ?_ _ | refine blk_drew ?_ | refine blk_alloc ?_ _)); refine blk_far ?_ NB180_185.out _; (with_reducible repeat (first | refine blk_drewN ?_ _ | refine blk_drew ?_ | refine blk_alloc ?_ _)); refine blk_far ?_ NB180_185.out _; (with_reducible repeat (first | refine blk_drewN ?_ _ | refine blk_drew ?_ | refine blk_alloc ?_ _)); exact BK180.out) hg (Kd.R_away HO_5.out (fun _ hk => hk.1))); have n1_ := Aside0.mk (blk_grown (g := gb185) (o := .cells #[.int .u8 a1_0, .int .u8 a1_1, .int .u32 a1_2, .int .u32 a1_3, .int .i64 a1_4, .int .u8 a1_5, .int .u32 a1_6] 27 (0, 0)) (by (with_reducible repeat (first | refine blk_drewN ?_ _ | refine blk_drew ?_ | refine blk_alloc ?_ _)); refine blk_put (cs := #[.int .u8 a1_0, .int .u8 a1_1, .int .u32 a1_2, .int .u32 a1_3, .int .i64 a1_4, .int .u8 a1_5, .int .u32 ((rd_T27 l0 x7_1).f4)]) ?_ 6 _ rfl; (with_reducible repeat (first | refine blk_drewN ?_ _ | refine blk_drew ?_ | refine blk_alloc ?_ _)); refine blk_put (cs := #[.int .u8 a1_0, .int .u8 a1_1, .int .u32 a1_2, .int .u32 a1_3, .int .i64 a1_4, .int .u8 ((rd_T27 l0 x7_1).f3), .int .u32 ((rd_T27 l0 x7_1).f4)]) ?_ 5 _ rfl; (with_reducible repeat (first | refine blk_drewN ?_ _ | refine blk_drew ?_ | refine blk_alloc ?_ _)); refine blk_put (cs := #[.int .u8 a1_0, .int .u8 a1_1, .int .u32 a1_2, .int .u32 a1_3, .int .i64 ((rd_T27 l0 x7_1).f2), .int .u8 ((rd_T27 l0 x7_1).f3), .int .u32 ((rd_T27 l0 x7_1).f4)]) ?_ 4 _ rfl; (with_reducible repeat (first | refine blk_drewN ?_ _ | refine blk_drew ?_ | refine blk_alloc ?_ _)); refine blk_put (cs := #[.int .u8 a1_0, .int .u8 a1_1, .int .u32 a1_2, .int .u32 ((rd_T27 l0 x7_1).f1.f2), .int .i64 ((rd_T27 l0 x7_1).f2), .int .u8 ((rd_T27 l0 x7_1).f3), .int .u32 ((rd_T27 l0 x7_1).f4)]) ?_ 3 _ rfl; (with_reducible repeat (first | refine blk_drewN ?_ _ | refine blk_drew ?_ | refine blk_alloc ?_ _)); refine blk_put (cs := #[.int .u8 a1_0, .int .u8 a1_1, .int .u32 ((rd_T27 l0 x7_1).f1.f1), .int .u32 ((rd_T27 l0 x7_1).f1.f2), .int .i64 ((rd_T27 l0 x7_1).f2), .int .u8 ((rd_T27 l0 x7_1).f3), .int .u32 ((rd_T27 l0 x7_1).f4)]) ?_ 2 _ rfl; (with_reducible repeat (first | refine blk_drewN ?_ _ | refine blk_drew ?_ | refine blk_alloc ?_ _)); refine blk_put (cs := #[.int .u8 a1_0, .int .u8 ((rd_T27 l0 x7_1).f1.f0), .int .u32 ((rd_T27 l0 x7_1).f1.f1), .int .u32 ((rd_T27 l0 x7_1).f1.f2), .int .i64 ((rd_T27 l0 x7_1).f2), .int .u8 ((rd_T27 l0 x7_1).f3), .int .u32 ((rd_T27 l0 x7_1).f4)]) ?_ 1 _ rfl; (with_reducible repeat (first | refine blk_drewN ?_ _ | refine blk_drew ?_ | refine blk_alloc ?_ _)); refine blk_put (cs := #[.int .u8 ((rd_T27 l0 x7_1).f0), .int .u8 ((rd_T27 l0 x7_1).f1.f0), .int .u32 ((rd_T27 l0 x7_1).f1.f1), .int .u32 ((rd_T27 l0 x7_1).f1.f2), .int .i64 ((rd_T27 l0 x7_1).f2), .int .u8 ((rd_T27 l0 x7_1).f3), .int .u32 ((rd_T27 l0 x7_1).f4)]) ?_ 0 _ rfl; (with_reducible repeat (first | refine blk_drewN ?_ _ | refine blk_drew ?_ | refine blk_alloc ?_ _)); exact BK185.out) hg (Kd.R_away HO_5.out (fun _ hk => hk.2))); have n2_ := Aside0.mk (hb); have n3_ := Aside0.mk (ho); clear BK180; clear BK185; clear HB; clear HO_5; have BK180 := n0_; have BK185 := n1_; have HB := n2_; have HO198 := n3_; clear n0_ n1_ n2_ n3_; clear ho hb hg hat))
                              go_roundg kj16
                              case measure => have := HK1.out; have := HJ5.out; have := HJ16.out; omega
                              case rel => exact ⟨(y196), (true), (wrap64 (x7_1 + 1)), (by first | rfl | (simp; done) | (simp [*]; done)), (by first | rfl | (simp; done) | (simp [*]; done)), H', ⟨by have := HK1.out; have := HJ5.out; have := HJ16.out; omega⟩, ⟨by (with_reducible repeat (first | apply Kd.R_alloc | apply Kd.R_drewN | apply Kd.R_drew)); exact Kd.R_mono HO198.out (fun _ hk => hk.1)⟩, ⟨by (with_reducible repeat (first | refine blk_drewN ?_ _ | refine blk_drew ?_ | refine blk_alloc ?_ _)); exact BK180.out⟩, ⟨by repeat (first | (with_reducible first | exact HB.out | apply below_alloc | apply pw_below_drewN | apply below_drew1 | refine below_set ?_ GE180.out | refine below_set ?_ GE185.out) | exact HB.out)⟩⟩
                            · rw [if_neg c45] at H
                              exact absurd H (by simp)
                        · rw [if_neg c35] at H
                          have c35b0 : (((rd_T27 l0 x7_1).f2) == 2) = false := beq_eq_false_iff_ne.mpr c35
                          have c35b1 : (((rd_T27 l0 x7_1).f2) != 2) = true := bne_iff_ne.mpr c35
                          by_cases c53 : x5_16.length < 4398046511104
                          · rw [if_pos c53] at H
                            have LMc53 := Aside0.mk c53
                            clear c53
                            obtain ⟨y199, hy199⟩ : ∃ y_ : List (S27), y_ = (x5_16 ++ [(⟨((rd_T27 l0 x7_1).f0), (⟨((rd_T27 l0 x7_1).f1.f0), ((rd_T27 l0 x7_1).f1.f1), ((rd_T27 l0 x7_1).f1.f2)⟩ : S25), ((rd_T27 l0 x7_1).f2), ((rd_T27 l0 x7_1).f3), ((rd_T27 l0 x7_1).f4)⟩ : S27)]) := ⟨_, rfl⟩
                            replace H : (tidingsref02_Take.l0 kj16 l0 y199 true (wrap64 (x7_1 + 1)) a1_0 a1_1 a1_2 a1_3 a1_4 a1_5 a1_6) = some r := by first | (rw [hy199]; with_reducible exact H) | (have H2_ := (Option.bind_some _ _).symm.trans H; rw [hy199]; with_reducible exact H2_) | (have H2_ := (Option.bind_some _ _).symm.trans H; with_reducible exact H2_) | with_reducible exact H | (rw [hy199]; exact H) | exact H
                            have Ny199 := Aside0.mk hy199
                            clear hy199
                            have H' := Aside0.mk H
                            clear H
                            have hnb54 := NB185_180.out
                            have hnc54 := NB180_185.out
                            have hcz55_0 : wc.cell? ⟨gb185, 0, none⟩ = some (.int .u8 ((rd_T27 l0 x7_1).f0)) := (blk_cell BK185.out 0).trans rfl
                            have hcz55_1 : wc.cell? ⟨gb185, 1, none⟩ = some (.int .u8 ((rd_T27 l0 x7_1).f1.f0)) := (blk_cell BK185.out 1).trans rfl
                            have hcz55_2 : wc.cell? ⟨gb185, 2, none⟩ = some (.int .u32 ((rd_T27 l0 x7_1).f1.f1)) := (blk_cell BK185.out 2).trans rfl
                            have hcz55_3 : wc.cell? ⟨gb185, 3, none⟩ = some (.int .u32 ((rd_T27 l0 x7_1).f1.f2)) := (blk_cell BK185.out 3).trans rfl
                            have hcz55_4 : wc.cell? ⟨gb185, 4, none⟩ = some (.int .i64 ((rd_T27 l0 x7_1).f2)) := (blk_cell BK185.out 4).trans rfl
                            have hcz55_5 : wc.cell? ⟨gb185, 5, none⟩ = some (.int .u8 ((rd_T27 l0 x7_1).f3)) := (blk_cell BK185.out 5).trans rfl
                            have hcz55_6 : wc.cell? ⟨gb185, 6, none⟩ = some (.int .u32 ((rd_T27 l0 x7_1).f4)) := (blk_cell BK185.out 6).trans rfl
                            have hfz55_0 := blk_frozen BK185.out 0
                            have hfz55_1 := blk_frozen BK185.out 1
                            have hfz55_2 := blk_frozen BK185.out 2
                            have hfz55_3 := blk_frozen BK185.out 3
                            have hfz55_4 := blk_frozen BK185.out 4
                            have hfz55_5 := blk_frozen BK185.out 5
                            have hfz55_6 := blk_frozen BK185.out 6
                            have hcz56_0 : wc.cell? ⟨gb180, 0, none⟩ = some (.int .u8 a1_0) := (blk_cell BK180.out 0).trans rfl
                            have hcz56_1 : wc.cell? ⟨gb180, 1, none⟩ = some (.int .u8 a1_1) := (blk_cell BK180.out 1).trans rfl
                            have hcz56_2 : wc.cell? ⟨gb180, 2, none⟩ = some (.int .u32 a1_2) := (blk_cell BK180.out 2).trans rfl
                            have hcz56_3 : wc.cell? ⟨gb180, 3, none⟩ = some (.int .u32 a1_3) := (blk_cell BK180.out 3).trans rfl
                            have hcz56_4 : wc.cell? ⟨gb180, 4, none⟩ = some (.int .i64 a1_4) := (blk_cell BK180.out 4).trans rfl
                            have hcz56_5 : wc.cell? ⟨gb180, 5, none⟩ = some (.int .u8 a1_5) := (blk_cell BK180.out 5).trans rfl
                            have hcz56_6 : wc.cell? ⟨gb180, 6, none⟩ = some (.int .u32 a1_6) := (blk_cell BK180.out 6).trans rfl
                            have hfz56_0 := blk_frozen BK180.out 0
                            have hfz56_1 := blk_frozen BK180.out 1
                            have hfz56_2 := blk_frozen BK180.out 2
                            have hfz56_3 := blk_frozen BK180.out 3
                            have hfz56_4 := blk_frozen BK180.out 4
                            have hfz56_5 := blk_frozen BK180.out 5
                            have hfz56_6 := blk_frozen BK180.out 6
                            go_wp2_with (first | ((with_reducible refine gate_callee (f := 38) rfl ?_); refine goesL_ (some 41) rfl rfl Tryd.func38 (by kernel_rfl) rfl #[.agg #[.int .u8 ((rd_T27 l0 x7_1).f1.f0), .int .u32 ((rd_T27 l0 x7_1).f1.f1), .int .u32 ((rd_T27 l0 x7_1).f1.f2)], .agg #[.int .u8 a1_1, .int .u32 a1_2, .int .u32 a1_3]] rfl (by (try simp only [List.map_toArray, List.map_cons, List.map_nil]); first | done | rfl | (simp only [List.length_drop, List.length_take]; rfl)) ?_; (with_reducible refine (tidingsref02_Less.calls ((rd_T27 l0 x7_1).f1.f0) ((rd_T27 l0 x7_1).f1.f1) ((rd_T27 l0 x7_1).f1.f2) a1_1 a1_2 a1_3 false _ A24.out).mono ?_); rintro e w57 ⟨rfl, hb⟩; refine ⟨_, rfl, ?_⟩; have n0_ := Aside0.mk (Kd.R_below (by (with_reducible repeat (first | apply Kd.R_alloc | apply Kd.R_drewN | apply Kd.R_drew)); exact HO_5.out) hb); have n1_ := Aside0.mk (blk_below (g := gb180) (o := .cells #[.int .u8 a1_0, .int .u8 a1_1, .int .u32 a1_2, .int .u32 a1_3, .int .i64 a1_4, .int .u8 a1_5, .int .u32 a1_6] 27 (0, 0)) (by (with_reducible repeat (first | refine blk_drewN ?_ _ | refine blk_drew ?_ | refine blk_alloc ?_ _)); exact BK180.out) hb); have n2_ := Aside0.mk (blk_below (g := gb185) (o := .cells #[.int .u8 ((rd_T27 l0 x7_1).f0), .int .u8 ((rd_T27 l0 x7_1).f1.f0), .int .u32 ((rd_T27 l0 x7_1).f1.f1), .int .u32 ((rd_T27 l0 x7_1).f1.f2), .int .i64 ((rd_T27 l0 x7_1).f2), .int .u8 ((rd_T27 l0 x7_1).f3), .int .u32 ((rd_T27 l0 x7_1).f4)] 27 (0, 0)) (by (with_reducible repeat (first | refine blk_drewN ?_ _ | refine blk_drew ?_ | refine blk_alloc ?_ _)); exact BK185.out) hb); have n3_ := Aside0.mk (below_step (by repeat (first | (with_reducible first | exact HB.out | apply below_alloc | apply pw_below_drewN | apply below_drew1 | refine below_set ?_ GE180.out | refine below_set ?_ GE185.out) | exact HB.out)) hb); clear HO_5; clear BK180; clear BK185; clear HB; have HO_5 := n0_; have BK180 := n1_; have BK185 := n2_; have HB := n3_; clear n0_ n1_ n2_ n3_; (try clear hb); (try clear hb2); (try clear hk); (try clear hi); have hcz58_0 : w57.cell? ⟨gb185, 0, none⟩ = some (.int .u8 ((rd_T27 l0 x7_1).f0)) := (blk_cell BK185.out 0).trans rfl; have hcz58_1 : w57.cell? ⟨gb185, 1, none⟩ = some (.int .u8 ((rd_T27 l0 x7_1).f1.f0)) := (blk_cell BK185.out 1).trans rfl; have hcz58_2 : w57.cell? ⟨gb185, 2, none⟩ = some (.int .u32 ((rd_T27 l0 x7_1).f1.f1)) := (blk_cell BK185.out 2).trans rfl; have hcz58_3 : w57.cell? ⟨gb185, 3, none⟩ = some (.int .u32 ((rd_T27 l0 x7_1).f1.f2)) := (blk_cell BK185.out 3).trans rfl; have hcz58_4 : w57.cell? ⟨gb185, 4, none⟩ = some (.int .i64 ((rd_T27 l0 x7_1).f2)) := (blk_cell BK185.out 4).trans rfl; have hcz58_5 : w57.cell? ⟨gb185, 5, none⟩ = some (.int .u8 ((rd_T27 l0 x7_1).f3)) := (blk_cell BK185.out 5).trans rfl; have hcz58_6 : w57.cell? ⟨gb185, 6, none⟩ = some (.int .u32 ((rd_T27 l0 x7_1).f4)) := (blk_cell BK185.out 6).trans rfl; have hfz58_0 := blk_frozen BK185.out 0; have hfz58_1 := blk_frozen BK185.out 1; have hfz58_2 := blk_frozen BK185.out 2; have hfz58_3 := blk_frozen BK185.out 3; have hfz58_4 := blk_frozen BK185.out 4; have hfz58_5 := blk_frozen BK185.out 5; have hfz58_6 := blk_frozen BK185.out 6; have hcz59_0 : w57.cell? ⟨gb180, 0, none⟩ = some (.int .u8 a1_0) := (blk_cell BK180.out 0).trans rfl; have hcz59_1 : w57.cell? ⟨gb180, 1, none⟩ = some (.int .u8 a1_1) := (blk_cell BK180.out 1).trans rfl; have hcz59_2 : w57.cell? ⟨gb180, 2, none⟩ = some (.int .u32 a1_2) := (blk_cell BK180.out 2).trans rfl; have hcz59_3 : w57.cell? ⟨gb180, 3, none⟩ = some (.int .u32 a1_3) := (blk_cell BK180.out 3).trans rfl; have hcz59_4 : w57.cell? ⟨gb180, 4, none⟩ = some (.int .i64 a1_4) := (blk_cell BK180.out 4).trans rfl; have hcz59_5 : w57.cell? ⟨gb180, 5, none⟩ = some (.int .u8 a1_5) := (blk_cell BK180.out 5).trans rfl; have hcz59_6 : w57.cell? ⟨gb180, 6, none⟩ = some (.int .u32 a1_6) := (blk_cell BK180.out 6).trans rfl; have hfz59_0 := blk_frozen BK180.out 0; have hfz59_1 := blk_frozen BK180.out 1; have hfz59_2 := blk_frozen BK180.out 2; have hfz59_3 := blk_frozen BK180.out 3; have hfz59_4 := blk_frozen BK180.out 4; have hfz59_5 := blk_frozen BK180.out 5; have hfz59_6 := blk_frozen BK180.out 6) | ((with_reducible refine gate_builtin (b := .append) (xs := #[.tmp 60, .tmp 62]) rfl ?_); at_builtin; refine Kd.R_append k27 (w0 := w) w.heap.size rfl (.tmp 60) (.tmp 62) 22 27 (.agg #[(.int .u8 0), (.int .u8 0), (.int .u32 0), (.int .u32 0), (.int .i64 0), (.int .u8 0), (.int .u32 0)]) 32 rfl Tryd.underlying22 info27 rfl (by decide) (by omega) u5 x5_16 (⟨((rd_T27 l0 x7_1).f0), (⟨((rd_T27 l0 x7_1).f1.f0), ((rd_T27 l0 x7_1).f1.f1), ((rd_T27 l0 x7_1).f1.f2)⟩ : S25), ((rd_T27 l0 x7_1).f2), ((rd_T27 l0 x7_1).f3), ((rd_T27 l0 x7_1).f4)⟩ : S27) [.int .u8 ((rd_T27 l0 x7_1).f0), .int .u8 ((rd_T27 l0 x7_1).f1.f0), .int .u32 ((rd_T27 l0 x7_1).f1.f1), .int .u32 ((rd_T27 l0 x7_1).f1.f2), .int .i64 ((rd_T27 l0 x7_1).f2), .int .u8 ((rd_T27 l0 x7_1).f3), .int .u32 ((rd_T27 l0 x7_1).f4)] (fun k_ => k_ ≠ gb180 ∧ k_ ≠ gb185) (fun _ => False) rfl rfl ?aP (fun _ hk => hk.elim) ?aF ?aO ?aB ?aS ?aL ?_; (case aP => exact k27_mkM _ _ _ (⟨((rd_T27 l0 x7_1).f0), (⟨((rd_T27 l0 x7_1).f1.f0), ((rd_T27 l0 x7_1).f1.f1), ((rd_T27 l0 x7_1).f1.f2)⟩ : S25), ((rd_T27 l0 x7_1).f2), ((rd_T27 l0 x7_1).f3), ((rd_T27 l0 x7_1).f4)⟩ : S27)); (case aB => exact (by repeat (first | (with_reducible first | exact HB.out | apply below_alloc | apply pw_below_drewN | apply below_drew1 | refine below_set ?_ GE180.out | refine below_set ?_ GE185.out) | exact HB.out))); (case aF => exact (fun k_ hk => ⟨Kd.freshB (g := gb180) (o := .cells #[.int .u8 a1_0, .int .u8 a1_1, .int .u32 a1_2, .int .u32 a1_3, .int .i64 a1_4, .int .u8 a1_5, .int .u32 a1_6] 27 (0, 0)) (by (with_reducible repeat (first | refine blk_drewN ?_ _ | refine blk_drew ?_ | refine blk_alloc ?_ _)); exact BK180.out) k_ hk, Kd.freshB (g := gb185) (o := .cells #[.int .u8 ((rd_T27 l0 x7_1).f0), .int .u8 ((rd_T27 l0 x7_1).f1.f0), .int .u32 ((rd_T27 l0 x7_1).f1.f1), .int .u32 ((rd_T27 l0 x7_1).f1.f2), .int .i64 ((rd_T27 l0 x7_1).f2), .int .u8 ((rd_T27 l0 x7_1).f3), .int .u32 ((rd_T27 l0 x7_1).f4)] 27 (0, 0)) (by (with_reducible repeat (first | refine blk_drewN ?_ _ | refine blk_drew ?_ | refine blk_alloc ?_ _)); exact BK185.out) k_ hk⟩)); (case aO => exact (by (with_reducible repeat (first | apply Kd.R_alloc | apply Kd.R_drewN | apply Kd.R_drew)); exact HO_5.out)); (case aS => exact (below_size (by repeat (first | (with_reducible first | exact HB.out | apply below_alloc | apply pw_below_drewN | apply below_drew1 | refine below_set ?_ GE180.out | refine below_set ?_ GE185.out) | exact HB.out)))); (case aL => have := LMc53.out; omega); intro v200 w60 ho hb hg hat; rw [← Ny199.out] at ho; have n0_ := Aside0.mk (blk_grown (g := gb180) (o := .cells #[.int .u8 a1_0, .int .u8 a1_1, .int .u32 a1_2, .int .u32 a1_3, .int .i64 a1_4, .int .u8 a1_5, .int .u32 a1_6] 27 (0, 0)) (by (with_reducible repeat (first | refine blk_drewN ?_ _ | refine blk_drew ?_ | refine blk_alloc ?_ _)); exact BK180.out) hg (Kd.R_away HO_5.out (fun _ hk => hk.1))); have n1_ := Aside0.mk (blk_grown (g := gb185) (o := .cells #[.int .u8 ((rd_T27 l0 x7_1).f0), .int .u8 ((rd_T27 l0 x7_1).f1.f0), .int .u32 ((rd_T27 l0 x7_1).f1.f1), .int .u32 ((rd_T27 l0 x7_1).f1.f2), .int .i64 ((rd_T27 l0 x7_1).f2), .int .u8 ((rd_T27 l0 x7_1).f3), .int .u32 ((rd_T27 l0 x7_1).f4)] 27 (0, 0)) (by (with_reducible repeat (first | refine blk_drewN ?_ _ | refine blk_drew ?_ | refine blk_alloc ?_ _)); exact BK185.out) hg (Kd.R_away HO_5.out (fun _ hk => hk.2))); have n2_ := Aside0.mk (hb); have n3_ := Aside0.mk (ho); clear BK180; clear BK185; clear HB; clear HO_5; have BK180 := n0_; have BK185 := n1_; have HB := n2_; have HO201 := n3_; clear n0_ n1_ n2_ n3_; clear ho hb hg hat))
                            go_roundg kj16
                            case measure => have := HK1.out; have := HJ5.out; have := HJ16.out; omega
                            case rel => exact ⟨(y199), (true), (wrap64 (x7_1 + 1)), (by first | rfl | (simp; done) | (simp [*]; done)), (by first | rfl | (simp; done) | (simp [*]; done)), H', ⟨by have := HK1.out; have := HJ5.out; have := HJ16.out; omega⟩, ⟨by (with_reducible repeat (first | apply Kd.R_alloc | apply Kd.R_drewN | apply Kd.R_drew)); exact Kd.R_mono HO201.out (fun _ hk => hk.1)⟩, ⟨by (with_reducible repeat (first | refine blk_drewN ?_ _ | refine blk_drew ?_ | refine blk_alloc ?_ _)); exact BK180.out⟩, ⟨by repeat (first | (with_reducible first | exact HB.out | apply below_alloc | apply pw_below_drewN | apply below_drew1 | refine below_set ?_ GE180.out | refine below_set ?_ GE185.out) | exact HB.out)⟩⟩
                          · rw [if_neg c53] at H
                            exact absurd H (by simp)
                      · rw [if_neg c34] at H
                        have c34b0 : (((rd_T27 l0 x7_1).f1.f0) == a1_1 && (((rd_T27 l0 x7_1).f1.f1) == a1_2 && (((rd_T27 l0 x7_1).f1.f2) == a1_3))) = false := by simpa using c34
                        (try (have c34b1 : decide (((rd_T27 l0 x7_1).f1.f0) = a1_1 && (((rd_T27 l0 x7_1).f1.f1) == a1_2 && (((rd_T27 l0 x7_1).f1.f2) == a1_3))) = false := by simpa using c34))
                        (try (have c34b2 : (((rd_T27 l0 x7_1).f1.f0) == a1_1 && (((rd_T27 l0 x7_1).f1.f1) == a1_2 && (((rd_T27 l0 x7_1).f1.f2) == a1_3))) = false := by simpa using c34))
                        (try (have c34b3 : ¬ (((rd_T27 l0 x7_1).f1.f0) = a1_1 && (((rd_T27 l0 x7_1).f1.f1) == a1_2 && (((rd_T27 l0 x7_1).f1.f2) == a1_3))) := by simpa using c34))
                        clear c34
                        by_cases c61 : x5_16.length < 4398046511104
                        · rw [if_pos c61] at H
                          have LMc61 := Aside0.mk c61
                          clear c61
                          obtain ⟨y202, hy202⟩ : ∃ y_ : List (S27), y_ = (x5_16 ++ [(⟨((rd_T27 l0 x7_1).f0), (⟨((rd_T27 l0 x7_1).f1.f0), ((rd_T27 l0 x7_1).f1.f1), ((rd_T27 l0 x7_1).f1.f2)⟩ : S25), ((rd_T27 l0 x7_1).f2), ((rd_T27 l0 x7_1).f3), ((rd_T27 l0 x7_1).f4)⟩ : S27)]) := ⟨_, rfl⟩
                          replace H : (tidingsref02_Take.l0 kj16 l0 y202 true (wrap64 (x7_1 + 1)) a1_0 a1_1 a1_2 a1_3 a1_4 a1_5 a1_6) = some r := by first | (rw [hy202]; with_reducible exact H) | (have H2_ := (Option.bind_some _ _).symm.trans H; rw [hy202]; with_reducible exact H2_) | (have H2_ := (Option.bind_some _ _).symm.trans H; with_reducible exact H2_) | with_reducible exact H | (rw [hy202]; exact H) | exact H
                          have Ny202 := Aside0.mk hy202
                          clear hy202
                          have H' := Aside0.mk H
                          clear H
                          have hnb62 := NB185_180.out
                          have hnc62 := NB180_185.out
                          have hcz63_0 : wc.cell? ⟨gb185, 0, none⟩ = some (.int .u8 ((rd_T27 l0 x7_1).f0)) := (blk_cell BK185.out 0).trans rfl
                          have hcz63_1 : wc.cell? ⟨gb185, 1, none⟩ = some (.int .u8 ((rd_T27 l0 x7_1).f1.f0)) := (blk_cell BK185.out 1).trans rfl
                          have hcz63_2 : wc.cell? ⟨gb185, 2, none⟩ = some (.int .u32 ((rd_T27 l0 x7_1).f1.f1)) := (blk_cell BK185.out 2).trans rfl
                          have hcz63_3 : wc.cell? ⟨gb185, 3, none⟩ = some (.int .u32 ((rd_T27 l0 x7_1).f1.f2)) := (blk_cell BK185.out 3).trans rfl
                          have hcz63_4 : wc.cell? ⟨gb185, 4, none⟩ = some (.int .i64 ((rd_T27 l0 x7_1).f2)) := (blk_cell BK185.out 4).trans rfl
                          have hcz63_5 : wc.cell? ⟨gb185, 5, none⟩ = some (.int .u8 ((rd_T27 l0 x7_1).f3)) := (blk_cell BK185.out 5).trans rfl
                          have hcz63_6 : wc.cell? ⟨gb185, 6, none⟩ = some (.int .u32 ((rd_T27 l0 x7_1).f4)) := (blk_cell BK185.out 6).trans rfl
                          have hfz63_0 := blk_frozen BK185.out 0
                          have hfz63_1 := blk_frozen BK185.out 1
                          have hfz63_2 := blk_frozen BK185.out 2
                          have hfz63_3 := blk_frozen BK185.out 3
                          have hfz63_4 := blk_frozen BK185.out 4
                          have hfz63_5 := blk_frozen BK185.out 5
                          have hfz63_6 := blk_frozen BK185.out 6
                          have hcz64_0 : wc.cell? ⟨gb180, 0, none⟩ = some (.int .u8 a1_0) := (blk_cell BK180.out 0).trans rfl
                          have hcz64_1 : wc.cell? ⟨gb180, 1, none⟩ = some (.int .u8 a1_1) := (blk_cell BK180.out 1).trans rfl
                          have hcz64_2 : wc.cell? ⟨gb180, 2, none⟩ = some (.int .u32 a1_2) := (blk_cell BK180.out 2).trans rfl
                          have hcz64_3 : wc.cell? ⟨gb180, 3, none⟩ = some (.int .u32 a1_3) := (blk_cell BK180.out 3).trans rfl
                          have hcz64_4 : wc.cell? ⟨gb180, 4, none⟩ = some (.int .i64 a1_4) := (blk_cell BK180.out 4).trans rfl
                          have hcz64_5 : wc.cell? ⟨gb180, 5, none⟩ = some (.int .u8 a1_5) := (blk_cell BK180.out 5).trans rfl
                          have hcz64_6 : wc.cell? ⟨gb180, 6, none⟩ = some (.int .u32 a1_6) := (blk_cell BK180.out 6).trans rfl
                          have hfz64_0 := blk_frozen BK180.out 0
                          have hfz64_1 := blk_frozen BK180.out 1
                          have hfz64_2 := blk_frozen BK180.out 2
                          have hfz64_3 := blk_frozen BK180.out 3
                          have hfz64_4 := blk_frozen BK180.out 4
                          have hfz64_5 := blk_frozen BK180.out 5
                          have hfz64_6 := blk_frozen BK180.out 6
                          go_wp2_with (first | ((with_reducible refine gate_callee (f := 38) rfl ?_); refine goesL_ (some 41) rfl rfl Tryd.func38 (by kernel_rfl) rfl #[.agg #[.int .u8 ((rd_T27 l0 x7_1).f1.f0), .int .u32 ((rd_T27 l0 x7_1).f1.f1), .int .u32 ((rd_T27 l0 x7_1).f1.f2)], .agg #[.int .u8 a1_1, .int .u32 a1_2, .int .u32 a1_3]] rfl (by (try simp only [List.map_toArray, List.map_cons, List.map_nil]); first | done | rfl | (simp only [List.length_drop, List.length_take]; rfl)) ?_; (with_reducible refine (tidingsref02_Less.calls ((rd_T27 l0 x7_1).f1.f0) ((rd_T27 l0 x7_1).f1.f1) ((rd_T27 l0 x7_1).f1.f2) a1_1 a1_2 a1_3 false _ A24.out).mono ?_); rintro e w65 ⟨rfl, hb⟩; refine ⟨_, rfl, ?_⟩; have n0_ := Aside0.mk (Kd.R_below (by (with_reducible repeat (first | apply Kd.R_alloc | apply Kd.R_drewN | apply Kd.R_drew)); exact HO_5.out) hb); have n1_ := Aside0.mk (blk_below (g := gb180) (o := .cells #[.int .u8 a1_0, .int .u8 a1_1, .int .u32 a1_2, .int .u32 a1_3, .int .i64 a1_4, .int .u8 a1_5, .int .u32 a1_6] 27 (0, 0)) (by (with_reducible repeat (first | refine blk_drewN ?_ _ | refine blk_drew ?_ | refine blk_alloc ?_ _)); exact BK180.out) hb); have n2_ := Aside0.mk (blk_below (g := gb185) (o := .cells #[.int .u8 ((rd_T27 l0 x7_1).f0), .int .u8 ((rd_T27 l0 x7_1).f1.f0), .int .u32 ((rd_T27 l0 x7_1).f1.f1), .int .u32 ((rd_T27 l0 x7_1).f1.f2), .int .i64 ((rd_T27 l0 x7_1).f2), .int .u8 ((rd_T27 l0 x7_1).f3), .int .u32 ((rd_T27 l0 x7_1).f4)] 27 (0, 0)) (by (with_reducible repeat (first | refine blk_drewN ?_ _ | refine blk_drew ?_ | refine blk_alloc ?_ _)); exact BK185.out) hb); have n3_ := Aside0.mk (below_step (by repeat (first | (with_reducible first | exact HB.out | apply below_alloc | apply pw_below_drewN | apply below_drew1 | refine below_set ?_ GE180.out | refine below_set ?_ GE185.out) | exact HB.out)) hb); clear HO_5; clear BK180; clear BK185; clear HB; have HO_5 := n0_; have BK180 := n1_; have BK185 := n2_; have HB := n3_; clear n0_ n1_ n2_ n3_; (try clear hb); (try clear hb2); (try clear hk); (try clear hi); have hcz66_0 : w65.cell? ⟨gb185, 0, none⟩ = some (.int .u8 ((rd_T27 l0 x7_1).f0)) := (blk_cell BK185.out 0).trans rfl; have hcz66_1 : w65.cell? ⟨gb185, 1, none⟩ = some (.int .u8 ((rd_T27 l0 x7_1).f1.f0)) := (blk_cell BK185.out 1).trans rfl; have hcz66_2 : w65.cell? ⟨gb185, 2, none⟩ = some (.int .u32 ((rd_T27 l0 x7_1).f1.f1)) := (blk_cell BK185.out 2).trans rfl; have hcz66_3 : w65.cell? ⟨gb185, 3, none⟩ = some (.int .u32 ((rd_T27 l0 x7_1).f1.f2)) := (blk_cell BK185.out 3).trans rfl; have hcz66_4 : w65.cell? ⟨gb185, 4, none⟩ = some (.int .i64 ((rd_T27 l0 x7_1).f2)) := (blk_cell BK185.out 4).trans rfl; have hcz66_5 : w65.cell? ⟨gb185, 5, none⟩ = some (.int .u8 ((rd_T27 l0 x7_1).f3)) := (blk_cell BK185.out 5).trans rfl; have hcz66_6 : w65.cell? ⟨gb185, 6, none⟩ = some (.int .u32 ((rd_T27 l0 x7_1).f4)) := (blk_cell BK185.out 6).trans rfl; have hfz66_0 := blk_frozen BK185.out 0; have hfz66_1 := blk_frozen BK185.out 1; have hfz66_2 := blk_frozen BK185.out 2; have hfz66_3 := blk_frozen BK185.out 3; have hfz66_4 := blk_frozen BK185.out 4; have hfz66_5 := blk_frozen BK185.out 5; have hfz66_6 := blk_frozen BK185.out 6; have hcz67_0 : w65.cell? ⟨gb180, 0, none⟩ = some (.int .u8 a1_0) := (blk_cell BK180.out 0).trans rfl; have hcz67_1 : w65.cell? ⟨gb180, 1, none⟩ = some (.int .u8 a1_1) := (blk_cell BK180.out 1).trans rfl; have hcz67_2 : w65.cell? ⟨gb180, 2, none⟩ = some (.int .u32 a1_2) := (blk_cell BK180.out 2).trans rfl; have hcz67_3 : w65.cell? ⟨gb180, 3, none⟩ = some (.int .u32 a1_3) := (blk_cell BK180.out 3).trans rfl; have hcz67_4 : w65.cell? ⟨gb180, 4, none⟩ = some (.int .i64 a1_4) := (blk_cell BK180.out 4).trans rfl; have hcz67_5 : w65.cell? ⟨gb180, 5, none⟩ = some (.int .u8 a1_5) := (blk_cell BK180.out 5).trans rfl; have hcz67_6 : w65.cell? ⟨gb180, 6, none⟩ = some (.int .u32 a1_6) := (blk_cell BK180.out 6).trans rfl; have hfz67_0 := blk_frozen BK180.out 0; have hfz67_1 := blk_frozen BK180.out 1; have hfz67_2 := blk_frozen BK180.out 2; have hfz67_3 := blk_frozen BK180.out 3; have hfz67_4 := blk_frozen BK180.out 4; have hfz67_5 := blk_frozen BK180.out 5; have hfz67_6 := blk_frozen BK180.out 6) | ((with_reducible refine gate_builtin (b := .append) (xs := #[.tmp 60, .tmp 62]) rfl ?_); at_builtin; refine Kd.R_append k27 (w0 := w) w.heap.size rfl (.tmp 60) (.tmp 62) 22 27 (.agg #[(.int .u8 0), (.int .u8 0), (.int .u32 0), (.int .u32 0), (.int .i64 0), (.int .u8 0), (.int .u32 0)]) 32 rfl Tryd.underlying22 info27 rfl (by decide) (by omega) u5 x5_16 (⟨((rd_T27 l0 x7_1).f0), (⟨((rd_T27 l0 x7_1).f1.f0), ((rd_T27 l0 x7_1).f1.f1), ((rd_T27 l0 x7_1).f1.f2)⟩ : S25), ((rd_T27 l0 x7_1).f2), ((rd_T27 l0 x7_1).f3), ((rd_T27 l0 x7_1).f4)⟩ : S27) [.int .u8 ((rd_T27 l0 x7_1).f0), .int .u8 ((rd_T27 l0 x7_1).f1.f0), .int .u32 ((rd_T27 l0 x7_1).f1.f1), .int .u32 ((rd_T27 l0 x7_1).f1.f2), .int .i64 ((rd_T27 l0 x7_1).f2), .int .u8 ((rd_T27 l0 x7_1).f3), .int .u32 ((rd_T27 l0 x7_1).f4)] (fun k_ => k_ ≠ gb180 ∧ k_ ≠ gb185) (fun _ => False) rfl rfl ?aP (fun _ hk => hk.elim) ?aF ?aO ?aB ?aS ?aL ?_; (case aP => exact k27_mkM _ _ _ (⟨((rd_T27 l0 x7_1).f0), (⟨((rd_T27 l0 x7_1).f1.f0), ((rd_T27 l0 x7_1).f1.f1), ((rd_T27 l0 x7_1).f1.f2)⟩ : S25), ((rd_T27 l0 x7_1).f2), ((rd_T27 l0 x7_1).f3), ((rd_T27 l0 x7_1).f4)⟩ : S27)); (case aB => exact (by repeat (first | (with_reducible first | exact HB.out | apply below_alloc | apply pw_below_drewN | apply below_drew1 | refine below_set ?_ GE180.out | refine below_set ?_ GE185.out) | exact HB.out))); (case aF => exact (fun k_ hk => ⟨Kd.freshB (g := gb180) (o := .cells #[.int .u8 a1_0, .int .u8 a1_1, .int .u32 a1_2, .int .u32 a1_3, .int .i64 a1_4, .int .u8 a1_5, .int .u32 a1_6] 27 (0, 0)) (by (with_reducible repeat (first | refine blk_drewN ?_ _ | refine blk_drew ?_ | refine blk_alloc ?_ _)); exact BK180.out) k_ hk, Kd.freshB (g := gb185) (o := .cells #[.int .u8 ((rd_T27 l0 x7_1).f0), .int .u8 ((rd_T27 l0 x7_1).f1.f0), .int .u32 ((rd_T27 l0 x7_1).f1.f1), .int .u32 ((rd_T27 l0 x7_1).f1.f2), .int .i64 ((rd_T27 l0 x7_1).f2), .int .u8 ((rd_T27 l0 x7_1).f3), .int .u32 ((rd_T27 l0 x7_1).f4)] 27 (0, 0)) (by (with_reducible repeat (first | refine blk_drewN ?_ _ | refine blk_drew ?_ | refine blk_alloc ?_ _)); exact BK185.out) k_ hk⟩)); (case aO => exact (by (with_reducible repeat (first | apply Kd.R_alloc | apply Kd.R_drewN | apply Kd.R_drew)); exact HO_5.out)); (case aS => exact (below_size (by repeat (first | (with_reducible first | exact HB.out | apply below_alloc | apply pw_below_drewN | apply below_drew1 | refine below_set ?_ GE180.out | refine below_set ?_ GE185.out) | exact HB.out)))); (case aL => have := LMc61.out; omega); intro v203 w68 ho hb hg hat; rw [← Ny202.out] at ho; have n0_ := Aside0.mk (blk_grown (g := gb180) (o := .cells #[.int .u8 a1_0, .int .u8 a1_1, .int .u32 a1_2, .int .u32 a1_3, .int .i64 a1_4, .int .u8 a1_5, .int .u32 a1_6] 27 (0, 0)) (by (with_reducible repeat (first | refine blk_drewN ?_ _ | refine blk_drew ?_ | refine blk_alloc ?_ _)); exact BK180.out) hg (Kd.R_away HO_5.out (fun _ hk => hk.1))); have n1_ := Aside0.mk (blk_grown (g := gb185) (o := .cells #[.int .u8 ((rd_T27 l0 x7_1).f0), .int .u8 ((rd_T27 l0 x7_1).f1.f0), .int .u32 ((rd_T27 l0 x7_1).f1.f1), .int .u32 ((rd_T27 l0 x7_1).f1.f2), .int .i64 ((rd_T27 l0 x7_1).f2), .int .u8 ((rd_T27 l0 x7_1).f3), .int .u32 ((rd_T27 l0 x7_1).f4)] 27 (0, 0)) (by (with_reducible repeat (first | refine blk_drewN ?_ _ | refine blk_drew ?_ | refine blk_alloc ?_ _)); exact BK185.out) hg (Kd.R_away HO_5.out (fun _ hk => hk.2))); have n2_ := Aside0.mk (hb); have n3_ := Aside0.mk (ho); clear BK180; clear BK185; clear HB; clear HO_5; have BK180 := n0_; have BK185 := n1_; have HB := n2_; have HO204 := n3_; clear n0_ n1_ n2_ n3_; clear ho hb hg hat))
                          go_roundg kj16
                          case measure => have := HK1.out; have := HJ5.out; have := HJ16.out; omega
                          case rel => exact ⟨(y202), (true), (wrap64 (x7_1 + 1)), (by first | rfl | (simp; done) | (simp [*]; done)), (by first | rfl | (simp; done) | (simp [*]; done)), H', ⟨by have := HK1.out; have := HJ5.out; have := HJ16.out; omega⟩, ⟨by (with_reducible repeat (first | apply Kd.R_alloc | apply Kd.R_drewN | apply Kd.R_drew)); exact Kd.R_mono HO204.out (fun _ hk => hk.1)⟩, ⟨by (with_reducible repeat (first | refine blk_drewN ?_ _ | refine blk_drew ?_ | refine blk_alloc ?_ _)); exact BK180.out⟩, ⟨by repeat (first | (with_reducible first | exact HB.out | apply below_alloc | apply pw_below_drewN | apply below_drew1 | refine below_set ?_ GE180.out | refine below_set ?_ GE185.out) | exact HB.out)⟩⟩
                        · rw [if_neg c61] at H
                          exact absurd H (by simp)
                  · rw [if_neg c23] at H
                    have c23b0 : (((rd_T27 l0 x7_1).f0) == a1_0) = false := beq_eq_false_iff_ne.mpr c23
                    have c23b1 : (((rd_T27 l0 x7_1).f0) != a1_0) = true := bne_iff_ne.mpr c23
                    by_cases c69 : x5_16.length < 4398046511104
                    · rw [if_pos c69] at H
                      have LMc69 := Aside0.mk c69
                      clear c69
                      obtain ⟨y205, hy205⟩ : ∃ y_ : List (S27), y_ = (x5_16 ++ [(⟨((rd_T27 l0 x7_1).f0), (⟨((rd_T27 l0 x7_1).f1.f0), ((rd_T27 l0 x7_1).f1.f1), ((rd_T27 l0 x7_1).f1.f2)⟩ : S25), ((rd_T27 l0 x7_1).f2), ((rd_T27 l0 x7_1).f3), ((rd_T27 l0 x7_1).f4)⟩ : S27)]) := ⟨_, rfl⟩
                      replace H : (tidingsref02_Take.l0 kj16 l0 y205 x6_16 (wrap64 (x7_1 + 1)) a1_0 a1_1 a1_2 a1_3 a1_4 a1_5 a1_6) = some r := by first | (rw [hy205]; with_reducible exact H) | (have H2_ := (Option.bind_some _ _).symm.trans H; rw [hy205]; with_reducible exact H2_) | (have H2_ := (Option.bind_some _ _).symm.trans H; with_reducible exact H2_) | with_reducible exact H | (rw [hy205]; exact H) | exact H
                      have Ny205 := Aside0.mk hy205
                      clear hy205
                      have H' := Aside0.mk H
                      clear H
                      have hnb70 := NB185_180.out
                      have hnc70 := NB180_185.out
                      have hcz71_0 : wc.cell? ⟨gb185, 0, none⟩ = some (.int .u8 ((rd_T27 l0 x7_1).f0)) := (blk_cell BK185.out 0).trans rfl
                      have hcz71_1 : wc.cell? ⟨gb185, 1, none⟩ = some (.int .u8 ((rd_T27 l0 x7_1).f1.f0)) := (blk_cell BK185.out 1).trans rfl
                      have hcz71_2 : wc.cell? ⟨gb185, 2, none⟩ = some (.int .u32 ((rd_T27 l0 x7_1).f1.f1)) := (blk_cell BK185.out 2).trans rfl
                      have hcz71_3 : wc.cell? ⟨gb185, 3, none⟩ = some (.int .u32 ((rd_T27 l0 x7_1).f1.f2)) := (blk_cell BK185.out 3).trans rfl
                      have hcz71_4 : wc.cell? ⟨gb185, 4, none⟩ = some (.int .i64 ((rd_T27 l0 x7_1).f2)) := (blk_cell BK185.out 4).trans rfl
                      have hcz71_5 : wc.cell? ⟨gb185, 5, none⟩ = some (.int .u8 ((rd_T27 l0 x7_1).f3)) := (blk_cell BK185.out 5).trans rfl
                      have hcz71_6 : wc.cell? ⟨gb185, 6, none⟩ = some (.int .u32 ((rd_T27 l0 x7_1).f4)) := (blk_cell BK185.out 6).trans rfl
                      have hfz71_0 := blk_frozen BK185.out 0
                      have hfz71_1 := blk_frozen BK185.out 1
                      have hfz71_2 := blk_frozen BK185.out 2
                      have hfz71_3 := blk_frozen BK185.out 3
                      have hfz71_4 := blk_frozen BK185.out 4
                      have hfz71_5 := blk_frozen BK185.out 5
                      have hfz71_6 := blk_frozen BK185.out 6
                      have hcz72_0 : wc.cell? ⟨gb180, 0, none⟩ = some (.int .u8 a1_0) := (blk_cell BK180.out 0).trans rfl
                      have hcz72_1 : wc.cell? ⟨gb180, 1, none⟩ = some (.int .u8 a1_1) := (blk_cell BK180.out 1).trans rfl
                      have hcz72_2 : wc.cell? ⟨gb180, 2, none⟩ = some (.int .u32 a1_2) := (blk_cell BK180.out 2).trans rfl
                      have hcz72_3 : wc.cell? ⟨gb180, 3, none⟩ = some (.int .u32 a1_3) := (blk_cell BK180.out 3).trans rfl
                      have hcz72_4 : wc.cell? ⟨gb180, 4, none⟩ = some (.int .i64 a1_4) := (blk_cell BK180.out 4).trans rfl
                      have hcz72_5 : wc.cell? ⟨gb180, 5, none⟩ = some (.int .u8 a1_5) := (blk_cell BK180.out 5).trans rfl
                      have hcz72_6 : wc.cell? ⟨gb180, 6, none⟩ = some (.int .u32 a1_6) := (blk_cell BK180.out 6).trans rfl
                      have hfz72_0 := blk_frozen BK180.out 0
                      have hfz72_1 := blk_frozen BK180.out 1
                      have hfz72_2 := blk_frozen BK180.out 2
                      have hfz72_3 := blk_frozen BK180.out 3
                      have hfz72_4 := blk_frozen BK180.out 4
                      have hfz72_5 := blk_frozen BK180.out 5
                      have hfz72_6 := blk_frozen BK180.out 6
                      go_wp2_with (first | ((with_reducible refine gate_builtin (b := .append) (xs := #[.tmp 60, .tmp 62]) rfl ?_); at_builtin; refine Kd.R_append k27 (w0 := w) w.heap.size rfl (.tmp 60) (.tmp 62) 22 27 (.agg #[(.int .u8 0), (.int .u8 0), (.int .u32 0), (.int .u32 0), (.int .i64 0), (.int .u8 0), (.int .u32 0)]) 32 rfl Tryd.underlying22 info27 rfl (by decide) (by omega) u5 x5_16 (⟨((rd_T27 l0 x7_1).f0), (⟨((rd_T27 l0 x7_1).f1.f0), ((rd_T27 l0 x7_1).f1.f1), ((rd_T27 l0 x7_1).f1.f2)⟩ : S25), ((rd_T27 l0 x7_1).f2), ((rd_T27 l0 x7_1).f3), ((rd_T27 l0 x7_1).f4)⟩ : S27) [.int .u8 ((rd_T27 l0 x7_1).f0), .int .u8 ((rd_T27 l0 x7_1).f1.f0), .int .u32 ((rd_T27 l0 x7_1).f1.f1), .int .u32 ((rd_T27 l0 x7_1).f1.f2), .int .i64 ((rd_T27 l0 x7_1).f2), .int .u8 ((rd_T27 l0 x7_1).f3), .int .u32 ((rd_T27 l0 x7_1).f4)] (fun k_ => k_ ≠ gb180 ∧ k_ ≠ gb185) (fun _ => False) rfl rfl ?aP (fun _ hk => hk.elim) ?aF ?aO ?aB ?aS ?aL ?_; (case aP => exact k27_mkM _ _ _ (⟨((rd_T27 l0 x7_1).f0), (⟨((rd_T27 l0 x7_1).f1.f0), ((rd_T27 l0 x7_1).f1.f1), ((rd_T27 l0 x7_1).f1.f2)⟩ : S25), ((rd_T27 l0 x7_1).f2), ((rd_T27 l0 x7_1).f3), ((rd_T27 l0 x7_1).f4)⟩ : S27)); (case aB => exact (by repeat (first | (with_reducible first | exact HB.out | apply below_alloc | apply pw_below_drewN | apply below_drew1 | refine below_set ?_ GE180.out | refine below_set ?_ GE185.out) | exact HB.out))); (case aF => exact (fun k_ hk => ⟨Kd.freshB (g := gb180) (o := .cells #[.int .u8 a1_0, .int .u8 a1_1, .int .u32 a1_2, .int .u32 a1_3, .int .i64 a1_4, .int .u8 a1_5, .int .u32 a1_6] 27 (0, 0)) (by (with_reducible repeat (first | refine blk_drewN ?_ _ | refine blk_drew ?_ | refine blk_alloc ?_ _)); exact BK180.out) k_ hk, Kd.freshB (g := gb185) (o := .cells #[.int .u8 ((rd_T27 l0 x7_1).f0), .int .u8 ((rd_T27 l0 x7_1).f1.f0), .int .u32 ((rd_T27 l0 x7_1).f1.f1), .int .u32 ((rd_T27 l0 x7_1).f1.f2), .int .i64 ((rd_T27 l0 x7_1).f2), .int .u8 ((rd_T27 l0 x7_1).f3), .int .u32 ((rd_T27 l0 x7_1).f4)] 27 (0, 0)) (by (with_reducible repeat (first | refine blk_drewN ?_ _ | refine blk_drew ?_ | refine blk_alloc ?_ _)); exact BK185.out) k_ hk⟩)); (case aO => exact (by (with_reducible repeat (first | apply Kd.R_alloc | apply Kd.R_drewN | apply Kd.R_drew)); exact HO_5.out)); (case aS => exact (below_size (by repeat (first | (with_reducible first | exact HB.out | apply below_alloc | apply pw_below_drewN | apply below_drew1 | refine below_set ?_ GE180.out | refine below_set ?_ GE185.out) | exact HB.out)))); (case aL => have := LMc69.out; omega); intro v206 w73 ho hb hg hat; rw [← Ny205.out] at ho; have n0_ := Aside0.mk (blk_grown (g := gb180) (o := .cells #[.int .u8 a1_0, .int .u8 a1_1, .int .u32 a1_2, .int .u32 a1_3, .int .i64 a1_4, .int .u8 a1_5, .int .u32 a1_6] 27 (0, 0)) (by (with_reducible repeat (first | refine blk_drewN ?_ _ | refine blk_drew ?_ | refine blk_alloc ?_ _)); exact BK180.out) hg (Kd.R_away HO_5.out (fun _ hk => hk.1))); have n1_ := Aside0.mk (blk_grown (g := gb185) (o := .cells #[.int .u8 ((rd_T27 l0 x7_1).f0), .int .u8 ((rd_T27 l0 x7_1).f1.f0), .int .u32 ((rd_T27 l0 x7_1).f1.f1), .int .u32 ((rd_T27 l0 x7_1).f1.f2), .int .i64 ((rd_T27 l0 x7_1).f2), .int .u8 ((rd_T27 l0 x7_1).f3), .int .u32 ((rd_T27 l0 x7_1).f4)] 27 (0, 0)) (by (with_reducible repeat (first | refine blk_drewN ?_ _ | refine blk_drew ?_ | refine blk_alloc ?_ _)); exact BK185.out) hg (Kd.R_away HO_5.out (fun _ hk => hk.2))); have n2_ := Aside0.mk (hb); have n3_ := Aside0.mk (ho); clear BK180; clear BK185; clear HB; clear HO_5; have BK180 := n0_; have BK185 := n1_; have HB := n2_; have HO207 := n3_; clear n0_ n1_ n2_ n3_; clear ho hb hg hat))
                      go_roundg kj16
                      case measure => have := HK1.out; have := HJ5.out; have := HJ16.out; omega
                      case rel => exact ⟨(y205), (x6_16), (wrap64 (x7_1 + 1)), (by first | rfl | (simp; done) | (simp [*]; done)), (by first | rfl | (simp; done) | (simp [*]; done)), H', ⟨by have := HK1.out; have := HJ5.out; have := HJ16.out; omega⟩, ⟨by (with_reducible repeat (first | apply Kd.R_alloc | apply Kd.R_drewN | apply Kd.R_drew)); exact Kd.R_mono HO207.out (fun _ hk => hk.1)⟩, ⟨by (with_reducible repeat (first | refine blk_drewN ?_ _ | refine blk_drew ?_ | refine blk_alloc ?_ _)); exact BK180.out⟩, ⟨by repeat (first | (with_reducible first | exact HB.out | apply below_alloc | apply pw_below_drewN | apply below_drew1 | refine below_set ?_ GE180.out | refine below_set ?_ GE185.out) | exact HB.out)⟩⟩
                    · rw [if_neg c69] at H
                      exact absurd H (by simp)
        · rw [if_neg c5] at H
          exact absurd H (by simp)
      · rw [if_neg c4] at H
        have c4b0 : decide (x7_1 < (l0.length : Int)) = false := decide_eq_false c4
        clear c4
        by_cases c74 : x6_1 = true
        · subst c74
          have H1 : (some x5_1) = some r := by rw [if_pos rfl] at H; exact H
          clear H
          have H := H1
          clear H1
          obtain rfl := Option.some.inj H
          go_wp2
          go_ret
          exact ⟨_, by first | rfl | (simp [errW_none, errW_some] <;> rfl) | (simp [*, errW_none, errW_some] <;> rfl), by (with_reducible repeat (first | apply Kd.R_alloc | apply Kd.R_drewN | apply Kd.R_drew)); exact Kd.R_mono HO_5.out (fun _ hk => trivial), by repeat (first | (with_reducible first | exact HB.out | apply below_alloc | apply pw_below_drewN | apply below_drew1 | refine below_set ?_ GE180.out) | exact HB.out)⟩
        · replace c74 := Bool.eq_false_iff.mpr c74
          subst c74
          have H1 : (if x5_1.length < 4398046511104 then (some (x5_1 ++ [(⟨a1_0, (⟨a1_1, a1_2, a1_3⟩ : S25), a1_4, a1_5, a1_6⟩ : S27)])) else (none)) = some r := by rw [if_neg (show ¬ (false = true) by decide)] at H; exact H
          clear H
          have H := H1
          clear H1
          by_cases c75 : x5_1.length < 4398046511104
          · rw [if_pos c75] at H
            have LMc75 := Aside0.mk c75
            clear c75
            obtain ⟨y181, hy181⟩ : ∃ y_ : List (S27), y_ = (x5_1 ++ [(⟨a1_0, (⟨a1_1, a1_2, a1_3⟩ : S25), a1_4, a1_5, a1_6⟩ : S27)]) := ⟨_, rfl⟩
            replace H : (some y181) = some r := by first | (rw [hy181]; with_reducible exact H) | (have H2_ := (Option.bind_some _ _).symm.trans H; rw [hy181]; with_reducible exact H2_) | (have H2_ := (Option.bind_some _ _).symm.trans H; with_reducible exact H2_) | with_reducible exact H | (rw [hy181]; exact H) | exact H
            have Ny181 := Aside0.mk hy181
            clear hy181
            obtain rfl := Option.some.inj H
            have hcz76_0 : wr.cell? ⟨gb180, 0, none⟩ = some (.int .u8 a1_0) := (blk_cell BK180.out 0).trans rfl
            have hcz76_1 : wr.cell? ⟨gb180, 1, none⟩ = some (.int .u8 a1_1) := (blk_cell BK180.out 1).trans rfl
            have hcz76_2 : wr.cell? ⟨gb180, 2, none⟩ = some (.int .u32 a1_2) := (blk_cell BK180.out 2).trans rfl
            have hcz76_3 : wr.cell? ⟨gb180, 3, none⟩ = some (.int .u32 a1_3) := (blk_cell BK180.out 3).trans rfl
            have hcz76_4 : wr.cell? ⟨gb180, 4, none⟩ = some (.int .i64 a1_4) := (blk_cell BK180.out 4).trans rfl
            have hcz76_5 : wr.cell? ⟨gb180, 5, none⟩ = some (.int .u8 a1_5) := (blk_cell BK180.out 5).trans rfl
            have hcz76_6 : wr.cell? ⟨gb180, 6, none⟩ = some (.int .u32 a1_6) := (blk_cell BK180.out 6).trans rfl
            have hfz76_0 := blk_frozen BK180.out 0
            have hfz76_1 := blk_frozen BK180.out 1
            have hfz76_2 := blk_frozen BK180.out 2
            have hfz76_3 := blk_frozen BK180.out 3
            have hfz76_4 := blk_frozen BK180.out 4
            have hfz76_5 := blk_frozen BK180.out 5
            have hfz76_6 := blk_frozen BK180.out 6
            go_wp2_with (first | ((with_reducible refine gate_builtin (b := .append) (xs := #[.tmp 66, .tmp 68]) rfl ?_); at_builtin; refine Kd.R_append k27 (w0 := w) w.heap.size rfl (.tmp 66) (.tmp 68) 22 27 (.agg #[(.int .u8 0), (.int .u8 0), (.int .u32 0), (.int .u32 0), (.int .i64 0), (.int .u8 0), (.int .u32 0)]) 32 rfl Tryd.underlying22 info27 rfl (by decide) (by omega) u5 x5_1 (⟨a1_0, (⟨a1_1, a1_2, a1_3⟩ : S25), a1_4, a1_5, a1_6⟩ : S27) [.int .u8 a1_0, .int .u8 a1_1, .int .u32 a1_2, .int .u32 a1_3, .int .i64 a1_4, .int .u8 a1_5, .int .u32 a1_6] (fun k_ => k_ ≠ gb180) (fun _ => False) rfl rfl ?aP (fun _ hk => hk.elim) ?aF ?aO ?aB ?aS ?aL ?_; (case aP => exact k27_mkM _ _ _ (⟨a1_0, (⟨a1_1, a1_2, a1_3⟩ : S25), a1_4, a1_5, a1_6⟩ : S27)); (case aB => exact (by repeat (first | (with_reducible first | exact HB.out | apply below_alloc | apply pw_below_drewN | apply below_drew1 | refine below_set ?_ GE180.out) | exact HB.out))); (case aF => exact (fun k_ hk => Kd.freshB (g := gb180) (o := .cells #[.int .u8 a1_0, .int .u8 a1_1, .int .u32 a1_2, .int .u32 a1_3, .int .i64 a1_4, .int .u8 a1_5, .int .u32 a1_6] 27 (0, 0)) (by (with_reducible repeat (first | refine blk_drewN ?_ _ | refine blk_drew ?_ | refine blk_alloc ?_ _)); exact BK180.out) k_ hk)); (case aO => exact (by (with_reducible repeat (first | apply Kd.R_alloc | apply Kd.R_drewN | apply Kd.R_drew)); exact HO_5.out)); (case aS => exact (below_size (by repeat (first | (with_reducible first | exact HB.out | apply below_alloc | apply pw_below_drewN | apply below_drew1 | refine below_set ?_ GE180.out) | exact HB.out)))); (case aL => have := LMc75.out; omega); intro v182 w77 ho hb hg hat; rw [← Ny181.out] at ho; have n0_ := Aside0.mk (blk_grown (g := gb180) (o := .cells #[.int .u8 a1_0, .int .u8 a1_1, .int .u32 a1_2, .int .u32 a1_3, .int .i64 a1_4, .int .u8 a1_5, .int .u32 a1_6] 27 (0, 0)) (by (with_reducible repeat (first | refine blk_drewN ?_ _ | refine blk_drew ?_ | refine blk_alloc ?_ _)); exact BK180.out) hg (Kd.R_away HO_5.out (fun _ hk => hk))); have n1_ := Aside0.mk (hb); have n2_ := Aside0.mk (ho); clear BK180; clear HB; clear HO_5; have BK180 := n0_; have HB := n1_; have HO183 := n2_; clear n0_ n1_ n2_; clear ho hb hg hat))
            go_ret
            exact ⟨_, by first | rfl | (simp [errW_none, errW_some] <;> rfl) | (simp [*, errW_none, errW_some] <;> rfl), by (with_reducible repeat (first | apply Kd.R_alloc | apply Kd.R_drewN | apply Kd.R_drew)); exact Kd.R_mono HO183.out (fun _ hk => trivial), by repeat (first | (with_reducible first | exact HB.out | apply below_alloc | apply pw_below_drewN | apply below_drew1 | refine below_set ?_ GE180.out) | exact HB.out)⟩
          · rw [if_neg c75] at H
            exact absurd H (by simp)
end Go.Proofs.YtiminjibcafkaaaDoor.X
