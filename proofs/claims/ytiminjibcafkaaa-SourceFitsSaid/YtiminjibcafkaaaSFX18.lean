-- MADE BY wip/prx.py (the kit's printer, with contracts proved by hand). Not trusted: Lean checks it.
import Derived.Test.YtiminjibcafkaaaSFX0
import Derived.Test.YtiminjibcafkaaaSFX5
import Derived.Test.YtiminjibcafkaaaSFX13
namespace Go.Proofs.Ytiminjibcafkaaa.X
open Go.RowKit Go.Proofs.YtiminjibcafkaaaW.PrintWords Go.Proofs.YtiminjibcafkaaaW.PrintLast Go.Proofs.YtiminjibcafkaaaW.PrintMore
attribute [local go_sem] max2_int min2_int max_two min_two max_three min_three max_four min_four   -- for this text's walks alone
set_option linter.unusedVariables false
set_option linter.unusedSimpArgs false
/-! ### note_batch: function 53 -/
mutual
def note_batch.j0 : Nat → Int → Int → Int → Int → Int → Int → Int → List (S78) → Int → List (S27) → Int → Bool → List (S78) → Option (Bool)
  | 0, _, _, _, _, _, _, _, _, _, _, _, _, _ => none
  | k + 1, x3, x356000, x356001, x356002, x356003, x356004, x356005, x356006, x356007, x356008, x356009, x356010, x356011 => if x356005 = 0 then (if (x356006.length : Int) > 0 then (note_batch.j1 k x3 true x356000 x356001 x356002 x356003 x356004 x356005 x356006 x356007 x356008 x356009 x356010 x356011) else ((item_Right.f k x356008).bind fun t357 => (if t357 = true then (if (x356008.length : Int) > 4 then (note_batch.j1 k x3 true x356000 x356001 x356002 x356003 x356004 x356005 x356006 x356007 x356008 x356009 x356010 x356011) else ((know_Right.f k x356011).bind fun t358 => (note_batch.j1 k x3 (!t358) x356000 x356001 x356002 x356003 x356004 x356005 x356006 x356007 x356008 x356009 x356010 x356011))) else (note_batch.j1 k x3 true x356000 x356001 x356002 x356003 x356004 x356005 x356006 x356007 x356008 x356009 x356010 x356011)))) else (note_batch.j1 k x3 true x356000 x356001 x356002 x356003 x356004 x356005 x356006 x356007 x356008 x356009 x356010 x356011)
def note_batch.j1 : Nat → Int → Bool → Int → Int → Int → Int → Int → Int → List (S78) → Int → List (S27) → Int → Bool → List (S78) → Option (Bool)
  | 0, _, _, _, _, _, _, _, _, _, _, _, _, _, _ => none
  | k + 1, x3, x20, x356000, x356001, x356002, x356003, x356004, x356005, x356006, x356007, x356008, x356009, x356010, x356011 => if x20 = true then (some false) else (if (x356008.length : Int) > 0 then (if 0 < (x356008.length : Int) then (if ((rd_T27 x356008 0).f0) < x356004 then (note_batch.j2 k true x356000 x356001 x356002 x356003 x356004 x356005 x356006 x356007 x356008 x356009 x356010 x356011) else (note_batch.j2 k (x356009 != x3) x356000 x356001 x356002 x356003 x356004 x356005 x356006 x356007 x356008 x356009 x356010 x356011)) else (none)) else (note_batch.j2 k (x356009 != x3) x356000 x356001 x356002 x356003 x356004 x356005 x356006 x356007 x356008 x356009 x356010 x356011))
def note_batch.j2 : Nat → Bool → Int → Int → Int → Int → Int → Int → List (S78) → Int → List (S27) → Int → Bool → List (S78) → Option (Bool)
  | 0, _, _, _, _, _, _, _, _, _, _, _, _, _ => none
  | k + 1, x48, x356000, x356001, x356002, x356003, x356004, x356005, x356006, x356007, x356008, x356009, x356010, x356011 => if x48 = true then (some false) else (if x356004 > 0 then (if (x356011.length : Int) > 0 then (some false) else (if x356010 = true then (some true) else (if (x356008.length : Int) = 4 then (some (decide (x356009 < 64))) else (some false)))) else (if x356010 = true then (some true) else (if (x356008.length : Int) = 4 then (some (decide (x356009 < 64))) else (some false))))
end
def note_batch.f (k : Nat) (a0_0 : Int) (a0_1 : Int) (a0_2 : Int) (a0_3 : Int) (a0_4 : Int) (a0_5 : Int) (l0_6 : List (S78)) (a0_7 : Int) (l0_8 : List (S27)) (a0_9 : Int) (a0_10 : Bool) (l0_11 : List (S78)) : Option (Bool) := if (l0_8.length : Int) > 0 then (if 0 ≤ (wrap64 ((l0_8.length : Int) - 1)) then (if (wrap64 ((l0_8.length : Int) - 1)) < (l0_8.length : Int) then (note_batch.j0 k ((((rd_T27 l0_8 (wrap64 ((l0_8.length : Int) - 1))).f0) + 1) % 256) a0_0 a0_1 a0_2 a0_3 a0_4 a0_5 l0_6 a0_7 l0_8 a0_9 a0_10 l0_11) else (none)) else (none)) else (note_batch.j0 k a0_4 a0_0 a0_1 a0_2 a0_3 a0_4 a0_5 l0_6 a0_7 l0_8 a0_9 a0_10 l0_11)
set_option maxHeartbeats 8000000 in
set_option maxRecDepth 100000 in
theorem note_batch.calls (k : Nat) (a0_0 : Int) (a0_1 : Int) (a0_2 : Int) (a0_3 : Int) (a0_4 : Int) (a0_5 : Int) (A0_6 : Option Addr) (c0_6 : Nat) (l0_6 : List (S78)) (a0_7 : Int) (A0_8 : Option Addr) (c0_8 : Nat) (l0_8 : List (S27)) (a0_9 : Int) (a0_10 : Bool) (A0_11 : Option Addr) (c0_11 : Nat) (l0_11 : List (S78)) (r : Bool) (w : World) (hr0_6 : Kd.C k78 w A0_6 l0_6.length l0_6) (hc0_6 : l0_6.length ≤ c0_6) (hr0_8 : Kd.C k27 w A0_8 l0_8.length l0_8) (hc0_8 : l0_8.length ≤ c0_8) (hr0_11 : Kd.C k78 w A0_11 l0_11.length l0_11) (hc0_11 : l0_11.length ≤ c0_11) (h : note_batch.f k a0_0 a0_1 a0_2 a0_3 a0_4 a0_5 l0_6 a0_7 l0_8 a0_9 a0_10 l0_11 = some r) :
    Calls Try.prog 53 #[.agg #[.int .i64 a0_0, .int .u8 a0_1, .int .u8 a0_2, .int .u32 a0_3, .int .u8 a0_4, .int .u8 a0_5, .slice A0_6 l0_6.length c0_6, .int .u32 a0_7, .slice A0_8 l0_8.length c0_8, .int .u8 a0_9, .bool a0_10, .slice A0_11 l0_11.length c0_11]] w fun e w' => e = .returned (.bool r) ∧ Below w.heap.size w w' := by
  have hu53 := Try.underlying53
  have HR0_6 := Aside0.mk hr0_6
  have HC0_6 := Aside0.mk hc0_6
  clear hr0_6 hc0_6
  have HR0_8 := Aside0.mk hr0_8
  have HC0_8 := Aside0.mk hc0_8
  clear hr0_8 hc0_8
  have HR0_11 := Aside0.mk hr0_11
  have HC0_11 := Aside0.mk hc0_11
  clear hr0_11 hc0_11
  have HB := Aside0.mk (Below.refl w.heap.size w)
  have H : (if (l0_8.length : Int) > 0 then (if 0 ≤ (wrap64 ((l0_8.length : Int) - 1)) then (if (wrap64 ((l0_8.length : Int) - 1)) < (l0_8.length : Int) then (note_batch.j0 k ((((rd_T27 l0_8 (wrap64 ((l0_8.length : Int) - 1))).f0) + 1) % 256) a0_0 a0_1 a0_2 a0_3 a0_4 a0_5 l0_6 a0_7 l0_8 a0_9 a0_10 l0_11) else (none)) else (none)) else (note_batch.j0 k a0_4 a0_0 a0_1 a0_2 a0_3 a0_4 a0_5 l0_6 a0_7 l0_8 a0_9 a0_10 l0_11)) = some r := h
  clear h
  have HC2 := Aside0.mk H
  clear H
  go_enter Try.func53, Try.ntmps53
  go_upto_if 11 with (first | ((with_reducible refine gate_dst (N := 1) rfl ?_); (try (refine gate_guard (by rfl) ?_; dsimp only)); refine box_event ?hg (N := 1) ?hd (cs := #[.int .i64 a0_0, .int .u8 a0_1, .int .u8 a0_2, .int .u32 a0_3, .int .u8 a0_4, .int .u8 a0_5, .slice A0_6 l0_6.length c0_6, .int .u32 a0_7, .slice A0_8 l0_8.length c0_8, .int .u8 a0_9, .bool a0_10, .slice A0_11 l0_11.length c0_11]) (t := 53) ?hr ?_; (case hd => rfl); (case hg => rfl); (case hr => first | (go_simp; done) | (go_simp; rfl)); intro gb355 hg w3 hbox hb; have n0_ := Aside0.mk (below_step (by repeat (first | (with_reducible first | exact HB.out | apply below_alloc | apply pw_below_drewN | apply below_drew1) | exact HB.out)) hb); have n1_ := Aside0.mk (hbox); have n2_ := Aside0.mk ((by rw [hg]; exact (below_size (by repeat (first | (with_reducible first | exact HB.out | apply below_alloc | apply pw_below_drewN | apply below_drew1) | exact HB.out))) : w.heap.size ≤ gb355)); have n3_ := Aside0.mk ((by rw [hg]; exact (below_size (by repeat (first | (with_reducible first | exact HB.out | apply below_alloc | apply pw_below_drewN | apply below_drew1) | exact HB.out))) : w.heap.size ≤ gb355)); clear HB; have HB := n0_; have BK355 := n1_; have GW355 := n2_; have GE355 := n3_; clear n0_ n1_ n2_ n3_; clear hb hbox hg; have hcz4_0 : w3.cell? ⟨gb355, 0, none⟩ = some (.int .i64 a0_0) := (blk_cell BK355.out 0).trans rfl; have hcz4_1 : w3.cell? ⟨gb355, 1, none⟩ = some (.int .u8 a0_1) := (blk_cell BK355.out 1).trans rfl; have hcz4_2 : w3.cell? ⟨gb355, 2, none⟩ = some (.int .u8 a0_2) := (blk_cell BK355.out 2).trans rfl; have hcz4_3 : w3.cell? ⟨gb355, 3, none⟩ = some (.int .u32 a0_3) := (blk_cell BK355.out 3).trans rfl; have hcz4_4 : w3.cell? ⟨gb355, 4, none⟩ = some (.int .u8 a0_4) := (blk_cell BK355.out 4).trans rfl; have hcz4_5 : w3.cell? ⟨gb355, 5, none⟩ = some (.int .u8 a0_5) := (blk_cell BK355.out 5).trans rfl; have hcz4_6 : w3.cell? ⟨gb355, 6, none⟩ = some (.slice A0_6 l0_6.length c0_6) := (blk_cell BK355.out 6).trans rfl; have hcz4_7 : w3.cell? ⟨gb355, 7, none⟩ = some (.int .u32 a0_7) := (blk_cell BK355.out 7).trans rfl; have hcz4_8 : w3.cell? ⟨gb355, 8, none⟩ = some (.slice A0_8 l0_8.length c0_8) := (blk_cell BK355.out 8).trans rfl; have hcz4_9 : w3.cell? ⟨gb355, 9, none⟩ = some (.int .u8 a0_9) := (blk_cell BK355.out 9).trans rfl; have hcz4_10 : w3.cell? ⟨gb355, 10, none⟩ = some (.bool a0_10) := (blk_cell BK355.out 10).trans rfl; have hcz4_11 : w3.cell? ⟨gb355, 11, none⟩ = some (.slice A0_11 l0_11.length c0_11) := (blk_cell BK355.out 11).trans rfl; have hfz4_0 := blk_frozen BK355.out 0; have hfz4_1 := blk_frozen BK355.out 1; have hfz4_2 := blk_frozen BK355.out 2; have hfz4_3 := blk_frozen BK355.out 3; have hfz4_4 := blk_frozen BK355.out 4; have hfz4_5 := blk_frozen BK355.out 5; have hfz4_6 := blk_frozen BK355.out 6; have hfz4_7 := blk_frozen BK355.out 7; have hfz4_8 := blk_frozen BK355.out 8; have hfz4_9 := blk_frozen BK355.out 9; have hfz4_10 := blk_frozen BK355.out 10; have hfz4_11 := blk_frozen BK355.out 11))
  repeat (go_quiet (first | ((with_reducible refine gate_dst (N := 1) rfl ?_); (try (refine gate_guard (by rfl) ?_; dsimp only)); refine box_event ?hg (N := 1) ?hd (cs := #[.int .i64 a0_0, .int .u8 a0_1, .int .u8 a0_2, .int .u32 a0_3, .int .u8 a0_4, .int .u8 a0_5, .slice A0_6 l0_6.length c0_6, .int .u32 a0_7, .slice A0_8 l0_8.length c0_8, .int .u8 a0_9, .bool a0_10, .slice A0_11 l0_11.length c0_11]) (t := 53) ?hr ?_; (case hd => rfl); (case hg => rfl); (case hr => first | (go_simp; done) | (go_simp; rfl)); intro gb355 hg w3 hbox hb; have n0_ := Aside0.mk (below_step (by repeat (first | (with_reducible first | exact HB.out | apply below_alloc | apply pw_below_drewN | apply below_drew1) | exact HB.out)) hb); have n1_ := Aside0.mk (hbox); have n2_ := Aside0.mk ((by rw [hg]; exact (below_size (by repeat (first | (with_reducible first | exact HB.out | apply below_alloc | apply pw_below_drewN | apply below_drew1) | exact HB.out))) : w.heap.size ≤ gb355)); have n3_ := Aside0.mk ((by rw [hg]; exact (below_size (by repeat (first | (with_reducible first | exact HB.out | apply below_alloc | apply pw_below_drewN | apply below_drew1) | exact HB.out))) : w.heap.size ≤ gb355)); clear HB; have HB := n0_; have BK355 := n1_; have GW355 := n2_; have GE355 := n3_; clear n0_ n1_ n2_ n3_; clear hb hbox hg; have hcz4_0 : w3.cell? ⟨gb355, 0, none⟩ = some (.int .i64 a0_0) := (blk_cell BK355.out 0).trans rfl; have hcz4_1 : w3.cell? ⟨gb355, 1, none⟩ = some (.int .u8 a0_1) := (blk_cell BK355.out 1).trans rfl; have hcz4_2 : w3.cell? ⟨gb355, 2, none⟩ = some (.int .u8 a0_2) := (blk_cell BK355.out 2).trans rfl; have hcz4_3 : w3.cell? ⟨gb355, 3, none⟩ = some (.int .u32 a0_3) := (blk_cell BK355.out 3).trans rfl; have hcz4_4 : w3.cell? ⟨gb355, 4, none⟩ = some (.int .u8 a0_4) := (blk_cell BK355.out 4).trans rfl; have hcz4_5 : w3.cell? ⟨gb355, 5, none⟩ = some (.int .u8 a0_5) := (blk_cell BK355.out 5).trans rfl; have hcz4_6 : w3.cell? ⟨gb355, 6, none⟩ = some (.slice A0_6 l0_6.length c0_6) := (blk_cell BK355.out 6).trans rfl; have hcz4_7 : w3.cell? ⟨gb355, 7, none⟩ = some (.int .u32 a0_7) := (blk_cell BK355.out 7).trans rfl; have hcz4_8 : w3.cell? ⟨gb355, 8, none⟩ = some (.slice A0_8 l0_8.length c0_8) := (blk_cell BK355.out 8).trans rfl; have hcz4_9 : w3.cell? ⟨gb355, 9, none⟩ = some (.int .u8 a0_9) := (blk_cell BK355.out 9).trans rfl; have hcz4_10 : w3.cell? ⟨gb355, 10, none⟩ = some (.bool a0_10) := (blk_cell BK355.out 10).trans rfl; have hcz4_11 : w3.cell? ⟨gb355, 11, none⟩ = some (.slice A0_11 l0_11.length c0_11) := (blk_cell BK355.out 11).trans rfl; have hfz4_0 := blk_frozen BK355.out 0; have hfz4_1 := blk_frozen BK355.out 1; have hfz4_2 := blk_frozen BK355.out 2; have hfz4_3 := blk_frozen BK355.out 3; have hfz4_4 := blk_frozen BK355.out 4; have hfz4_5 := blk_frozen BK355.out 5; have hfz4_6 := blk_frozen BK355.out 6; have hfz4_7 := blk_frozen BK355.out 7; have hfz4_8 := blk_frozen BK355.out 8; have hfz4_9 := blk_frozen BK355.out 9; have hfz4_10 := blk_frozen BK355.out 10; have hfz4_11 := blk_frozen BK355.out 11)); go_upto_if 11 with (first | ((with_reducible refine gate_dst (N := 1) rfl ?_); (try (refine gate_guard (by rfl) ?_; dsimp only)); refine box_event ?hg (N := 1) ?hd (cs := #[.int .i64 a0_0, .int .u8 a0_1, .int .u8 a0_2, .int .u32 a0_3, .int .u8 a0_4, .int .u8 a0_5, .slice A0_6 l0_6.length c0_6, .int .u32 a0_7, .slice A0_8 l0_8.length c0_8, .int .u8 a0_9, .bool a0_10, .slice A0_11 l0_11.length c0_11]) (t := 53) ?hr ?_; (case hd => rfl); (case hg => rfl); (case hr => first | (go_simp; done) | (go_simp; rfl)); intro gb355 hg w3 hbox hb; have n0_ := Aside0.mk (below_step (by repeat (first | (with_reducible first | exact HB.out | apply below_alloc | apply pw_below_drewN | apply below_drew1) | exact HB.out)) hb); have n1_ := Aside0.mk (hbox); have n2_ := Aside0.mk ((by rw [hg]; exact (below_size (by repeat (first | (with_reducible first | exact HB.out | apply below_alloc | apply pw_below_drewN | apply below_drew1) | exact HB.out))) : w.heap.size ≤ gb355)); have n3_ := Aside0.mk ((by rw [hg]; exact (below_size (by repeat (first | (with_reducible first | exact HB.out | apply below_alloc | apply pw_below_drewN | apply below_drew1) | exact HB.out))) : w.heap.size ≤ gb355)); clear HB; have HB := n0_; have BK355 := n1_; have GW355 := n2_; have GE355 := n3_; clear n0_ n1_ n2_ n3_; clear hb hbox hg; have hcz4_0 : w3.cell? ⟨gb355, 0, none⟩ = some (.int .i64 a0_0) := (blk_cell BK355.out 0).trans rfl; have hcz4_1 : w3.cell? ⟨gb355, 1, none⟩ = some (.int .u8 a0_1) := (blk_cell BK355.out 1).trans rfl; have hcz4_2 : w3.cell? ⟨gb355, 2, none⟩ = some (.int .u8 a0_2) := (blk_cell BK355.out 2).trans rfl; have hcz4_3 : w3.cell? ⟨gb355, 3, none⟩ = some (.int .u32 a0_3) := (blk_cell BK355.out 3).trans rfl; have hcz4_4 : w3.cell? ⟨gb355, 4, none⟩ = some (.int .u8 a0_4) := (blk_cell BK355.out 4).trans rfl; have hcz4_5 : w3.cell? ⟨gb355, 5, none⟩ = some (.int .u8 a0_5) := (blk_cell BK355.out 5).trans rfl; have hcz4_6 : w3.cell? ⟨gb355, 6, none⟩ = some (.slice A0_6 l0_6.length c0_6) := (blk_cell BK355.out 6).trans rfl; have hcz4_7 : w3.cell? ⟨gb355, 7, none⟩ = some (.int .u32 a0_7) := (blk_cell BK355.out 7).trans rfl; have hcz4_8 : w3.cell? ⟨gb355, 8, none⟩ = some (.slice A0_8 l0_8.length c0_8) := (blk_cell BK355.out 8).trans rfl; have hcz4_9 : w3.cell? ⟨gb355, 9, none⟩ = some (.int .u8 a0_9) := (blk_cell BK355.out 9).trans rfl; have hcz4_10 : w3.cell? ⟨gb355, 10, none⟩ = some (.bool a0_10) := (blk_cell BK355.out 10).trans rfl; have hcz4_11 : w3.cell? ⟨gb355, 11, none⟩ = some (.slice A0_11 l0_11.length c0_11) := (blk_cell BK355.out 11).trans rfl; have hfz4_0 := blk_frozen BK355.out 0; have hfz4_1 := blk_frozen BK355.out 1; have hfz4_2 := blk_frozen BK355.out 2; have hfz4_3 := blk_frozen BK355.out 3; have hfz4_4 := blk_frozen BK355.out 4; have hfz4_5 := blk_frozen BK355.out 5; have hfz4_6 := blk_frozen BK355.out 6; have hfz4_7 := blk_frozen BK355.out 7; have hfz4_8 := blk_frozen BK355.out 8; have hfz4_9 := blk_frozen BK355.out 9; have hfz4_10 := blk_frozen BK355.out 10; have hfz4_11 := blk_frozen BK355.out 11)))
  (try simp only [Act.put, List.setIfInBounds_toArray, List.set_cons_zero, List.set_cons_succ])
  go_cut [3] (fun v3 wc => ∃ (kq : Nat) (x3_1 : Int), v3 = .int .u8 x3_1 ∧ Aside0 (note_batch.j0 kq x3_1 a0_0 a0_1 a0_2 a0_3 a0_4 a0_5 l0_6 a0_7 l0_8 a0_9 a0_10 l0_11 = some r) ∧ Aside0 (kq ≤ k) ∧ Aside0 (wc.heap[gb355]? = some (.cells #[.int .i64 a0_0, .int .u8 a0_1, .int .u8 a0_2, .int .u32 a0_3, .int .u8 a0_4, .int .u8 a0_5, (.slice A0_6 l0_6.length c0_6), .int .u32 a0_7, (.slice A0_8 l0_8.length c0_8), .int .u8 a0_9, .bool a0_10, (.slice A0_11 l0_11.length c0_11)] 53 (0, 0))) ∧ Aside0 (Below w.heap.size w wc))
  case first =>
    have H := HC2.out
    clear HC2
    by_cases c5 : (l0_8.length : Int) > 0
    · rw [if_pos c5] at H
      have c5b0 : decide (0 < (l0_8.length : Int)) = true := decide_eq_true c5
      have c5b1 : decide (0 < l0_8.length) = true := decide_eq_true (by omega)
      clear c5
      (first | rw [c5b0] | (simp only [i64_w, i32_w]; rw [c5b0]) | skip)
      (try rw [c5b1])
      obtain ⟨ji6, hji6⟩ : ∃ j_ : Int, (wrap64 ((l0_8.length : Int) - 1)) = j_ := ⟨_, rfl⟩
      replace H : (if 0 ≤ (ji6) then (if (ji6) < (l0_8.length : Int) then (note_batch.j0 k ((((rd_T27 l0_8 (ji6)).f0) + 1) % 256) a0_0 a0_1 a0_2 a0_3 a0_4 a0_5 l0_6 a0_7 l0_8 a0_9 a0_10 l0_11) else (none)) else (none)) = some r := by first | (rw [hji6] at H; exact H) | (simp only [hji6] at H ⊢; exact H)
      have hji6w : (IntKind.i64.wrap ((l0_8.length : Int) - 1)) = ji6 := (i64_w _).trans hji6
      by_cases c7 : 0 ≤ (ji6)
      · rw [if_pos c7] at H
        have c7b0 : decide (0 ≤ (ji6)) = true := decide_eq_true c7
        clear c7
        by_cases c8 : (ji6) < (l0_8.length : Int)
        · rw [if_pos c8] at H
          have c8b0 : decide ((ji6) < (l0_8.length : Int)) = true := decide_eq_true c8
          clear c8
          have H' := Aside0.mk H
          clear H
          have hcz9_0 : w3.cell? ⟨gb355, 0, none⟩ = some (.int .i64 a0_0) := (blk_cell BK355.out 0).trans rfl
          have hcz9_1 : w3.cell? ⟨gb355, 1, none⟩ = some (.int .u8 a0_1) := (blk_cell BK355.out 1).trans rfl
          have hcz9_2 : w3.cell? ⟨gb355, 2, none⟩ = some (.int .u8 a0_2) := (blk_cell BK355.out 2).trans rfl
          have hcz9_3 : w3.cell? ⟨gb355, 3, none⟩ = some (.int .u32 a0_3) := (blk_cell BK355.out 3).trans rfl
          have hcz9_4 : w3.cell? ⟨gb355, 4, none⟩ = some (.int .u8 a0_4) := (blk_cell BK355.out 4).trans rfl
          have hcz9_5 : w3.cell? ⟨gb355, 5, none⟩ = some (.int .u8 a0_5) := (blk_cell BK355.out 5).trans rfl
          have hcz9_6 : w3.cell? ⟨gb355, 6, none⟩ = some (.slice A0_6 l0_6.length c0_6) := (blk_cell BK355.out 6).trans rfl
          have hcz9_7 : w3.cell? ⟨gb355, 7, none⟩ = some (.int .u32 a0_7) := (blk_cell BK355.out 7).trans rfl
          have hcz9_8 : w3.cell? ⟨gb355, 8, none⟩ = some (.slice A0_8 l0_8.length c0_8) := (blk_cell BK355.out 8).trans rfl
          have hcz9_9 : w3.cell? ⟨gb355, 9, none⟩ = some (.int .u8 a0_9) := (blk_cell BK355.out 9).trans rfl
          have hcz9_10 : w3.cell? ⟨gb355, 10, none⟩ = some (.bool a0_10) := (blk_cell BK355.out 10).trans rfl
          have hcz9_11 : w3.cell? ⟨gb355, 11, none⟩ = some (.slice A0_11 l0_11.length c0_11) := (blk_cell BK355.out 11).trans rfl
          have hfz9_0 := blk_frozen BK355.out 0
          have hfz9_1 := blk_frozen BK355.out 1
          have hfz9_2 := blk_frozen BK355.out 2
          have hfz9_3 := blk_frozen BK355.out 3
          have hfz9_4 := blk_frozen BK355.out 4
          have hfz9_5 := blk_frozen BK355.out 5
          have hfz9_6 := blk_frozen BK355.out 6
          have hfz9_7 := blk_frozen BK355.out 7
          have hfz9_8 := blk_frozen BK355.out 8
          have hfz9_9 := blk_frozen BK355.out 9
          have hfz9_10 := blk_frozen BK355.out 10
          have hfz9_11 := blk_frozen BK355.out 11
          have p356 : 0 ≤ ((ji6) : Int) := of_decide_eq_true (by first | (with_reducible assumption) | assumption)
          have q356 : (ji6) < (l0_8.length : Int) := of_decide_eq_true (by first | (with_reducible assumption) | assumption)
          obtain ⟨ad356, e356, hx356_0, hx356_1, hx356_2, hx356_3, hx356_4, hx356_5, hx356_6⟩ := at_T27 HR0_8.out (ji6) p356 q356
          cases e356
          replace hx356_0 := (HB.out.cell (World.block_lt_of_cell? w _ hx356_0)).trans hx356_0
          replace hx356_1 := (HB.out.cell (World.block_lt_of_cell? w _ hx356_1)).trans hx356_1
          replace hx356_2 := (HB.out.cell (World.block_lt_of_cell? w _ hx356_2)).trans hx356_2
          replace hx356_3 := (HB.out.cell (World.block_lt_of_cell? w _ hx356_3)).trans hx356_3
          replace hx356_4 := (HB.out.cell (World.block_lt_of_cell? w _ hx356_4)).trans hx356_4
          replace hx356_5 := (HB.out.cell (World.block_lt_of_cell? w _ hx356_5)).trans hx356_5
          replace hx356_6 := (HB.out.cell (World.block_lt_of_cell? w _ hx356_6)).trans hx356_6
          replace p356 := eq_true p356
          replace q356 := eq_true q356
          go_wp2
          repeat (go_quiet (fail); try go_wp2)
          go_meet
          case rel => exact ⟨_, ((((rd_T27 l0_8 (ji6)).f0) + 1) % 256), (by first | rfl | (simp; done) | (simp only [← hji6] <;> (first | rfl | simp)) | (simp [*]; done)), H', ⟨by first | omega | exact Nat.le_refl _⟩, ⟨by (with_reducible repeat (first | refine blk_drewN ?_ _ | refine blk_drew ?_ | refine blk_alloc ?_ _)); exact BK355.out⟩, ⟨by repeat (first | (with_reducible first | exact HB.out | apply below_alloc | apply pw_below_drewN | apply below_drew1 | refine below_set ?_ GE355.out) | exact HB.out)⟩⟩
        · rw [if_neg c8] at H
          exact absurd H (by simp)
      · rw [if_neg c7] at H
        exact absurd H (by simp)
    · rw [if_neg c5] at H
      have c5b0 : decide (0 < (l0_8.length : Int)) = false := decide_eq_false c5
      have c5b1 : decide (0 < l0_8.length) = false := decide_eq_false (by omega)
      clear c5
      (first | rw [c5b0] | (simp only [i64_w, i32_w]; rw [c5b0]) | skip)
      (try rw [c5b1])
      have H' := Aside0.mk H
      clear H
      go_wp2
      repeat (go_quiet (fail); try go_wp2)
      go_meet
      case rel => exact ⟨_, (a0_4), (by first | rfl | (simp; done) | (simp [*]; done)), H', ⟨by first | omega | exact Nat.le_refl _⟩, ⟨by (with_reducible repeat (first | refine blk_drewN ?_ _ | refine blk_drew ?_ | refine blk_alloc ?_ _)); exact BK355.out⟩, ⟨by repeat (first | (with_reducible first | exact HB.out | apply below_alloc | apply pw_below_drewN | apply below_drew1 | refine below_set ?_ GE355.out) | exact HB.out)⟩⟩
  case rest =>
    clear HC2
    try clear p2
    try clear p3
    try clear q3
    try clear hx3
    try clear c5
    try clear c5b0
    try clear c5b1
    try clear p6
    try clear c7
    try clear c7b0
    try clear c8
    try clear c8b0
    try clear hcz4_0
    try clear hcz4_1
    try clear hcz4_10
    try clear hcz4_11
    try clear hcz4_2
    try clear hcz4_3
    try clear hcz4_4
    try clear hcz4_5
    try clear hcz4_6
    try clear hcz4_7
    try clear hcz4_8
    try clear hcz4_9
    try clear hcz9_0
    try clear hcz9_1
    try clear hcz9_10
    try clear hcz9_11
    try clear hcz9_2
    try clear hcz9_3
    try clear hcz9_4
    try clear hcz9_5
    try clear hcz9_6
    try clear hcz9_7
    try clear hcz9_8
    try clear hcz9_9
    try clear hfz4_0
    try clear hfz4_1
    try clear hfz4_10
    try clear hfz4_11
    try clear hfz4_2
    try clear hfz4_3
    try clear hfz4_4
    try clear hfz4_5
    try clear hfz4_6
    try clear hfz4_7
    try clear hfz4_8
    try clear hfz4_9
    try clear hfz9_0
    try clear hfz9_1
    try clear hfz9_10
    try clear hfz9_11
    try clear hfz9_2
    try clear hfz9_3
    try clear hfz9_4
    try clear hfz9_5
    try clear hfz9_6
    try clear hfz9_7
    try clear hfz9_8
    try clear hfz9_9
    try clear hx356_0
    try clear hx356_1
    try clear hx356_2
    try clear hx356_3
    try clear hx356_4
    try clear hx356_5
    try clear hx356_6
    try clear p356
    try clear q356
    obtain ⟨kq, x3_1, rfl, HA, HJ1, BK355, HB⟩ := hcut
    cases kq with
    | zero => exact absurd HA.out (by simp [note_batch.j0])
    | succ kj1 =>
      have H := HA.out
      clear HA
      simp only [note_batch.j0] at H
      have HC10 := Aside0.mk H
      clear H
      go_upto_region 5 with (fail)
      repeat (go_quiet (fail); go_upto_region 5 with (fail))
      go_cut [20] (fun v20 wc => ∃ (kq : Nat) (x20_9 : Bool), v20 = .bool x20_9 ∧ Aside0 (note_batch.j1 kq x3_1 x20_9 a0_0 a0_1 a0_2 a0_3 a0_4 a0_5 l0_6 a0_7 l0_8 a0_9 a0_10 l0_11 = some r) ∧ Aside0 (kq ≤ kj1) ∧ Aside0 (wc.heap[gb355]? = some (.cells #[.int .i64 a0_0, .int .u8 a0_1, .int .u8 a0_2, .int .u32 a0_3, .int .u8 a0_4, .int .u8 a0_5, (.slice A0_6 l0_6.length c0_6), .int .u32 a0_7, (.slice A0_8 l0_8.length c0_8), .int .u8 a0_9, .bool a0_10, (.slice A0_11 l0_11.length c0_11)] 53 (0, 0))) ∧ Aside0 (Below w.heap.size w wc))
      case first =>
        have H := HC10.out
        clear HC10
        by_cases c11 : a0_5 = 0
        · rw [if_pos c11] at H
          have c11b0 : (a0_5 == 0) = true := beq_iff_eq.mpr c11
          have c11b1 : (a0_5 != 0) = false := bne_eq_false_iff_eq.mpr c11
          clear c11
          (first | rw [c11b0] | (simp only [i64_w, i32_w]; rw [c11b0]) | skip)
          by_cases c12 : (l0_6.length : Int) > 0
          · rw [if_pos c12] at H
            have c12b0 : decide (0 < (l0_6.length : Int)) = true := decide_eq_true c12
            have c12b1 : decide (0 < l0_6.length) = true := decide_eq_true (by omega)
            clear c12
            have H' := Aside0.mk H
            clear H
            have hcz13_0 : wc.cell? ⟨gb355, 0, none⟩ = some (.int .i64 a0_0) := (blk_cell BK355.out 0).trans rfl
            have hcz13_1 : wc.cell? ⟨gb355, 1, none⟩ = some (.int .u8 a0_1) := (blk_cell BK355.out 1).trans rfl
            have hcz13_2 : wc.cell? ⟨gb355, 2, none⟩ = some (.int .u8 a0_2) := (blk_cell BK355.out 2).trans rfl
            have hcz13_3 : wc.cell? ⟨gb355, 3, none⟩ = some (.int .u32 a0_3) := (blk_cell BK355.out 3).trans rfl
            have hcz13_4 : wc.cell? ⟨gb355, 4, none⟩ = some (.int .u8 a0_4) := (blk_cell BK355.out 4).trans rfl
            have hcz13_5 : wc.cell? ⟨gb355, 5, none⟩ = some (.int .u8 a0_5) := (blk_cell BK355.out 5).trans rfl
            have hcz13_6 : wc.cell? ⟨gb355, 6, none⟩ = some (.slice A0_6 l0_6.length c0_6) := (blk_cell BK355.out 6).trans rfl
            have hcz13_7 : wc.cell? ⟨gb355, 7, none⟩ = some (.int .u32 a0_7) := (blk_cell BK355.out 7).trans rfl
            have hcz13_8 : wc.cell? ⟨gb355, 8, none⟩ = some (.slice A0_8 l0_8.length c0_8) := (blk_cell BK355.out 8).trans rfl
            have hcz13_9 : wc.cell? ⟨gb355, 9, none⟩ = some (.int .u8 a0_9) := (blk_cell BK355.out 9).trans rfl
            have hcz13_10 : wc.cell? ⟨gb355, 10, none⟩ = some (.bool a0_10) := (blk_cell BK355.out 10).trans rfl
            have hcz13_11 : wc.cell? ⟨gb355, 11, none⟩ = some (.slice A0_11 l0_11.length c0_11) := (blk_cell BK355.out 11).trans rfl
            have hfz13_0 := blk_frozen BK355.out 0
            have hfz13_1 := blk_frozen BK355.out 1
            have hfz13_2 := blk_frozen BK355.out 2
            have hfz13_3 := blk_frozen BK355.out 3
            have hfz13_4 := blk_frozen BK355.out 4
            have hfz13_5 := blk_frozen BK355.out 5
            have hfz13_6 := blk_frozen BK355.out 6
            have hfz13_7 := blk_frozen BK355.out 7
            have hfz13_8 := blk_frozen BK355.out 8
            have hfz13_9 := blk_frozen BK355.out 9
            have hfz13_10 := blk_frozen BK355.out 10
            have hfz13_11 := blk_frozen BK355.out 11
            go_wp2
            repeat (go_quiet (fail); try go_wp2)
            go_meet
            case rel => exact ⟨_, (true), (by first | rfl | (simp; done) | (simp [*]; done)), H', ⟨by have := HJ1.out; first | omega | exact Nat.le_refl _⟩, ⟨by (with_reducible repeat (first | refine blk_drewN ?_ _ | refine blk_drew ?_ | refine blk_alloc ?_ _)); exact BK355.out⟩, ⟨by repeat (first | (with_reducible first | exact HB.out | apply below_alloc | apply pw_below_drewN | apply below_drew1 | refine below_set ?_ GE355.out) | exact HB.out)⟩⟩
          · rw [if_neg c12] at H
            have c12b0 : decide (0 < (l0_6.length : Int)) = false := decide_eq_false c12
            have c12b1 : decide (0 < l0_6.length) = false := decide_eq_false (by omega)
            clear c12
            replace H := Option.bind_eq_some_iff.mp H
            obtain ⟨t357, A140, H⟩ := H
            replace H : (if t357 = true then (if (l0_8.length : Int) > 4 then (note_batch.j1 kj1 x3_1 true a0_0 a0_1 a0_2 a0_3 a0_4 a0_5 l0_6 a0_7 l0_8 a0_9 a0_10 l0_11) else ((know_Right.f kj1 l0_11).bind fun t358 => (note_batch.j1 kj1 x3_1 (!t358) a0_0 a0_1 a0_2 a0_3 a0_4 a0_5 l0_6 a0_7 l0_8 a0_9 a0_10 l0_11))) else (note_batch.j1 kj1 x3_1 true a0_0 a0_1 a0_2 a0_3 a0_4 a0_5 l0_6 a0_7 l0_8 a0_9 a0_10 l0_11)) = some r := H
            have A14 := Aside0.mk A140
            clear A140
            by_cases c15 : t357 = true
            · subst c15
              have H1 : (if (l0_8.length : Int) > 4 then (note_batch.j1 kj1 x3_1 true a0_0 a0_1 a0_2 a0_3 a0_4 a0_5 l0_6 a0_7 l0_8 a0_9 a0_10 l0_11) else ((know_Right.f kj1 l0_11).bind fun t358 => (note_batch.j1 kj1 x3_1 (!t358) a0_0 a0_1 a0_2 a0_3 a0_4 a0_5 l0_6 a0_7 l0_8 a0_9 a0_10 l0_11))) = some r := by rw [if_pos rfl] at H; exact H
              clear H
              have H := H1
              clear H1
              by_cases c16 : (l0_8.length : Int) > 4
              · rw [if_pos c16] at H
                have c16b0 : decide (4 < (l0_8.length : Int)) = true := decide_eq_true c16
                have c16b1 : decide (4 < l0_8.length) = true := decide_eq_true (by omega)
                clear c16
                have H' := Aside0.mk H
                clear H
                have hcz17_0 : wc.cell? ⟨gb355, 0, none⟩ = some (.int .i64 a0_0) := (blk_cell BK355.out 0).trans rfl
                have hcz17_1 : wc.cell? ⟨gb355, 1, none⟩ = some (.int .u8 a0_1) := (blk_cell BK355.out 1).trans rfl
                have hcz17_2 : wc.cell? ⟨gb355, 2, none⟩ = some (.int .u8 a0_2) := (blk_cell BK355.out 2).trans rfl
                have hcz17_3 : wc.cell? ⟨gb355, 3, none⟩ = some (.int .u32 a0_3) := (blk_cell BK355.out 3).trans rfl
                have hcz17_4 : wc.cell? ⟨gb355, 4, none⟩ = some (.int .u8 a0_4) := (blk_cell BK355.out 4).trans rfl
                have hcz17_5 : wc.cell? ⟨gb355, 5, none⟩ = some (.int .u8 a0_5) := (blk_cell BK355.out 5).trans rfl
                have hcz17_6 : wc.cell? ⟨gb355, 6, none⟩ = some (.slice A0_6 l0_6.length c0_6) := (blk_cell BK355.out 6).trans rfl
                have hcz17_7 : wc.cell? ⟨gb355, 7, none⟩ = some (.int .u32 a0_7) := (blk_cell BK355.out 7).trans rfl
                have hcz17_8 : wc.cell? ⟨gb355, 8, none⟩ = some (.slice A0_8 l0_8.length c0_8) := (blk_cell BK355.out 8).trans rfl
                have hcz17_9 : wc.cell? ⟨gb355, 9, none⟩ = some (.int .u8 a0_9) := (blk_cell BK355.out 9).trans rfl
                have hcz17_10 : wc.cell? ⟨gb355, 10, none⟩ = some (.bool a0_10) := (blk_cell BK355.out 10).trans rfl
                have hcz17_11 : wc.cell? ⟨gb355, 11, none⟩ = some (.slice A0_11 l0_11.length c0_11) := (blk_cell BK355.out 11).trans rfl
                have hfz17_0 := blk_frozen BK355.out 0
                have hfz17_1 := blk_frozen BK355.out 1
                have hfz17_2 := blk_frozen BK355.out 2
                have hfz17_3 := blk_frozen BK355.out 3
                have hfz17_4 := blk_frozen BK355.out 4
                have hfz17_5 := blk_frozen BK355.out 5
                have hfz17_6 := blk_frozen BK355.out 6
                have hfz17_7 := blk_frozen BK355.out 7
                have hfz17_8 := blk_frozen BK355.out 8
                have hfz17_9 := blk_frozen BK355.out 9
                have hfz17_10 := blk_frozen BK355.out 10
                have hfz17_11 := blk_frozen BK355.out 11
                go_wp2_with (first | (go_at_call 18; (with_reducible refine (item_Right.calls kj1 _ _ l0_8 true _ ?side1 ?side2 A14.out).mono ?_); (case side1 => repeat (first | exact (Kd.C_below HR0_8.out HB.out) | (with_reducible refine Kd.C_alloc ?_ _) | (with_reducible refine Kd.C_drewN ?_ _) | (with_reducible refine Kd.C_drew ?_))); (case side2 => exact HC0_8.out); rintro e w18 ⟨rfl, hb⟩; have n0_ := Aside0.mk (blk_below (g := gb355) (o := .cells #[.int .i64 a0_0, .int .u8 a0_1, .int .u8 a0_2, .int .u32 a0_3, .int .u8 a0_4, .int .u8 a0_5, .slice A0_6 l0_6.length c0_6, .int .u32 a0_7, .slice A0_8 l0_8.length c0_8, .int .u8 a0_9, .bool a0_10, .slice A0_11 l0_11.length c0_11] 53 (0, 0)) (by (with_reducible repeat (first | refine blk_drewN ?_ _ | refine blk_drew ?_ | refine blk_alloc ?_ _)); exact BK355.out) hb); have n1_ := Aside0.mk (below_step (by repeat (first | (with_reducible first | exact HB.out | apply below_alloc | apply pw_below_drewN | apply below_drew1 | refine below_set ?_ GE355.out) | exact HB.out)) hb); clear BK355; clear HB; have BK355 := n0_; have HB := n1_; clear n0_ n1_; (try clear hb); (try clear hb2); (try clear hk); (try clear hi); have hcz19_0 : w18.cell? ⟨gb355, 0, none⟩ = some (.int .i64 a0_0) := (blk_cell BK355.out 0).trans rfl; have hcz19_1 : w18.cell? ⟨gb355, 1, none⟩ = some (.int .u8 a0_1) := (blk_cell BK355.out 1).trans rfl; have hcz19_2 : w18.cell? ⟨gb355, 2, none⟩ = some (.int .u8 a0_2) := (blk_cell BK355.out 2).trans rfl; have hcz19_3 : w18.cell? ⟨gb355, 3, none⟩ = some (.int .u32 a0_3) := (blk_cell BK355.out 3).trans rfl; have hcz19_4 : w18.cell? ⟨gb355, 4, none⟩ = some (.int .u8 a0_4) := (blk_cell BK355.out 4).trans rfl; have hcz19_5 : w18.cell? ⟨gb355, 5, none⟩ = some (.int .u8 a0_5) := (blk_cell BK355.out 5).trans rfl; have hcz19_6 : w18.cell? ⟨gb355, 6, none⟩ = some (.slice A0_6 l0_6.length c0_6) := (blk_cell BK355.out 6).trans rfl; have hcz19_7 : w18.cell? ⟨gb355, 7, none⟩ = some (.int .u32 a0_7) := (blk_cell BK355.out 7).trans rfl; have hcz19_8 : w18.cell? ⟨gb355, 8, none⟩ = some (.slice A0_8 l0_8.length c0_8) := (blk_cell BK355.out 8).trans rfl; have hcz19_9 : w18.cell? ⟨gb355, 9, none⟩ = some (.int .u8 a0_9) := (blk_cell BK355.out 9).trans rfl; have hcz19_10 : w18.cell? ⟨gb355, 10, none⟩ = some (.bool a0_10) := (blk_cell BK355.out 10).trans rfl; have hcz19_11 : w18.cell? ⟨gb355, 11, none⟩ = some (.slice A0_11 l0_11.length c0_11) := (blk_cell BK355.out 11).trans rfl; have hfz19_0 := blk_frozen BK355.out 0; have hfz19_1 := blk_frozen BK355.out 1; have hfz19_2 := blk_frozen BK355.out 2; have hfz19_3 := blk_frozen BK355.out 3; have hfz19_4 := blk_frozen BK355.out 4; have hfz19_5 := blk_frozen BK355.out 5; have hfz19_6 := blk_frozen BK355.out 6; have hfz19_7 := blk_frozen BK355.out 7; have hfz19_8 := blk_frozen BK355.out 8; have hfz19_9 := blk_frozen BK355.out 9; have hfz19_10 := blk_frozen BK355.out 10; have hfz19_11 := blk_frozen BK355.out 11))
                repeat (go_quiet (first | (go_at_call 18; (with_reducible refine (item_Right.calls kj1 _ _ l0_8 true _ ?side1 ?side2 A14.out).mono ?_); (case side1 => repeat (first | exact (Kd.C_below HR0_8.out HB.out) | (with_reducible refine Kd.C_alloc ?_ _) | (with_reducible refine Kd.C_drewN ?_ _) | (with_reducible refine Kd.C_drew ?_))); (case side2 => exact HC0_8.out); rintro e w18 ⟨rfl, hb⟩; have n0_ := Aside0.mk (blk_below (g := gb355) (o := .cells #[.int .i64 a0_0, .int .u8 a0_1, .int .u8 a0_2, .int .u32 a0_3, .int .u8 a0_4, .int .u8 a0_5, .slice A0_6 l0_6.length c0_6, .int .u32 a0_7, .slice A0_8 l0_8.length c0_8, .int .u8 a0_9, .bool a0_10, .slice A0_11 l0_11.length c0_11] 53 (0, 0)) (by (with_reducible repeat (first | refine blk_drewN ?_ _ | refine blk_drew ?_ | refine blk_alloc ?_ _)); exact BK355.out) hb); have n1_ := Aside0.mk (below_step (by repeat (first | (with_reducible first | exact HB.out | apply below_alloc | apply pw_below_drewN | apply below_drew1 | refine below_set ?_ GE355.out) | exact HB.out)) hb); clear BK355; clear HB; have BK355 := n0_; have HB := n1_; clear n0_ n1_; (try clear hb); (try clear hb2); (try clear hk); (try clear hi); have hcz19_0 : w18.cell? ⟨gb355, 0, none⟩ = some (.int .i64 a0_0) := (blk_cell BK355.out 0).trans rfl; have hcz19_1 : w18.cell? ⟨gb355, 1, none⟩ = some (.int .u8 a0_1) := (blk_cell BK355.out 1).trans rfl; have hcz19_2 : w18.cell? ⟨gb355, 2, none⟩ = some (.int .u8 a0_2) := (blk_cell BK355.out 2).trans rfl; have hcz19_3 : w18.cell? ⟨gb355, 3, none⟩ = some (.int .u32 a0_3) := (blk_cell BK355.out 3).trans rfl; have hcz19_4 : w18.cell? ⟨gb355, 4, none⟩ = some (.int .u8 a0_4) := (blk_cell BK355.out 4).trans rfl; have hcz19_5 : w18.cell? ⟨gb355, 5, none⟩ = some (.int .u8 a0_5) := (blk_cell BK355.out 5).trans rfl; have hcz19_6 : w18.cell? ⟨gb355, 6, none⟩ = some (.slice A0_6 l0_6.length c0_6) := (blk_cell BK355.out 6).trans rfl; have hcz19_7 : w18.cell? ⟨gb355, 7, none⟩ = some (.int .u32 a0_7) := (blk_cell BK355.out 7).trans rfl; have hcz19_8 : w18.cell? ⟨gb355, 8, none⟩ = some (.slice A0_8 l0_8.length c0_8) := (blk_cell BK355.out 8).trans rfl; have hcz19_9 : w18.cell? ⟨gb355, 9, none⟩ = some (.int .u8 a0_9) := (blk_cell BK355.out 9).trans rfl; have hcz19_10 : w18.cell? ⟨gb355, 10, none⟩ = some (.bool a0_10) := (blk_cell BK355.out 10).trans rfl; have hcz19_11 : w18.cell? ⟨gb355, 11, none⟩ = some (.slice A0_11 l0_11.length c0_11) := (blk_cell BK355.out 11).trans rfl; have hfz19_0 := blk_frozen BK355.out 0; have hfz19_1 := blk_frozen BK355.out 1; have hfz19_2 := blk_frozen BK355.out 2; have hfz19_3 := blk_frozen BK355.out 3; have hfz19_4 := blk_frozen BK355.out 4; have hfz19_5 := blk_frozen BK355.out 5; have hfz19_6 := blk_frozen BK355.out 6; have hfz19_7 := blk_frozen BK355.out 7; have hfz19_8 := blk_frozen BK355.out 8; have hfz19_9 := blk_frozen BK355.out 9; have hfz19_10 := blk_frozen BK355.out 10; have hfz19_11 := blk_frozen BK355.out 11)); try go_wp2_with (first | (go_at_call 18; (with_reducible refine (item_Right.calls kj1 _ _ l0_8 true _ ?side1 ?side2 A14.out).mono ?_); (case side1 => repeat (first | exact (Kd.C_below HR0_8.out HB.out) | (with_reducible refine Kd.C_alloc ?_ _) | (with_reducible refine Kd.C_drewN ?_ _) | (with_reducible refine Kd.C_drew ?_))); (case side2 => exact HC0_8.out); rintro e w18 ⟨rfl, hb⟩; have n0_ := Aside0.mk (blk_below (g := gb355) (o := .cells #[.int .i64 a0_0, .int .u8 a0_1, .int .u8 a0_2, .int .u32 a0_3, .int .u8 a0_4, .int .u8 a0_5, .slice A0_6 l0_6.length c0_6, .int .u32 a0_7, .slice A0_8 l0_8.length c0_8, .int .u8 a0_9, .bool a0_10, .slice A0_11 l0_11.length c0_11] 53 (0, 0)) (by (with_reducible repeat (first | refine blk_drewN ?_ _ | refine blk_drew ?_ | refine blk_alloc ?_ _)); exact BK355.out) hb); have n1_ := Aside0.mk (below_step (by repeat (first | (with_reducible first | exact HB.out | apply below_alloc | apply pw_below_drewN | apply below_drew1 | refine below_set ?_ GE355.out) | exact HB.out)) hb); clear BK355; clear HB; have BK355 := n0_; have HB := n1_; clear n0_ n1_; (try clear hb); (try clear hb2); (try clear hk); (try clear hi); have hcz19_0 : w18.cell? ⟨gb355, 0, none⟩ = some (.int .i64 a0_0) := (blk_cell BK355.out 0).trans rfl; have hcz19_1 : w18.cell? ⟨gb355, 1, none⟩ = some (.int .u8 a0_1) := (blk_cell BK355.out 1).trans rfl; have hcz19_2 : w18.cell? ⟨gb355, 2, none⟩ = some (.int .u8 a0_2) := (blk_cell BK355.out 2).trans rfl; have hcz19_3 : w18.cell? ⟨gb355, 3, none⟩ = some (.int .u32 a0_3) := (blk_cell BK355.out 3).trans rfl; have hcz19_4 : w18.cell? ⟨gb355, 4, none⟩ = some (.int .u8 a0_4) := (blk_cell BK355.out 4).trans rfl; have hcz19_5 : w18.cell? ⟨gb355, 5, none⟩ = some (.int .u8 a0_5) := (blk_cell BK355.out 5).trans rfl; have hcz19_6 : w18.cell? ⟨gb355, 6, none⟩ = some (.slice A0_6 l0_6.length c0_6) := (blk_cell BK355.out 6).trans rfl; have hcz19_7 : w18.cell? ⟨gb355, 7, none⟩ = some (.int .u32 a0_7) := (blk_cell BK355.out 7).trans rfl; have hcz19_8 : w18.cell? ⟨gb355, 8, none⟩ = some (.slice A0_8 l0_8.length c0_8) := (blk_cell BK355.out 8).trans rfl; have hcz19_9 : w18.cell? ⟨gb355, 9, none⟩ = some (.int .u8 a0_9) := (blk_cell BK355.out 9).trans rfl; have hcz19_10 : w18.cell? ⟨gb355, 10, none⟩ = some (.bool a0_10) := (blk_cell BK355.out 10).trans rfl; have hcz19_11 : w18.cell? ⟨gb355, 11, none⟩ = some (.slice A0_11 l0_11.length c0_11) := (blk_cell BK355.out 11).trans rfl; have hfz19_0 := blk_frozen BK355.out 0; have hfz19_1 := blk_frozen BK355.out 1; have hfz19_2 := blk_frozen BK355.out 2; have hfz19_3 := blk_frozen BK355.out 3; have hfz19_4 := blk_frozen BK355.out 4; have hfz19_5 := blk_frozen BK355.out 5; have hfz19_6 := blk_frozen BK355.out 6; have hfz19_7 := blk_frozen BK355.out 7; have hfz19_8 := blk_frozen BK355.out 8; have hfz19_9 := blk_frozen BK355.out 9; have hfz19_10 := blk_frozen BK355.out 10; have hfz19_11 := blk_frozen BK355.out 11)))
                go_meet
                case rel => exact ⟨_, (true), (by first | rfl | (simp; done) | (simp [*]; done)), H', ⟨by have := HJ1.out; first | omega | exact Nat.le_refl _⟩, ⟨by (with_reducible repeat (first | refine blk_drewN ?_ _ | refine blk_drew ?_ | refine blk_alloc ?_ _)); exact BK355.out⟩, ⟨by repeat (first | (with_reducible first | exact HB.out | apply below_alloc | apply pw_below_drewN | apply below_drew1 | refine below_set ?_ GE355.out) | exact HB.out)⟩⟩
              · rw [if_neg c16] at H
                have c16b0 : decide (4 < (l0_8.length : Int)) = false := decide_eq_false c16
                have c16b1 : decide (4 < l0_8.length) = false := decide_eq_false (by omega)
                clear c16
                replace H := Option.bind_eq_some_iff.mp H
                obtain ⟨t358, A200, H⟩ := H
                replace H : (note_batch.j1 kj1 x3_1 (!t358) a0_0 a0_1 a0_2 a0_3 a0_4 a0_5 l0_6 a0_7 l0_8 a0_9 a0_10 l0_11) = some r := H
                have A20 := Aside0.mk A200
                clear A200
                have H' := Aside0.mk H
                clear H
                have hcz21_0 : wc.cell? ⟨gb355, 0, none⟩ = some (.int .i64 a0_0) := (blk_cell BK355.out 0).trans rfl
                have hcz21_1 : wc.cell? ⟨gb355, 1, none⟩ = some (.int .u8 a0_1) := (blk_cell BK355.out 1).trans rfl
                have hcz21_2 : wc.cell? ⟨gb355, 2, none⟩ = some (.int .u8 a0_2) := (blk_cell BK355.out 2).trans rfl
                have hcz21_3 : wc.cell? ⟨gb355, 3, none⟩ = some (.int .u32 a0_3) := (blk_cell BK355.out 3).trans rfl
                have hcz21_4 : wc.cell? ⟨gb355, 4, none⟩ = some (.int .u8 a0_4) := (blk_cell BK355.out 4).trans rfl
                have hcz21_5 : wc.cell? ⟨gb355, 5, none⟩ = some (.int .u8 a0_5) := (blk_cell BK355.out 5).trans rfl
                have hcz21_6 : wc.cell? ⟨gb355, 6, none⟩ = some (.slice A0_6 l0_6.length c0_6) := (blk_cell BK355.out 6).trans rfl
                have hcz21_7 : wc.cell? ⟨gb355, 7, none⟩ = some (.int .u32 a0_7) := (blk_cell BK355.out 7).trans rfl
                have hcz21_8 : wc.cell? ⟨gb355, 8, none⟩ = some (.slice A0_8 l0_8.length c0_8) := (blk_cell BK355.out 8).trans rfl
                have hcz21_9 : wc.cell? ⟨gb355, 9, none⟩ = some (.int .u8 a0_9) := (blk_cell BK355.out 9).trans rfl
                have hcz21_10 : wc.cell? ⟨gb355, 10, none⟩ = some (.bool a0_10) := (blk_cell BK355.out 10).trans rfl
                have hcz21_11 : wc.cell? ⟨gb355, 11, none⟩ = some (.slice A0_11 l0_11.length c0_11) := (blk_cell BK355.out 11).trans rfl
                have hfz21_0 := blk_frozen BK355.out 0
                have hfz21_1 := blk_frozen BK355.out 1
                have hfz21_2 := blk_frozen BK355.out 2
                have hfz21_3 := blk_frozen BK355.out 3
                have hfz21_4 := blk_frozen BK355.out 4
                have hfz21_5 := blk_frozen BK355.out 5
                have hfz21_6 := blk_frozen BK355.out 6
                have hfz21_7 := blk_frozen BK355.out 7
                have hfz21_8 := blk_frozen BK355.out 8
                have hfz21_9 := blk_frozen BK355.out 9
                have hfz21_10 := blk_frozen BK355.out 10
                have hfz21_11 := blk_frozen BK355.out 11
                go_wp2_with (first | (go_at_call 18; (with_reducible refine (item_Right.calls kj1 _ _ l0_8 true _ ?side1 ?side2 A14.out).mono ?_); (case side1 => repeat (first | exact (Kd.C_below HR0_8.out HB.out) | (with_reducible refine Kd.C_alloc ?_ _) | (with_reducible refine Kd.C_drewN ?_ _) | (with_reducible refine Kd.C_drew ?_))); (case side2 => exact HC0_8.out); rintro e w22 ⟨rfl, hb⟩; have n0_ := Aside0.mk (blk_below (g := gb355) (o := .cells #[.int .i64 a0_0, .int .u8 a0_1, .int .u8 a0_2, .int .u32 a0_3, .int .u8 a0_4, .int .u8 a0_5, .slice A0_6 l0_6.length c0_6, .int .u32 a0_7, .slice A0_8 l0_8.length c0_8, .int .u8 a0_9, .bool a0_10, .slice A0_11 l0_11.length c0_11] 53 (0, 0)) (by (with_reducible repeat (first | refine blk_drewN ?_ _ | refine blk_drew ?_ | refine blk_alloc ?_ _)); exact BK355.out) hb); have n1_ := Aside0.mk (below_step (by repeat (first | (with_reducible first | exact HB.out | apply below_alloc | apply pw_below_drewN | apply below_drew1 | refine below_set ?_ GE355.out) | exact HB.out)) hb); clear BK355; clear HB; have BK355 := n0_; have HB := n1_; clear n0_ n1_; (try clear hb); (try clear hb2); (try clear hk); (try clear hi); have hcz23_0 : w22.cell? ⟨gb355, 0, none⟩ = some (.int .i64 a0_0) := (blk_cell BK355.out 0).trans rfl; have hcz23_1 : w22.cell? ⟨gb355, 1, none⟩ = some (.int .u8 a0_1) := (blk_cell BK355.out 1).trans rfl; have hcz23_2 : w22.cell? ⟨gb355, 2, none⟩ = some (.int .u8 a0_2) := (blk_cell BK355.out 2).trans rfl; have hcz23_3 : w22.cell? ⟨gb355, 3, none⟩ = some (.int .u32 a0_3) := (blk_cell BK355.out 3).trans rfl; have hcz23_4 : w22.cell? ⟨gb355, 4, none⟩ = some (.int .u8 a0_4) := (blk_cell BK355.out 4).trans rfl; have hcz23_5 : w22.cell? ⟨gb355, 5, none⟩ = some (.int .u8 a0_5) := (blk_cell BK355.out 5).trans rfl; have hcz23_6 : w22.cell? ⟨gb355, 6, none⟩ = some (.slice A0_6 l0_6.length c0_6) := (blk_cell BK355.out 6).trans rfl; have hcz23_7 : w22.cell? ⟨gb355, 7, none⟩ = some (.int .u32 a0_7) := (blk_cell BK355.out 7).trans rfl; have hcz23_8 : w22.cell? ⟨gb355, 8, none⟩ = some (.slice A0_8 l0_8.length c0_8) := (blk_cell BK355.out 8).trans rfl; have hcz23_9 : w22.cell? ⟨gb355, 9, none⟩ = some (.int .u8 a0_9) := (blk_cell BK355.out 9).trans rfl; have hcz23_10 : w22.cell? ⟨gb355, 10, none⟩ = some (.bool a0_10) := (blk_cell BK355.out 10).trans rfl; have hcz23_11 : w22.cell? ⟨gb355, 11, none⟩ = some (.slice A0_11 l0_11.length c0_11) := (blk_cell BK355.out 11).trans rfl; have hfz23_0 := blk_frozen BK355.out 0; have hfz23_1 := blk_frozen BK355.out 1; have hfz23_2 := blk_frozen BK355.out 2; have hfz23_3 := blk_frozen BK355.out 3; have hfz23_4 := blk_frozen BK355.out 4; have hfz23_5 := blk_frozen BK355.out 5; have hfz23_6 := blk_frozen BK355.out 6; have hfz23_7 := blk_frozen BK355.out 7; have hfz23_8 := blk_frozen BK355.out 8; have hfz23_9 := blk_frozen BK355.out 9; have hfz23_10 := blk_frozen BK355.out 10; have hfz23_11 := blk_frozen BK355.out 11) | (go_at_call 36; (with_reducible refine (know_Right.calls kj1 _ _ l0_11 t358 _ ?side1 ?side2 A20.out).mono ?_); (case side1 => repeat (first | exact (Kd.C_below HR0_11.out HB.out) | (with_reducible refine Kd.C_alloc ?_ _) | (with_reducible refine Kd.C_drewN ?_ _) | (with_reducible refine Kd.C_drew ?_))); (case side2 => exact HC0_11.out); rintro e w24 ⟨rfl, hb⟩; have n0_ := Aside0.mk (blk_below (g := gb355) (o := .cells #[.int .i64 a0_0, .int .u8 a0_1, .int .u8 a0_2, .int .u32 a0_3, .int .u8 a0_4, .int .u8 a0_5, .slice A0_6 l0_6.length c0_6, .int .u32 a0_7, .slice A0_8 l0_8.length c0_8, .int .u8 a0_9, .bool a0_10, .slice A0_11 l0_11.length c0_11] 53 (0, 0)) (by (with_reducible repeat (first | refine blk_drewN ?_ _ | refine blk_drew ?_ | refine blk_alloc ?_ _)); exact BK355.out) hb); have n1_ := Aside0.mk (below_step (by repeat (first | (with_reducible first | exact HB.out | apply below_alloc | apply pw_below_drewN | apply below_drew1 | refine below_set ?_ GE355.out) | exact HB.out)) hb); clear BK355; clear HB; have BK355 := n0_; have HB := n1_; clear n0_ n1_; (try clear hb); (try clear hb2); (try clear hk); (try clear hi)))
                repeat (go_quiet (first | (go_at_call 18; (with_reducible refine (item_Right.calls kj1 _ _ l0_8 true _ ?side1 ?side2 A14.out).mono ?_); (case side1 => repeat (first | exact (Kd.C_below HR0_8.out HB.out) | (with_reducible refine Kd.C_alloc ?_ _) | (with_reducible refine Kd.C_drewN ?_ _) | (with_reducible refine Kd.C_drew ?_))); (case side2 => exact HC0_8.out); rintro e w22 ⟨rfl, hb⟩; have n0_ := Aside0.mk (blk_below (g := gb355) (o := .cells #[.int .i64 a0_0, .int .u8 a0_1, .int .u8 a0_2, .int .u32 a0_3, .int .u8 a0_4, .int .u8 a0_5, .slice A0_6 l0_6.length c0_6, .int .u32 a0_7, .slice A0_8 l0_8.length c0_8, .int .u8 a0_9, .bool a0_10, .slice A0_11 l0_11.length c0_11] 53 (0, 0)) (by (with_reducible repeat (first | refine blk_drewN ?_ _ | refine blk_drew ?_ | refine blk_alloc ?_ _)); exact BK355.out) hb); have n1_ := Aside0.mk (below_step (by repeat (first | (with_reducible first | exact HB.out | apply below_alloc | apply pw_below_drewN | apply below_drew1 | refine below_set ?_ GE355.out) | exact HB.out)) hb); clear BK355; clear HB; have BK355 := n0_; have HB := n1_; clear n0_ n1_; (try clear hb); (try clear hb2); (try clear hk); (try clear hi); have hcz23_0 : w22.cell? ⟨gb355, 0, none⟩ = some (.int .i64 a0_0) := (blk_cell BK355.out 0).trans rfl; have hcz23_1 : w22.cell? ⟨gb355, 1, none⟩ = some (.int .u8 a0_1) := (blk_cell BK355.out 1).trans rfl; have hcz23_2 : w22.cell? ⟨gb355, 2, none⟩ = some (.int .u8 a0_2) := (blk_cell BK355.out 2).trans rfl; have hcz23_3 : w22.cell? ⟨gb355, 3, none⟩ = some (.int .u32 a0_3) := (blk_cell BK355.out 3).trans rfl; have hcz23_4 : w22.cell? ⟨gb355, 4, none⟩ = some (.int .u8 a0_4) := (blk_cell BK355.out 4).trans rfl; have hcz23_5 : w22.cell? ⟨gb355, 5, none⟩ = some (.int .u8 a0_5) := (blk_cell BK355.out 5).trans rfl; have hcz23_6 : w22.cell? ⟨gb355, 6, none⟩ = some (.slice A0_6 l0_6.length c0_6) := (blk_cell BK355.out 6).trans rfl; have hcz23_7 : w22.cell? ⟨gb355, 7, none⟩ = some (.int .u32 a0_7) := (blk_cell BK355.out 7).trans rfl; have hcz23_8 : w22.cell? ⟨gb355, 8, none⟩ = some (.slice A0_8 l0_8.length c0_8) := (blk_cell BK355.out 8).trans rfl; have hcz23_9 : w22.cell? ⟨gb355, 9, none⟩ = some (.int .u8 a0_9) := (blk_cell BK355.out 9).trans rfl; have hcz23_10 : w22.cell? ⟨gb355, 10, none⟩ = some (.bool a0_10) := (blk_cell BK355.out 10).trans rfl; have hcz23_11 : w22.cell? ⟨gb355, 11, none⟩ = some (.slice A0_11 l0_11.length c0_11) := (blk_cell BK355.out 11).trans rfl; have hfz23_0 := blk_frozen BK355.out 0; have hfz23_1 := blk_frozen BK355.out 1; have hfz23_2 := blk_frozen BK355.out 2; have hfz23_3 := blk_frozen BK355.out 3; have hfz23_4 := blk_frozen BK355.out 4; have hfz23_5 := blk_frozen BK355.out 5; have hfz23_6 := blk_frozen BK355.out 6; have hfz23_7 := blk_frozen BK355.out 7; have hfz23_8 := blk_frozen BK355.out 8; have hfz23_9 := blk_frozen BK355.out 9; have hfz23_10 := blk_frozen BK355.out 10; have hfz23_11 := blk_frozen BK355.out 11) | (go_at_call 36; (with_reducible refine (know_Right.calls kj1 _ _ l0_11 t358 _ ?side1 ?side2 A20.out).mono ?_); (case side1 => repeat (first | exact (Kd.C_below HR0_11.out HB.out) | (with_reducible refine Kd.C_alloc ?_ _) | (with_reducible refine Kd.C_drewN ?_ _) | (with_reducible refine Kd.C_drew ?_))); (case side2 => exact HC0_11.out); rintro e w24 ⟨rfl, hb⟩; have n0_ := Aside0.mk (blk_below (g := gb355) (o := .cells #[.int .i64 a0_0, .int .u8 a0_1, .int .u8 a0_2, .int .u32 a0_3, .int .u8 a0_4, .int .u8 a0_5, .slice A0_6 l0_6.length c0_6, .int .u32 a0_7, .slice A0_8 l0_8.length c0_8, .int .u8 a0_9, .bool a0_10, .slice A0_11 l0_11.length c0_11] 53 (0, 0)) (by (with_reducible repeat (first | refine blk_drewN ?_ _ | refine blk_drew ?_ | refine blk_alloc ?_ _)); exact BK355.out) hb); have n1_ := Aside0.mk (below_step (by repeat (first | (with_reducible first | exact HB.out | apply below_alloc | apply pw_below_drewN | apply below_drew1 | refine below_set ?_ GE355.out) | exact HB.out)) hb); clear BK355; clear HB; have BK355 := n0_; have HB := n1_; clear n0_ n1_; (try clear hb); (try clear hb2); (try clear hk); (try clear hi))); try go_wp2_with (first | (go_at_call 18; (with_reducible refine (item_Right.calls kj1 _ _ l0_8 true _ ?side1 ?side2 A14.out).mono ?_); (case side1 => repeat (first | exact (Kd.C_below HR0_8.out HB.out) | (with_reducible refine Kd.C_alloc ?_ _) | (with_reducible refine Kd.C_drewN ?_ _) | (with_reducible refine Kd.C_drew ?_))); (case side2 => exact HC0_8.out); rintro e w22 ⟨rfl, hb⟩; have n0_ := Aside0.mk (blk_below (g := gb355) (o := .cells #[.int .i64 a0_0, .int .u8 a0_1, .int .u8 a0_2, .int .u32 a0_3, .int .u8 a0_4, .int .u8 a0_5, .slice A0_6 l0_6.length c0_6, .int .u32 a0_7, .slice A0_8 l0_8.length c0_8, .int .u8 a0_9, .bool a0_10, .slice A0_11 l0_11.length c0_11] 53 (0, 0)) (by (with_reducible repeat (first | refine blk_drewN ?_ _ | refine blk_drew ?_ | refine blk_alloc ?_ _)); exact BK355.out) hb); have n1_ := Aside0.mk (below_step (by repeat (first | (with_reducible first | exact HB.out | apply below_alloc | apply pw_below_drewN | apply below_drew1 | refine below_set ?_ GE355.out) | exact HB.out)) hb); clear BK355; clear HB; have BK355 := n0_; have HB := n1_; clear n0_ n1_; (try clear hb); (try clear hb2); (try clear hk); (try clear hi); have hcz23_0 : w22.cell? ⟨gb355, 0, none⟩ = some (.int .i64 a0_0) := (blk_cell BK355.out 0).trans rfl; have hcz23_1 : w22.cell? ⟨gb355, 1, none⟩ = some (.int .u8 a0_1) := (blk_cell BK355.out 1).trans rfl; have hcz23_2 : w22.cell? ⟨gb355, 2, none⟩ = some (.int .u8 a0_2) := (blk_cell BK355.out 2).trans rfl; have hcz23_3 : w22.cell? ⟨gb355, 3, none⟩ = some (.int .u32 a0_3) := (blk_cell BK355.out 3).trans rfl; have hcz23_4 : w22.cell? ⟨gb355, 4, none⟩ = some (.int .u8 a0_4) := (blk_cell BK355.out 4).trans rfl; have hcz23_5 : w22.cell? ⟨gb355, 5, none⟩ = some (.int .u8 a0_5) := (blk_cell BK355.out 5).trans rfl; have hcz23_6 : w22.cell? ⟨gb355, 6, none⟩ = some (.slice A0_6 l0_6.length c0_6) := (blk_cell BK355.out 6).trans rfl; have hcz23_7 : w22.cell? ⟨gb355, 7, none⟩ = some (.int .u32 a0_7) := (blk_cell BK355.out 7).trans rfl; have hcz23_8 : w22.cell? ⟨gb355, 8, none⟩ = some (.slice A0_8 l0_8.length c0_8) := (blk_cell BK355.out 8).trans rfl; have hcz23_9 : w22.cell? ⟨gb355, 9, none⟩ = some (.int .u8 a0_9) := (blk_cell BK355.out 9).trans rfl; have hcz23_10 : w22.cell? ⟨gb355, 10, none⟩ = some (.bool a0_10) := (blk_cell BK355.out 10).trans rfl; have hcz23_11 : w22.cell? ⟨gb355, 11, none⟩ = some (.slice A0_11 l0_11.length c0_11) := (blk_cell BK355.out 11).trans rfl; have hfz23_0 := blk_frozen BK355.out 0; have hfz23_1 := blk_frozen BK355.out 1; have hfz23_2 := blk_frozen BK355.out 2; have hfz23_3 := blk_frozen BK355.out 3; have hfz23_4 := blk_frozen BK355.out 4; have hfz23_5 := blk_frozen BK355.out 5; have hfz23_6 := blk_frozen BK355.out 6; have hfz23_7 := blk_frozen BK355.out 7; have hfz23_8 := blk_frozen BK355.out 8; have hfz23_9 := blk_frozen BK355.out 9; have hfz23_10 := blk_frozen BK355.out 10; have hfz23_11 := blk_frozen BK355.out 11) | (go_at_call 36; (with_reducible refine (know_Right.calls kj1 _ _ l0_11 t358 _ ?side1 ?side2 A20.out).mono ?_); (case side1 => repeat (first | exact (Kd.C_below HR0_11.out HB.out) | (with_reducible refine Kd.C_alloc ?_ _) | (with_reducible refine Kd.C_drewN ?_ _) | (with_reducible refine Kd.C_drew ?_))); (case side2 => exact HC0_11.out); rintro e w24 ⟨rfl, hb⟩; have n0_ := Aside0.mk (blk_below (g := gb355) (o := .cells #[.int .i64 a0_0, .int .u8 a0_1, .int .u8 a0_2, .int .u32 a0_3, .int .u8 a0_4, .int .u8 a0_5, .slice A0_6 l0_6.length c0_6, .int .u32 a0_7, .slice A0_8 l0_8.length c0_8, .int .u8 a0_9, .bool a0_10, .slice A0_11 l0_11.length c0_11] 53 (0, 0)) (by (with_reducible repeat (first | refine blk_drewN ?_ _ | refine blk_drew ?_ | refine blk_alloc ?_ _)); exact BK355.out) hb); have n1_ := Aside0.mk (below_step (by repeat (first | (with_reducible first | exact HB.out | apply below_alloc | apply pw_below_drewN | apply below_drew1 | refine below_set ?_ GE355.out) | exact HB.out)) hb); clear BK355; clear HB; have BK355 := n0_; have HB := n1_; clear n0_ n1_; (try clear hb); (try clear hb2); (try clear hk); (try clear hi))))
                go_meet
                case rel => exact ⟨_, (!t358), (by first | rfl | (simp; done) | (simp [*]; done)), H', ⟨by have := HJ1.out; first | omega | exact Nat.le_refl _⟩, ⟨by (with_reducible repeat (first | refine blk_drewN ?_ _ | refine blk_drew ?_ | refine blk_alloc ?_ _)); exact BK355.out⟩, ⟨by repeat (first | (with_reducible first | exact HB.out | apply below_alloc | apply pw_below_drewN | apply below_drew1 | refine below_set ?_ GE355.out) | exact HB.out)⟩⟩
            · replace c15 := Bool.eq_false_iff.mpr c15
              subst c15
              have H1 : (note_batch.j1 kj1 x3_1 true a0_0 a0_1 a0_2 a0_3 a0_4 a0_5 l0_6 a0_7 l0_8 a0_9 a0_10 l0_11) = some r := by rw [if_neg (show ¬ (false = true) by decide)] at H; exact H
              clear H
              have H := H1
              clear H1
              have H' := Aside0.mk H
              clear H
              have hcz25_0 : wc.cell? ⟨gb355, 0, none⟩ = some (.int .i64 a0_0) := (blk_cell BK355.out 0).trans rfl
              have hcz25_1 : wc.cell? ⟨gb355, 1, none⟩ = some (.int .u8 a0_1) := (blk_cell BK355.out 1).trans rfl
              have hcz25_2 : wc.cell? ⟨gb355, 2, none⟩ = some (.int .u8 a0_2) := (blk_cell BK355.out 2).trans rfl
              have hcz25_3 : wc.cell? ⟨gb355, 3, none⟩ = some (.int .u32 a0_3) := (blk_cell BK355.out 3).trans rfl
              have hcz25_4 : wc.cell? ⟨gb355, 4, none⟩ = some (.int .u8 a0_4) := (blk_cell BK355.out 4).trans rfl
              have hcz25_5 : wc.cell? ⟨gb355, 5, none⟩ = some (.int .u8 a0_5) := (blk_cell BK355.out 5).trans rfl
              have hcz25_6 : wc.cell? ⟨gb355, 6, none⟩ = some (.slice A0_6 l0_6.length c0_6) := (blk_cell BK355.out 6).trans rfl
              have hcz25_7 : wc.cell? ⟨gb355, 7, none⟩ = some (.int .u32 a0_7) := (blk_cell BK355.out 7).trans rfl
              have hcz25_8 : wc.cell? ⟨gb355, 8, none⟩ = some (.slice A0_8 l0_8.length c0_8) := (blk_cell BK355.out 8).trans rfl
              have hcz25_9 : wc.cell? ⟨gb355, 9, none⟩ = some (.int .u8 a0_9) := (blk_cell BK355.out 9).trans rfl
              have hcz25_10 : wc.cell? ⟨gb355, 10, none⟩ = some (.bool a0_10) := (blk_cell BK355.out 10).trans rfl
              have hcz25_11 : wc.cell? ⟨gb355, 11, none⟩ = some (.slice A0_11 l0_11.length c0_11) := (blk_cell BK355.out 11).trans rfl
              have hfz25_0 := blk_frozen BK355.out 0
              have hfz25_1 := blk_frozen BK355.out 1
              have hfz25_2 := blk_frozen BK355.out 2
              have hfz25_3 := blk_frozen BK355.out 3
              have hfz25_4 := blk_frozen BK355.out 4
              have hfz25_5 := blk_frozen BK355.out 5
              have hfz25_6 := blk_frozen BK355.out 6
              have hfz25_7 := blk_frozen BK355.out 7
              have hfz25_8 := blk_frozen BK355.out 8
              have hfz25_9 := blk_frozen BK355.out 9
              have hfz25_10 := blk_frozen BK355.out 10
              have hfz25_11 := blk_frozen BK355.out 11
              go_wp2_with (first | (go_at_call 18; (with_reducible refine (item_Right.calls kj1 _ _ l0_8 false _ ?side1 ?side2 A14.out).mono ?_); (case side1 => repeat (first | exact (Kd.C_below HR0_8.out HB.out) | (with_reducible refine Kd.C_alloc ?_ _) | (with_reducible refine Kd.C_drewN ?_ _) | (with_reducible refine Kd.C_drew ?_))); (case side2 => exact HC0_8.out); rintro e w26 ⟨rfl, hb⟩; have n0_ := Aside0.mk (blk_below (g := gb355) (o := .cells #[.int .i64 a0_0, .int .u8 a0_1, .int .u8 a0_2, .int .u32 a0_3, .int .u8 a0_4, .int .u8 a0_5, .slice A0_6 l0_6.length c0_6, .int .u32 a0_7, .slice A0_8 l0_8.length c0_8, .int .u8 a0_9, .bool a0_10, .slice A0_11 l0_11.length c0_11] 53 (0, 0)) (by (with_reducible repeat (first | refine blk_drewN ?_ _ | refine blk_drew ?_ | refine blk_alloc ?_ _)); exact BK355.out) hb); have n1_ := Aside0.mk (below_step (by repeat (first | (with_reducible first | exact HB.out | apply below_alloc | apply pw_below_drewN | apply below_drew1 | refine below_set ?_ GE355.out) | exact HB.out)) hb); clear BK355; clear HB; have BK355 := n0_; have HB := n1_; clear n0_ n1_; (try clear hb); (try clear hb2); (try clear hk); (try clear hi)))
              repeat (go_quiet (first | (go_at_call 18; (with_reducible refine (item_Right.calls kj1 _ _ l0_8 false _ ?side1 ?side2 A14.out).mono ?_); (case side1 => repeat (first | exact (Kd.C_below HR0_8.out HB.out) | (with_reducible refine Kd.C_alloc ?_ _) | (with_reducible refine Kd.C_drewN ?_ _) | (with_reducible refine Kd.C_drew ?_))); (case side2 => exact HC0_8.out); rintro e w26 ⟨rfl, hb⟩; have n0_ := Aside0.mk (blk_below (g := gb355) (o := .cells #[.int .i64 a0_0, .int .u8 a0_1, .int .u8 a0_2, .int .u32 a0_3, .int .u8 a0_4, .int .u8 a0_5, .slice A0_6 l0_6.length c0_6, .int .u32 a0_7, .slice A0_8 l0_8.length c0_8, .int .u8 a0_9, .bool a0_10, .slice A0_11 l0_11.length c0_11] 53 (0, 0)) (by (with_reducible repeat (first | refine blk_drewN ?_ _ | refine blk_drew ?_ | refine blk_alloc ?_ _)); exact BK355.out) hb); have n1_ := Aside0.mk (below_step (by repeat (first | (with_reducible first | exact HB.out | apply below_alloc | apply pw_below_drewN | apply below_drew1 | refine below_set ?_ GE355.out) | exact HB.out)) hb); clear BK355; clear HB; have BK355 := n0_; have HB := n1_; clear n0_ n1_; (try clear hb); (try clear hb2); (try clear hk); (try clear hi))); try go_wp2_with (first | (go_at_call 18; (with_reducible refine (item_Right.calls kj1 _ _ l0_8 false _ ?side1 ?side2 A14.out).mono ?_); (case side1 => repeat (first | exact (Kd.C_below HR0_8.out HB.out) | (with_reducible refine Kd.C_alloc ?_ _) | (with_reducible refine Kd.C_drewN ?_ _) | (with_reducible refine Kd.C_drew ?_))); (case side2 => exact HC0_8.out); rintro e w26 ⟨rfl, hb⟩; have n0_ := Aside0.mk (blk_below (g := gb355) (o := .cells #[.int .i64 a0_0, .int .u8 a0_1, .int .u8 a0_2, .int .u32 a0_3, .int .u8 a0_4, .int .u8 a0_5, .slice A0_6 l0_6.length c0_6, .int .u32 a0_7, .slice A0_8 l0_8.length c0_8, .int .u8 a0_9, .bool a0_10, .slice A0_11 l0_11.length c0_11] 53 (0, 0)) (by (with_reducible repeat (first | refine blk_drewN ?_ _ | refine blk_drew ?_ | refine blk_alloc ?_ _)); exact BK355.out) hb); have n1_ := Aside0.mk (below_step (by repeat (first | (with_reducible first | exact HB.out | apply below_alloc | apply pw_below_drewN | apply below_drew1 | refine below_set ?_ GE355.out) | exact HB.out)) hb); clear BK355; clear HB; have BK355 := n0_; have HB := n1_; clear n0_ n1_; (try clear hb); (try clear hb2); (try clear hk); (try clear hi))))
              go_meet
              case rel => exact ⟨_, (true), (by first | rfl | (simp; done) | (simp [*]; done)), H', ⟨by have := HJ1.out; first | omega | exact Nat.le_refl _⟩, ⟨by (with_reducible repeat (first | refine blk_drewN ?_ _ | refine blk_drew ?_ | refine blk_alloc ?_ _)); exact BK355.out⟩, ⟨by repeat (first | (with_reducible first | exact HB.out | apply below_alloc | apply pw_below_drewN | apply below_drew1 | refine below_set ?_ GE355.out) | exact HB.out)⟩⟩
        · rw [if_neg c11] at H
          have c11b0 : (a0_5 == 0) = false := beq_eq_false_iff_ne.mpr c11
          have c11b1 : (a0_5 != 0) = true := bne_iff_ne.mpr c11
          (first | rw [c11b0] | (simp only [i64_w, i32_w]; rw [c11b0]) | skip)
          have H' := Aside0.mk H
          clear H
          have hcz27_0 : wc.cell? ⟨gb355, 0, none⟩ = some (.int .i64 a0_0) := (blk_cell BK355.out 0).trans rfl
          have hcz27_1 : wc.cell? ⟨gb355, 1, none⟩ = some (.int .u8 a0_1) := (blk_cell BK355.out 1).trans rfl
          have hcz27_2 : wc.cell? ⟨gb355, 2, none⟩ = some (.int .u8 a0_2) := (blk_cell BK355.out 2).trans rfl
          have hcz27_3 : wc.cell? ⟨gb355, 3, none⟩ = some (.int .u32 a0_3) := (blk_cell BK355.out 3).trans rfl
          have hcz27_4 : wc.cell? ⟨gb355, 4, none⟩ = some (.int .u8 a0_4) := (blk_cell BK355.out 4).trans rfl
          have hcz27_5 : wc.cell? ⟨gb355, 5, none⟩ = some (.int .u8 a0_5) := (blk_cell BK355.out 5).trans rfl
          have hcz27_6 : wc.cell? ⟨gb355, 6, none⟩ = some (.slice A0_6 l0_6.length c0_6) := (blk_cell BK355.out 6).trans rfl
          have hcz27_7 : wc.cell? ⟨gb355, 7, none⟩ = some (.int .u32 a0_7) := (blk_cell BK355.out 7).trans rfl
          have hcz27_8 : wc.cell? ⟨gb355, 8, none⟩ = some (.slice A0_8 l0_8.length c0_8) := (blk_cell BK355.out 8).trans rfl
          have hcz27_9 : wc.cell? ⟨gb355, 9, none⟩ = some (.int .u8 a0_9) := (blk_cell BK355.out 9).trans rfl
          have hcz27_10 : wc.cell? ⟨gb355, 10, none⟩ = some (.bool a0_10) := (blk_cell BK355.out 10).trans rfl
          have hcz27_11 : wc.cell? ⟨gb355, 11, none⟩ = some (.slice A0_11 l0_11.length c0_11) := (blk_cell BK355.out 11).trans rfl
          have hfz27_0 := blk_frozen BK355.out 0
          have hfz27_1 := blk_frozen BK355.out 1
          have hfz27_2 := blk_frozen BK355.out 2
          have hfz27_3 := blk_frozen BK355.out 3
          have hfz27_4 := blk_frozen BK355.out 4
          have hfz27_5 := blk_frozen BK355.out 5
          have hfz27_6 := blk_frozen BK355.out 6
          have hfz27_7 := blk_frozen BK355.out 7
          have hfz27_8 := blk_frozen BK355.out 8
          have hfz27_9 := blk_frozen BK355.out 9
          have hfz27_10 := blk_frozen BK355.out 10
          have hfz27_11 := blk_frozen BK355.out 11
          go_wp2
          repeat (go_quiet (fail); try go_wp2)
          go_meet
          case rel => exact ⟨_, (true), (by first | rfl | (simp; done) | (simp [*]; done)), H', ⟨by have := HJ1.out; first | omega | exact Nat.le_refl _⟩, ⟨by (with_reducible repeat (first | refine blk_drewN ?_ _ | refine blk_drew ?_ | refine blk_alloc ?_ _)); exact BK355.out⟩, ⟨by repeat (first | (with_reducible first | exact HB.out | apply below_alloc | apply pw_below_drewN | apply below_drew1 | refine below_set ?_ GE355.out) | exact HB.out)⟩⟩
      case rest =>
        clear HC10
        try clear c1
        try clear p2
        try clear p3
        try clear q3
        try clear hx3
        try clear c5
        try clear c5b0
        try clear c5b1
        try clear p6
        try clear c7
        try clear c7b0
        try clear c8
        try clear c8b0
        try clear c11
        try clear c11b0
        try clear c11b1
        try clear c12
        try clear c12b0
        try clear c12b1
        try clear c15
        try clear c16
        try clear c16b0
        try clear c16b1
        try clear hcz13_0
        try clear hcz13_1
        try clear hcz13_10
        try clear hcz13_11
        try clear hcz13_2
        try clear hcz13_3
        try clear hcz13_4
        try clear hcz13_5
        try clear hcz13_6
        try clear hcz13_7
        try clear hcz13_8
        try clear hcz13_9
        try clear hcz17_0
        try clear hcz17_1
        try clear hcz17_10
        try clear hcz17_11
        try clear hcz17_2
        try clear hcz17_3
        try clear hcz17_4
        try clear hcz17_5
        try clear hcz17_6
        try clear hcz17_7
        try clear hcz17_8
        try clear hcz17_9
        try clear hcz19_0
        try clear hcz19_1
        try clear hcz19_10
        try clear hcz19_11
        try clear hcz19_2
        try clear hcz19_3
        try clear hcz19_4
        try clear hcz19_5
        try clear hcz19_6
        try clear hcz19_7
        try clear hcz19_8
        try clear hcz19_9
        try clear hcz21_0
        try clear hcz21_1
        try clear hcz21_10
        try clear hcz21_11
        try clear hcz21_2
        try clear hcz21_3
        try clear hcz21_4
        try clear hcz21_5
        try clear hcz21_6
        try clear hcz21_7
        try clear hcz21_8
        try clear hcz21_9
        try clear hcz23_0
        try clear hcz23_1
        try clear hcz23_10
        try clear hcz23_11
        try clear hcz23_2
        try clear hcz23_3
        try clear hcz23_4
        try clear hcz23_5
        try clear hcz23_6
        try clear hcz23_7
        try clear hcz23_8
        try clear hcz23_9
        try clear hcz25_0
        try clear hcz25_1
        try clear hcz25_10
        try clear hcz25_11
        try clear hcz25_2
        try clear hcz25_3
        try clear hcz25_4
        try clear hcz25_5
        try clear hcz25_6
        try clear hcz25_7
        try clear hcz25_8
        try clear hcz25_9
        try clear hcz27_0
        try clear hcz27_1
        try clear hcz27_10
        try clear hcz27_11
        try clear hcz27_2
        try clear hcz27_3
        try clear hcz27_4
        try clear hcz27_5
        try clear hcz27_6
        try clear hcz27_7
        try clear hcz27_8
        try clear hcz27_9
        try clear hcz4_0
        try clear hcz4_1
        try clear hcz4_10
        try clear hcz4_11
        try clear hcz4_2
        try clear hcz4_3
        try clear hcz4_4
        try clear hcz4_5
        try clear hcz4_6
        try clear hcz4_7
        try clear hcz4_8
        try clear hcz4_9
        try clear hcz9_0
        try clear hcz9_1
        try clear hcz9_10
        try clear hcz9_11
        try clear hcz9_2
        try clear hcz9_3
        try clear hcz9_4
        try clear hcz9_5
        try clear hcz9_6
        try clear hcz9_7
        try clear hcz9_8
        try clear hcz9_9
        try clear hfz13_0
        try clear hfz13_1
        try clear hfz13_10
        try clear hfz13_11
        try clear hfz13_2
        try clear hfz13_3
        try clear hfz13_4
        try clear hfz13_5
        try clear hfz13_6
        try clear hfz13_7
        try clear hfz13_8
        try clear hfz13_9
        try clear hfz17_0
        try clear hfz17_1
        try clear hfz17_10
        try clear hfz17_11
        try clear hfz17_2
        try clear hfz17_3
        try clear hfz17_4
        try clear hfz17_5
        try clear hfz17_6
        try clear hfz17_7
        try clear hfz17_8
        try clear hfz17_9
        try clear hfz19_0
        try clear hfz19_1
        try clear hfz19_10
        try clear hfz19_11
        try clear hfz19_2
        try clear hfz19_3
        try clear hfz19_4
        try clear hfz19_5
        try clear hfz19_6
        try clear hfz19_7
        try clear hfz19_8
        try clear hfz19_9
        try clear hfz21_0
        try clear hfz21_1
        try clear hfz21_10
        try clear hfz21_11
        try clear hfz21_2
        try clear hfz21_3
        try clear hfz21_4
        try clear hfz21_5
        try clear hfz21_6
        try clear hfz21_7
        try clear hfz21_8
        try clear hfz21_9
        try clear hfz23_0
        try clear hfz23_1
        try clear hfz23_10
        try clear hfz23_11
        try clear hfz23_2
        try clear hfz23_3
        try clear hfz23_4
        try clear hfz23_5
        try clear hfz23_6
        try clear hfz23_7
        try clear hfz23_8
        try clear hfz23_9
        try clear hfz25_0
        try clear hfz25_1
        try clear hfz25_10
        try clear hfz25_11
        try clear hfz25_2
        try clear hfz25_3
        try clear hfz25_4
        try clear hfz25_5
        try clear hfz25_6
        try clear hfz25_7
        try clear hfz25_8
        try clear hfz25_9
        try clear hfz27_0
        try clear hfz27_1
        try clear hfz27_10
        try clear hfz27_11
        try clear hfz27_2
        try clear hfz27_3
        try clear hfz27_4
        try clear hfz27_5
        try clear hfz27_6
        try clear hfz27_7
        try clear hfz27_8
        try clear hfz27_9
        try clear hfz4_0
        try clear hfz4_1
        try clear hfz4_10
        try clear hfz4_11
        try clear hfz4_2
        try clear hfz4_3
        try clear hfz4_4
        try clear hfz4_5
        try clear hfz4_6
        try clear hfz4_7
        try clear hfz4_8
        try clear hfz4_9
        try clear hfz9_0
        try clear hfz9_1
        try clear hfz9_10
        try clear hfz9_11
        try clear hfz9_2
        try clear hfz9_3
        try clear hfz9_4
        try clear hfz9_5
        try clear hfz9_6
        try clear hfz9_7
        try clear hfz9_8
        try clear hfz9_9
        try clear hx356_0
        try clear hx356_1
        try clear hx356_2
        try clear hx356_3
        try clear hx356_4
        try clear hx356_5
        try clear hx356_6
        try clear p2
        try clear p3
        try clear p356
        try clear p6
        try clear q3
        try clear q356
        obtain ⟨kq, x20_9, rfl, HA, HJ9, BK355, HB⟩ := hcut
        cases kq with
        | zero => exact absurd HA.out (by simp [note_batch.j1])
        | succ kj9 =>
          have H := HA.out
          clear HA
          simp only [note_batch.j1] at H
          by_cases c28 : x20_9 = true
          · subst c28
            have H1 : (some false) = some r := by rw [if_pos rfl] at H; exact H
            clear H
            have H := H1
            clear H1
            obtain rfl := Option.some.inj H
            go_wp2
            repeat (go_quiet (fail); try go_wp2)
            go_ret
            exact ⟨by first | rfl | (simp [errW_none, errW_some] <;> rfl) | (simp [*, errW_none, errW_some] <;> rfl), by repeat (first | (with_reducible first | exact HB.out | apply below_alloc | apply pw_below_drewN | apply below_drew1 | refine below_set ?_ GE355.out) | exact HB.out)⟩
          · replace c28 := Bool.eq_false_iff.mpr c28
            subst c28
            have H1 : (if (l0_8.length : Int) > 0 then (if 0 < (l0_8.length : Int) then (if ((rd_T27 l0_8 0).f0) < a0_4 then (note_batch.j2 kj9 true a0_0 a0_1 a0_2 a0_3 a0_4 a0_5 l0_6 a0_7 l0_8 a0_9 a0_10 l0_11) else (note_batch.j2 kj9 (a0_9 != x3_1) a0_0 a0_1 a0_2 a0_3 a0_4 a0_5 l0_6 a0_7 l0_8 a0_9 a0_10 l0_11)) else (none)) else (note_batch.j2 kj9 (a0_9 != x3_1) a0_0 a0_1 a0_2 a0_3 a0_4 a0_5 l0_6 a0_7 l0_8 a0_9 a0_10 l0_11)) = some r := by rw [if_neg (show ¬ (false = true) by decide)] at H; exact H
            clear H
            have H := H1
            clear H1
            have HC29 := Aside0.mk H
            clear H
            go_upto_region 7 with (fail)
            repeat (go_quiet (fail); go_upto_region 7 with (fail))
            go_cut [48] (fun v48 wc => ∃ (kq : Nat) (x48_28 : Bool), v48 = .bool x48_28 ∧ Aside0 (note_batch.j2 kq x48_28 a0_0 a0_1 a0_2 a0_3 a0_4 a0_5 l0_6 a0_7 l0_8 a0_9 a0_10 l0_11 = some r) ∧ Aside0 (kq ≤ kj9) ∧ Aside0 (wc.heap[gb355]? = some (.cells #[.int .i64 a0_0, .int .u8 a0_1, .int .u8 a0_2, .int .u32 a0_3, .int .u8 a0_4, .int .u8 a0_5, (.slice A0_6 l0_6.length c0_6), .int .u32 a0_7, (.slice A0_8 l0_8.length c0_8), .int .u8 a0_9, .bool a0_10, (.slice A0_11 l0_11.length c0_11)] 53 (0, 0))) ∧ Aside0 (Below w.heap.size w wc))
            case first =>
              have H := HC29.out
              clear HC29
              by_cases c30 : (l0_8.length : Int) > 0
              · rw [if_pos c30] at H
                have c30b0 : decide (0 < (l0_8.length : Int)) = true := decide_eq_true c30
                have c30b1 : decide (0 < l0_8.length) = true := decide_eq_true (by omega)
                clear c30
                (first | rw [c30b0] | (simp only [i64_w, i32_w]; rw [c30b0]) | skip)
                by_cases c31 : 0 < (l0_8.length : Int)
                · rw [if_pos c31] at H
                  have c31b0 : decide (0 < (l0_8.length : Int)) = true := decide_eq_true c31
                  have c31b1 : decide (0 < l0_8.length) = true := decide_eq_true (by omega)
                  clear c31
                  by_cases c32 : ((rd_T27 l0_8 0).f0) < a0_4
                  · rw [if_pos c32] at H
                    have c32b0 : decide (((rd_T27 l0_8 0).f0) < a0_4) = true := decide_eq_true c32
                    clear c32
                    have H' := Aside0.mk H
                    clear H
                    have hcz33_0 : wc.cell? ⟨gb355, 0, none⟩ = some (.int .i64 a0_0) := (blk_cell BK355.out 0).trans rfl
                    have hcz33_1 : wc.cell? ⟨gb355, 1, none⟩ = some (.int .u8 a0_1) := (blk_cell BK355.out 1).trans rfl
                    have hcz33_2 : wc.cell? ⟨gb355, 2, none⟩ = some (.int .u8 a0_2) := (blk_cell BK355.out 2).trans rfl
                    have hcz33_3 : wc.cell? ⟨gb355, 3, none⟩ = some (.int .u32 a0_3) := (blk_cell BK355.out 3).trans rfl
                    have hcz33_4 : wc.cell? ⟨gb355, 4, none⟩ = some (.int .u8 a0_4) := (blk_cell BK355.out 4).trans rfl
                    have hcz33_5 : wc.cell? ⟨gb355, 5, none⟩ = some (.int .u8 a0_5) := (blk_cell BK355.out 5).trans rfl
                    have hcz33_6 : wc.cell? ⟨gb355, 6, none⟩ = some (.slice A0_6 l0_6.length c0_6) := (blk_cell BK355.out 6).trans rfl
                    have hcz33_7 : wc.cell? ⟨gb355, 7, none⟩ = some (.int .u32 a0_7) := (blk_cell BK355.out 7).trans rfl
                    have hcz33_8 : wc.cell? ⟨gb355, 8, none⟩ = some (.slice A0_8 l0_8.length c0_8) := (blk_cell BK355.out 8).trans rfl
                    have hcz33_9 : wc.cell? ⟨gb355, 9, none⟩ = some (.int .u8 a0_9) := (blk_cell BK355.out 9).trans rfl
                    have hcz33_10 : wc.cell? ⟨gb355, 10, none⟩ = some (.bool a0_10) := (blk_cell BK355.out 10).trans rfl
                    have hcz33_11 : wc.cell? ⟨gb355, 11, none⟩ = some (.slice A0_11 l0_11.length c0_11) := (blk_cell BK355.out 11).trans rfl
                    have hfz33_0 := blk_frozen BK355.out 0
                    have hfz33_1 := blk_frozen BK355.out 1
                    have hfz33_2 := blk_frozen BK355.out 2
                    have hfz33_3 := blk_frozen BK355.out 3
                    have hfz33_4 := blk_frozen BK355.out 4
                    have hfz33_5 := blk_frozen BK355.out 5
                    have hfz33_6 := blk_frozen BK355.out 6
                    have hfz33_7 := blk_frozen BK355.out 7
                    have hfz33_8 := blk_frozen BK355.out 8
                    have hfz33_9 := blk_frozen BK355.out 9
                    have hfz33_10 := blk_frozen BK355.out 10
                    have hfz33_11 := blk_frozen BK355.out 11
                    have p359 : 0 ≤ (0 : Int) := (by omega)
                    have q359 : 0 < (l0_8.length : Int) := of_decide_eq_true (by first | (with_reducible assumption) | assumption)
                    obtain ⟨ad359, e359, hx359_0, hx359_1, hx359_2, hx359_3, hx359_4, hx359_5, hx359_6⟩ := at_T27 HR0_8.out 0 p359 q359
                    cases e359
                    have qi359 : (0 < l0_8.length) = True := eq_true (by omega)
                    (try rw [show ((0 : Int)).toNat = 0 from rfl] at hx359_0)
                    (try rw [show 0 * 7 = 0 from rfl] at hx359_0)
                    (try rw [Addr.add_zero'] at hx359_0)
                    (try rw [show ((0 : Int)).toNat = 0 from rfl] at hx359_1)
                    (try rw [show 0 * 7 = 0 from rfl] at hx359_1)
                    (try rw [Addr.add_zero'] at hx359_1)
                    (try rw [show ((0 : Int)).toNat = 0 from rfl] at hx359_2)
                    (try rw [show 0 * 7 = 0 from rfl] at hx359_2)
                    (try rw [Addr.add_zero'] at hx359_2)
                    (try rw [show ((0 : Int)).toNat = 0 from rfl] at hx359_3)
                    (try rw [show 0 * 7 = 0 from rfl] at hx359_3)
                    (try rw [Addr.add_zero'] at hx359_3)
                    (try rw [show ((0 : Int)).toNat = 0 from rfl] at hx359_4)
                    (try rw [show 0 * 7 = 0 from rfl] at hx359_4)
                    (try rw [Addr.add_zero'] at hx359_4)
                    (try rw [show ((0 : Int)).toNat = 0 from rfl] at hx359_5)
                    (try rw [show 0 * 7 = 0 from rfl] at hx359_5)
                    (try rw [Addr.add_zero'] at hx359_5)
                    (try rw [show ((0 : Int)).toNat = 0 from rfl] at hx359_6)
                    (try rw [show 0 * 7 = 0 from rfl] at hx359_6)
                    (try rw [Addr.add_zero'] at hx359_6)
                    replace hx359_0 := (HB.out.cell (World.block_lt_of_cell? w _ hx359_0)).trans hx359_0
                    replace hx359_1 := (HB.out.cell (World.block_lt_of_cell? w _ hx359_1)).trans hx359_1
                    replace hx359_2 := (HB.out.cell (World.block_lt_of_cell? w _ hx359_2)).trans hx359_2
                    replace hx359_3 := (HB.out.cell (World.block_lt_of_cell? w _ hx359_3)).trans hx359_3
                    replace hx359_4 := (HB.out.cell (World.block_lt_of_cell? w _ hx359_4)).trans hx359_4
                    replace hx359_5 := (HB.out.cell (World.block_lt_of_cell? w _ hx359_5)).trans hx359_5
                    replace hx359_6 := (HB.out.cell (World.block_lt_of_cell? w _ hx359_6)).trans hx359_6
                    replace p359 := eq_true p359
                    replace q359 := eq_true q359
                    go_wp2
                    repeat (go_quiet (fail); try go_wp2)
                    go_meet
                    case rel => exact ⟨_, (true), (by first | rfl | (simp; done) | (simp [*]; done)), H', ⟨by have := HJ1.out; have := HJ9.out; first | omega | exact Nat.le_refl _⟩, ⟨by (with_reducible repeat (first | refine blk_drewN ?_ _ | refine blk_drew ?_ | refine blk_alloc ?_ _)); exact BK355.out⟩, ⟨by repeat (first | (with_reducible first | exact HB.out | apply below_alloc | apply pw_below_drewN | apply below_drew1 | refine below_set ?_ GE355.out) | exact HB.out)⟩⟩
                  · rw [if_neg c32] at H
                    have c32b0 : decide (((rd_T27 l0_8 0).f0) < a0_4) = false := decide_eq_false c32
                    clear c32
                    have H' := Aside0.mk H
                    clear H
                    have hcz34_0 : wc.cell? ⟨gb355, 0, none⟩ = some (.int .i64 a0_0) := (blk_cell BK355.out 0).trans rfl
                    have hcz34_1 : wc.cell? ⟨gb355, 1, none⟩ = some (.int .u8 a0_1) := (blk_cell BK355.out 1).trans rfl
                    have hcz34_2 : wc.cell? ⟨gb355, 2, none⟩ = some (.int .u8 a0_2) := (blk_cell BK355.out 2).trans rfl
                    have hcz34_3 : wc.cell? ⟨gb355, 3, none⟩ = some (.int .u32 a0_3) := (blk_cell BK355.out 3).trans rfl
                    have hcz34_4 : wc.cell? ⟨gb355, 4, none⟩ = some (.int .u8 a0_4) := (blk_cell BK355.out 4).trans rfl
                    have hcz34_5 : wc.cell? ⟨gb355, 5, none⟩ = some (.int .u8 a0_5) := (blk_cell BK355.out 5).trans rfl
                    have hcz34_6 : wc.cell? ⟨gb355, 6, none⟩ = some (.slice A0_6 l0_6.length c0_6) := (blk_cell BK355.out 6).trans rfl
                    have hcz34_7 : wc.cell? ⟨gb355, 7, none⟩ = some (.int .u32 a0_7) := (blk_cell BK355.out 7).trans rfl
                    have hcz34_8 : wc.cell? ⟨gb355, 8, none⟩ = some (.slice A0_8 l0_8.length c0_8) := (blk_cell BK355.out 8).trans rfl
                    have hcz34_9 : wc.cell? ⟨gb355, 9, none⟩ = some (.int .u8 a0_9) := (blk_cell BK355.out 9).trans rfl
                    have hcz34_10 : wc.cell? ⟨gb355, 10, none⟩ = some (.bool a0_10) := (blk_cell BK355.out 10).trans rfl
                    have hcz34_11 : wc.cell? ⟨gb355, 11, none⟩ = some (.slice A0_11 l0_11.length c0_11) := (blk_cell BK355.out 11).trans rfl
                    have hfz34_0 := blk_frozen BK355.out 0
                    have hfz34_1 := blk_frozen BK355.out 1
                    have hfz34_2 := blk_frozen BK355.out 2
                    have hfz34_3 := blk_frozen BK355.out 3
                    have hfz34_4 := blk_frozen BK355.out 4
                    have hfz34_5 := blk_frozen BK355.out 5
                    have hfz34_6 := blk_frozen BK355.out 6
                    have hfz34_7 := blk_frozen BK355.out 7
                    have hfz34_8 := blk_frozen BK355.out 8
                    have hfz34_9 := blk_frozen BK355.out 9
                    have hfz34_10 := blk_frozen BK355.out 10
                    have hfz34_11 := blk_frozen BK355.out 11
                    have p359 : 0 ≤ (0 : Int) := (by omega)
                    have q359 : 0 < (l0_8.length : Int) := of_decide_eq_true (by first | (with_reducible assumption) | assumption)
                    obtain ⟨ad359, e359, hx359_0, hx359_1, hx359_2, hx359_3, hx359_4, hx359_5, hx359_6⟩ := at_T27 HR0_8.out 0 p359 q359
                    cases e359
                    have qi359 : (0 < l0_8.length) = True := eq_true (by omega)
                    (try rw [show ((0 : Int)).toNat = 0 from rfl] at hx359_0)
                    (try rw [show 0 * 7 = 0 from rfl] at hx359_0)
                    (try rw [Addr.add_zero'] at hx359_0)
                    (try rw [show ((0 : Int)).toNat = 0 from rfl] at hx359_1)
                    (try rw [show 0 * 7 = 0 from rfl] at hx359_1)
                    (try rw [Addr.add_zero'] at hx359_1)
                    (try rw [show ((0 : Int)).toNat = 0 from rfl] at hx359_2)
                    (try rw [show 0 * 7 = 0 from rfl] at hx359_2)
                    (try rw [Addr.add_zero'] at hx359_2)
                    (try rw [show ((0 : Int)).toNat = 0 from rfl] at hx359_3)
                    (try rw [show 0 * 7 = 0 from rfl] at hx359_3)
                    (try rw [Addr.add_zero'] at hx359_3)
                    (try rw [show ((0 : Int)).toNat = 0 from rfl] at hx359_4)
                    (try rw [show 0 * 7 = 0 from rfl] at hx359_4)
                    (try rw [Addr.add_zero'] at hx359_4)
                    (try rw [show ((0 : Int)).toNat = 0 from rfl] at hx359_5)
                    (try rw [show 0 * 7 = 0 from rfl] at hx359_5)
                    (try rw [Addr.add_zero'] at hx359_5)
                    (try rw [show ((0 : Int)).toNat = 0 from rfl] at hx359_6)
                    (try rw [show 0 * 7 = 0 from rfl] at hx359_6)
                    (try rw [Addr.add_zero'] at hx359_6)
                    replace hx359_0 := (HB.out.cell (World.block_lt_of_cell? w _ hx359_0)).trans hx359_0
                    replace hx359_1 := (HB.out.cell (World.block_lt_of_cell? w _ hx359_1)).trans hx359_1
                    replace hx359_2 := (HB.out.cell (World.block_lt_of_cell? w _ hx359_2)).trans hx359_2
                    replace hx359_3 := (HB.out.cell (World.block_lt_of_cell? w _ hx359_3)).trans hx359_3
                    replace hx359_4 := (HB.out.cell (World.block_lt_of_cell? w _ hx359_4)).trans hx359_4
                    replace hx359_5 := (HB.out.cell (World.block_lt_of_cell? w _ hx359_5)).trans hx359_5
                    replace hx359_6 := (HB.out.cell (World.block_lt_of_cell? w _ hx359_6)).trans hx359_6
                    replace p359 := eq_true p359
                    replace q359 := eq_true q359
                    go_wp2
                    repeat (go_quiet (fail); try go_wp2)
                    go_meet
                    case rel => exact ⟨_, ((a0_9 != x3_1)), (by first | rfl | (simp; done) | (simp [*]; done)), H', ⟨by have := HJ1.out; have := HJ9.out; first | omega | exact Nat.le_refl _⟩, ⟨by (with_reducible repeat (first | refine blk_drewN ?_ _ | refine blk_drew ?_ | refine blk_alloc ?_ _)); exact BK355.out⟩, ⟨by repeat (first | (with_reducible first | exact HB.out | apply below_alloc | apply pw_below_drewN | apply below_drew1 | refine below_set ?_ GE355.out) | exact HB.out)⟩⟩
                · rw [if_neg c31] at H
                  exact absurd H (by simp)
              · rw [if_neg c30] at H
                have c30b0 : decide (0 < (l0_8.length : Int)) = false := decide_eq_false c30
                have c30b1 : decide (0 < l0_8.length) = false := decide_eq_false (by omega)
                clear c30
                (first | rw [c30b0] | (simp only [i64_w, i32_w]; rw [c30b0]) | skip)
                have H' := Aside0.mk H
                clear H
                have hcz35_0 : wc.cell? ⟨gb355, 0, none⟩ = some (.int .i64 a0_0) := (blk_cell BK355.out 0).trans rfl
                have hcz35_1 : wc.cell? ⟨gb355, 1, none⟩ = some (.int .u8 a0_1) := (blk_cell BK355.out 1).trans rfl
                have hcz35_2 : wc.cell? ⟨gb355, 2, none⟩ = some (.int .u8 a0_2) := (blk_cell BK355.out 2).trans rfl
                have hcz35_3 : wc.cell? ⟨gb355, 3, none⟩ = some (.int .u32 a0_3) := (blk_cell BK355.out 3).trans rfl
                have hcz35_4 : wc.cell? ⟨gb355, 4, none⟩ = some (.int .u8 a0_4) := (blk_cell BK355.out 4).trans rfl
                have hcz35_5 : wc.cell? ⟨gb355, 5, none⟩ = some (.int .u8 a0_5) := (blk_cell BK355.out 5).trans rfl
                have hcz35_6 : wc.cell? ⟨gb355, 6, none⟩ = some (.slice A0_6 l0_6.length c0_6) := (blk_cell BK355.out 6).trans rfl
                have hcz35_7 : wc.cell? ⟨gb355, 7, none⟩ = some (.int .u32 a0_7) := (blk_cell BK355.out 7).trans rfl
                have hcz35_8 : wc.cell? ⟨gb355, 8, none⟩ = some (.slice A0_8 l0_8.length c0_8) := (blk_cell BK355.out 8).trans rfl
                have hcz35_9 : wc.cell? ⟨gb355, 9, none⟩ = some (.int .u8 a0_9) := (blk_cell BK355.out 9).trans rfl
                have hcz35_10 : wc.cell? ⟨gb355, 10, none⟩ = some (.bool a0_10) := (blk_cell BK355.out 10).trans rfl
                have hcz35_11 : wc.cell? ⟨gb355, 11, none⟩ = some (.slice A0_11 l0_11.length c0_11) := (blk_cell BK355.out 11).trans rfl
                have hfz35_0 := blk_frozen BK355.out 0
                have hfz35_1 := blk_frozen BK355.out 1
                have hfz35_2 := blk_frozen BK355.out 2
                have hfz35_3 := blk_frozen BK355.out 3
                have hfz35_4 := blk_frozen BK355.out 4
                have hfz35_5 := blk_frozen BK355.out 5
                have hfz35_6 := blk_frozen BK355.out 6
                have hfz35_7 := blk_frozen BK355.out 7
                have hfz35_8 := blk_frozen BK355.out 8
                have hfz35_9 := blk_frozen BK355.out 9
                have hfz35_10 := blk_frozen BK355.out 10
                have hfz35_11 := blk_frozen BK355.out 11
                go_wp2
                repeat (go_quiet (fail); try go_wp2)
                go_meet
                case rel => exact ⟨_, ((a0_9 != x3_1)), (by first | rfl | (simp; done) | (simp [*]; done)), H', ⟨by have := HJ1.out; have := HJ9.out; first | omega | exact Nat.le_refl _⟩, ⟨by (with_reducible repeat (first | refine blk_drewN ?_ _ | refine blk_drew ?_ | refine blk_alloc ?_ _)); exact BK355.out⟩, ⟨by repeat (first | (with_reducible first | exact HB.out | apply below_alloc | apply pw_below_drewN | apply below_drew1 | refine below_set ?_ GE355.out) | exact HB.out)⟩⟩
            case rest =>
              clear HC29
              try clear c1
              try clear c2
              try clear p2
              try clear c3
              try clear p3
              try clear q3
              try clear hx3
              try clear qi3
              try clear c5
              try clear c5b0
              try clear c5b1
              try clear p6
              try clear c7
              try clear c7b0
              try clear c8
              try clear c8b0
              try clear c11
              try clear c11b0
              try clear c11b1
              try clear c12
              try clear c12b0
              try clear c12b1
              try clear c15
              try clear c16
              try clear c16b0
              try clear c16b1
              try clear c28
              try clear c30
              try clear c30b0
              try clear c30b1
              try clear c31
              try clear c31b0
              try clear c31b1
              try clear c32
              try clear c32b0
              try clear p35
              try clear q35
              try clear hx35
              try clear qi35
              try clear hcz13_0
              try clear hcz13_1
              try clear hcz13_10
              try clear hcz13_11
              try clear hcz13_2
              try clear hcz13_3
              try clear hcz13_4
              try clear hcz13_5
              try clear hcz13_6
              try clear hcz13_7
              try clear hcz13_8
              try clear hcz13_9
              try clear hcz17_0
              try clear hcz17_1
              try clear hcz17_10
              try clear hcz17_11
              try clear hcz17_2
              try clear hcz17_3
              try clear hcz17_4
              try clear hcz17_5
              try clear hcz17_6
              try clear hcz17_7
              try clear hcz17_8
              try clear hcz17_9
              try clear hcz19_0
              try clear hcz19_1
              try clear hcz19_10
              try clear hcz19_11
              try clear hcz19_2
              try clear hcz19_3
              try clear hcz19_4
              try clear hcz19_5
              try clear hcz19_6
              try clear hcz19_7
              try clear hcz19_8
              try clear hcz19_9
              try clear hcz21_0
              try clear hcz21_1
              try clear hcz21_10
              try clear hcz21_11
              try clear hcz21_2
              try clear hcz21_3
              try clear hcz21_4
              try clear hcz21_5
              try clear hcz21_6
              try clear hcz21_7
              try clear hcz21_8
              try clear hcz21_9
              try clear hcz23_0
              try clear hcz23_1
              try clear hcz23_10
              try clear hcz23_11
              try clear hcz23_2
              try clear hcz23_3
              try clear hcz23_4
              try clear hcz23_5
              try clear hcz23_6
              try clear hcz23_7
              try clear hcz23_8
              try clear hcz23_9
              try clear hcz25_0
              try clear hcz25_1
              try clear hcz25_10
              try clear hcz25_11
              try clear hcz25_2
              try clear hcz25_3
              try clear hcz25_4
              try clear hcz25_5
              try clear hcz25_6
              try clear hcz25_7
              try clear hcz25_8
              try clear hcz25_9
              try clear hcz27_0
              try clear hcz27_1
              try clear hcz27_10
              try clear hcz27_11
              try clear hcz27_2
              try clear hcz27_3
              try clear hcz27_4
              try clear hcz27_5
              try clear hcz27_6
              try clear hcz27_7
              try clear hcz27_8
              try clear hcz27_9
              try clear hcz33_0
              try clear hcz33_1
              try clear hcz33_10
              try clear hcz33_11
              try clear hcz33_2
              try clear hcz33_3
              try clear hcz33_4
              try clear hcz33_5
              try clear hcz33_6
              try clear hcz33_7
              try clear hcz33_8
              try clear hcz33_9
              try clear hcz34_0
              try clear hcz34_1
              try clear hcz34_10
              try clear hcz34_11
              try clear hcz34_2
              try clear hcz34_3
              try clear hcz34_4
              try clear hcz34_5
              try clear hcz34_6
              try clear hcz34_7
              try clear hcz34_8
              try clear hcz34_9
              try clear hcz35_0
              try clear hcz35_1
              try clear hcz35_10
              try clear hcz35_11
              try clear hcz35_2
              try clear hcz35_3
              try clear hcz35_4
              try clear hcz35_5
              try clear hcz35_6
              try clear hcz35_7
              try clear hcz35_8
              try clear hcz35_9
              try clear hcz4_0
              try clear hcz4_1
              try clear hcz4_10
              try clear hcz4_11
              try clear hcz4_2
              try clear hcz4_3
              try clear hcz4_4
              try clear hcz4_5
              try clear hcz4_6
              try clear hcz4_7
              try clear hcz4_8
              try clear hcz4_9
              try clear hcz9_0
              try clear hcz9_1
              try clear hcz9_10
              try clear hcz9_11
              try clear hcz9_2
              try clear hcz9_3
              try clear hcz9_4
              try clear hcz9_5
              try clear hcz9_6
              try clear hcz9_7
              try clear hcz9_8
              try clear hcz9_9
              try clear hfz13_0
              try clear hfz13_1
              try clear hfz13_10
              try clear hfz13_11
              try clear hfz13_2
              try clear hfz13_3
              try clear hfz13_4
              try clear hfz13_5
              try clear hfz13_6
              try clear hfz13_7
              try clear hfz13_8
              try clear hfz13_9
              try clear hfz17_0
              try clear hfz17_1
              try clear hfz17_10
              try clear hfz17_11
              try clear hfz17_2
              try clear hfz17_3
              try clear hfz17_4
              try clear hfz17_5
              try clear hfz17_6
              try clear hfz17_7
              try clear hfz17_8
              try clear hfz17_9
              try clear hfz19_0
              try clear hfz19_1
              try clear hfz19_10
              try clear hfz19_11
              try clear hfz19_2
              try clear hfz19_3
              try clear hfz19_4
              try clear hfz19_5
              try clear hfz19_6
              try clear hfz19_7
              try clear hfz19_8
              try clear hfz19_9
              try clear hfz21_0
              try clear hfz21_1
              try clear hfz21_10
              try clear hfz21_11
              try clear hfz21_2
              try clear hfz21_3
              try clear hfz21_4
              try clear hfz21_5
              try clear hfz21_6
              try clear hfz21_7
              try clear hfz21_8
              try clear hfz21_9
              try clear hfz23_0
              try clear hfz23_1
              try clear hfz23_10
              try clear hfz23_11
              try clear hfz23_2
              try clear hfz23_3
              try clear hfz23_4
              try clear hfz23_5
              try clear hfz23_6
              try clear hfz23_7
              try clear hfz23_8
              try clear hfz23_9
              try clear hfz25_0
              try clear hfz25_1
              try clear hfz25_10
              try clear hfz25_11
              try clear hfz25_2
              try clear hfz25_3
              try clear hfz25_4
              try clear hfz25_5
              try clear hfz25_6
              try clear hfz25_7
              try clear hfz25_8
              try clear hfz25_9
              try clear hfz27_0
              try clear hfz27_1
              try clear hfz27_10
              try clear hfz27_11
              try clear hfz27_2
              try clear hfz27_3
              try clear hfz27_4
              try clear hfz27_5
              try clear hfz27_6
              try clear hfz27_7
              try clear hfz27_8
              try clear hfz27_9
              try clear hfz33_0
              try clear hfz33_1
              try clear hfz33_10
              try clear hfz33_11
              try clear hfz33_2
              try clear hfz33_3
              try clear hfz33_4
              try clear hfz33_5
              try clear hfz33_6
              try clear hfz33_7
              try clear hfz33_8
              try clear hfz33_9
              try clear hfz34_0
              try clear hfz34_1
              try clear hfz34_10
              try clear hfz34_11
              try clear hfz34_2
              try clear hfz34_3
              try clear hfz34_4
              try clear hfz34_5
              try clear hfz34_6
              try clear hfz34_7
              try clear hfz34_8
              try clear hfz34_9
              try clear hfz35_0
              try clear hfz35_1
              try clear hfz35_10
              try clear hfz35_11
              try clear hfz35_2
              try clear hfz35_3
              try clear hfz35_4
              try clear hfz35_5
              try clear hfz35_6
              try clear hfz35_7
              try clear hfz35_8
              try clear hfz35_9
              try clear hfz4_0
              try clear hfz4_1
              try clear hfz4_10
              try clear hfz4_11
              try clear hfz4_2
              try clear hfz4_3
              try clear hfz4_4
              try clear hfz4_5
              try clear hfz4_6
              try clear hfz4_7
              try clear hfz4_8
              try clear hfz4_9
              try clear hfz9_0
              try clear hfz9_1
              try clear hfz9_10
              try clear hfz9_11
              try clear hfz9_2
              try clear hfz9_3
              try clear hfz9_4
              try clear hfz9_5
              try clear hfz9_6
              try clear hfz9_7
              try clear hfz9_8
              try clear hfz9_9
              try clear hx356_0
              try clear hx356_1
              try clear hx356_2
              try clear hx356_3
              try clear hx356_4
              try clear hx356_5
              try clear hx356_6
              try clear hx359_0
              try clear hx359_1
              try clear hx359_2
              try clear hx359_3
              try clear hx359_4
              try clear hx359_5
              try clear hx359_6
              try clear p2
              try clear p3
              try clear p356
              try clear p359
              try clear p6
              try clear q3
              try clear q356
              try clear q359
              obtain ⟨kq, x48_28, rfl, HA, HJ28, BK355, HB⟩ := hcut
              cases kq with
              | zero => exact absurd HA.out (by simp [note_batch.j2])
              | succ kj28 =>
                have H := HA.out
                clear HA
                simp only [note_batch.j2] at H
                by_cases c36 : x48_28 = true
                · subst c36
                  have H1 : (some false) = some r := by rw [if_pos rfl] at H; exact H
                  clear H
                  have H := H1
                  clear H1
                  obtain rfl := Option.some.inj H
                  go_wp2
                  repeat (go_quiet (fail); try go_wp2)
                  go_ret
                  exact ⟨by first | rfl | (simp [errW_none, errW_some] <;> rfl) | (simp [*, errW_none, errW_some] <;> rfl), by repeat (first | (with_reducible first | exact HB.out | apply below_alloc | apply pw_below_drewN | apply below_drew1 | refine below_set ?_ GE355.out) | exact HB.out)⟩
                · replace c36 := Bool.eq_false_iff.mpr c36
                  subst c36
                  have H1 : (if a0_4 > 0 then (if (l0_11.length : Int) > 0 then (some false) else (if a0_10 = true then (some true) else (if (l0_8.length : Int) = 4 then (some (decide (a0_9 < 64))) else (some false)))) else (if a0_10 = true then (some true) else (if (l0_8.length : Int) = 4 then (some (decide (a0_9 < 64))) else (some false)))) = some r := by rw [if_neg (show ¬ (false = true) by decide)] at H; exact H
                  clear H
                  have H := H1
                  clear H1
                  by_cases c37 : a0_4 > 0
                  · rw [if_pos c37] at H
                    have c37b0 : decide (0 < a0_4) = true := decide_eq_true c37
                    clear c37
                    by_cases c38 : (l0_11.length : Int) > 0
                    · rw [if_pos c38] at H
                      have c38b0 : decide (0 < (l0_11.length : Int)) = true := decide_eq_true c38
                      have c38b1 : decide (0 < l0_11.length) = true := decide_eq_true (by omega)
                      clear c38
                      obtain rfl := Option.some.inj H
                      have hcz39_0 : wc.cell? ⟨gb355, 0, none⟩ = some (.int .i64 a0_0) := (blk_cell BK355.out 0).trans rfl
                      have hcz39_1 : wc.cell? ⟨gb355, 1, none⟩ = some (.int .u8 a0_1) := (blk_cell BK355.out 1).trans rfl
                      have hcz39_2 : wc.cell? ⟨gb355, 2, none⟩ = some (.int .u8 a0_2) := (blk_cell BK355.out 2).trans rfl
                      have hcz39_3 : wc.cell? ⟨gb355, 3, none⟩ = some (.int .u32 a0_3) := (blk_cell BK355.out 3).trans rfl
                      have hcz39_4 : wc.cell? ⟨gb355, 4, none⟩ = some (.int .u8 a0_4) := (blk_cell BK355.out 4).trans rfl
                      have hcz39_5 : wc.cell? ⟨gb355, 5, none⟩ = some (.int .u8 a0_5) := (blk_cell BK355.out 5).trans rfl
                      have hcz39_6 : wc.cell? ⟨gb355, 6, none⟩ = some (.slice A0_6 l0_6.length c0_6) := (blk_cell BK355.out 6).trans rfl
                      have hcz39_7 : wc.cell? ⟨gb355, 7, none⟩ = some (.int .u32 a0_7) := (blk_cell BK355.out 7).trans rfl
                      have hcz39_8 : wc.cell? ⟨gb355, 8, none⟩ = some (.slice A0_8 l0_8.length c0_8) := (blk_cell BK355.out 8).trans rfl
                      have hcz39_9 : wc.cell? ⟨gb355, 9, none⟩ = some (.int .u8 a0_9) := (blk_cell BK355.out 9).trans rfl
                      have hcz39_10 : wc.cell? ⟨gb355, 10, none⟩ = some (.bool a0_10) := (blk_cell BK355.out 10).trans rfl
                      have hcz39_11 : wc.cell? ⟨gb355, 11, none⟩ = some (.slice A0_11 l0_11.length c0_11) := (blk_cell BK355.out 11).trans rfl
                      have hfz39_0 := blk_frozen BK355.out 0
                      have hfz39_1 := blk_frozen BK355.out 1
                      have hfz39_2 := blk_frozen BK355.out 2
                      have hfz39_3 := blk_frozen BK355.out 3
                      have hfz39_4 := blk_frozen BK355.out 4
                      have hfz39_5 := blk_frozen BK355.out 5
                      have hfz39_6 := blk_frozen BK355.out 6
                      have hfz39_7 := blk_frozen BK355.out 7
                      have hfz39_8 := blk_frozen BK355.out 8
                      have hfz39_9 := blk_frozen BK355.out 9
                      have hfz39_10 := blk_frozen BK355.out 10
                      have hfz39_11 := blk_frozen BK355.out 11
                      go_wp2
                      repeat (go_quiet (fail); try go_wp2)
                      go_ret
                      exact ⟨by first | rfl | (simp [errW_none, errW_some] <;> rfl) | (simp [*, errW_none, errW_some] <;> rfl), by repeat (first | (with_reducible first | exact HB.out | apply below_alloc | apply pw_below_drewN | apply below_drew1 | refine below_set ?_ GE355.out) | exact HB.out)⟩
                    · rw [if_neg c38] at H
                      have c38b0 : decide (0 < (l0_11.length : Int)) = false := decide_eq_false c38
                      have c38b1 : decide (0 < l0_11.length) = false := decide_eq_false (by omega)
                      clear c38
                      by_cases c40 : a0_10 = true
                      · subst c40
                        have H1 : (some true) = some r := by rw [if_pos rfl] at H; exact H
                        clear H
                        have H := H1
                        clear H1
                        obtain rfl := Option.some.inj H
                        have hcz41_0 : wc.cell? ⟨gb355, 0, none⟩ = some (.int .i64 a0_0) := (blk_cell BK355.out 0).trans rfl
                        have hcz41_1 : wc.cell? ⟨gb355, 1, none⟩ = some (.int .u8 a0_1) := (blk_cell BK355.out 1).trans rfl
                        have hcz41_2 : wc.cell? ⟨gb355, 2, none⟩ = some (.int .u8 a0_2) := (blk_cell BK355.out 2).trans rfl
                        have hcz41_3 : wc.cell? ⟨gb355, 3, none⟩ = some (.int .u32 a0_3) := (blk_cell BK355.out 3).trans rfl
                        have hcz41_4 : wc.cell? ⟨gb355, 4, none⟩ = some (.int .u8 a0_4) := (blk_cell BK355.out 4).trans rfl
                        have hcz41_5 : wc.cell? ⟨gb355, 5, none⟩ = some (.int .u8 a0_5) := (blk_cell BK355.out 5).trans rfl
                        have hcz41_6 : wc.cell? ⟨gb355, 6, none⟩ = some (.slice A0_6 l0_6.length c0_6) := (blk_cell BK355.out 6).trans rfl
                        have hcz41_7 : wc.cell? ⟨gb355, 7, none⟩ = some (.int .u32 a0_7) := (blk_cell BK355.out 7).trans rfl
                        have hcz41_8 : wc.cell? ⟨gb355, 8, none⟩ = some (.slice A0_8 l0_8.length c0_8) := (blk_cell BK355.out 8).trans rfl
                        have hcz41_9 : wc.cell? ⟨gb355, 9, none⟩ = some (.int .u8 a0_9) := (blk_cell BK355.out 9).trans rfl
                        have hcz41_10 : wc.cell? ⟨gb355, 10, none⟩ = some (.bool true) := (blk_cell BK355.out 10).trans rfl
                        have hcz41_11 : wc.cell? ⟨gb355, 11, none⟩ = some (.slice A0_11 l0_11.length c0_11) := (blk_cell BK355.out 11).trans rfl
                        have hfz41_0 := blk_frozen BK355.out 0
                        have hfz41_1 := blk_frozen BK355.out 1
                        have hfz41_2 := blk_frozen BK355.out 2
                        have hfz41_3 := blk_frozen BK355.out 3
                        have hfz41_4 := blk_frozen BK355.out 4
                        have hfz41_5 := blk_frozen BK355.out 5
                        have hfz41_6 := blk_frozen BK355.out 6
                        have hfz41_7 := blk_frozen BK355.out 7
                        have hfz41_8 := blk_frozen BK355.out 8
                        have hfz41_9 := blk_frozen BK355.out 9
                        have hfz41_10 := blk_frozen BK355.out 10
                        have hfz41_11 := blk_frozen BK355.out 11
                        go_wp2
                        repeat (go_quiet (fail); try go_wp2)
                        go_ret
                        exact ⟨by first | rfl | (simp [errW_none, errW_some] <;> rfl) | (simp [*, errW_none, errW_some] <;> rfl), by repeat (first | (with_reducible first | exact HB.out | apply below_alloc | apply pw_below_drewN | apply below_drew1 | refine below_set ?_ GE355.out) | exact HB.out)⟩
                      · replace c40 := Bool.eq_false_iff.mpr c40
                        subst c40
                        have H1 : (if (l0_8.length : Int) = 4 then (some (decide (a0_9 < 64))) else (some false)) = some r := by rw [if_neg (show ¬ (false = true) by decide)] at H; exact H
                        clear H
                        have H := H1
                        clear H1
                        by_cases c42 : (l0_8.length : Int) = 4
                        · rw [if_pos c42] at H
                          have c42b0 : ((l0_8.length : Int) == 4) = true := beq_iff_eq.mpr c42
                          have c42b1 : ((l0_8.length : Int) != 4) = false := bne_eq_false_iff_eq.mpr c42
                          clear c42
                          obtain rfl := Option.some.inj H
                          have hcz43_0 : wc.cell? ⟨gb355, 0, none⟩ = some (.int .i64 a0_0) := (blk_cell BK355.out 0).trans rfl
                          have hcz43_1 : wc.cell? ⟨gb355, 1, none⟩ = some (.int .u8 a0_1) := (blk_cell BK355.out 1).trans rfl
                          have hcz43_2 : wc.cell? ⟨gb355, 2, none⟩ = some (.int .u8 a0_2) := (blk_cell BK355.out 2).trans rfl
                          have hcz43_3 : wc.cell? ⟨gb355, 3, none⟩ = some (.int .u32 a0_3) := (blk_cell BK355.out 3).trans rfl
                          have hcz43_4 : wc.cell? ⟨gb355, 4, none⟩ = some (.int .u8 a0_4) := (blk_cell BK355.out 4).trans rfl
                          have hcz43_5 : wc.cell? ⟨gb355, 5, none⟩ = some (.int .u8 a0_5) := (blk_cell BK355.out 5).trans rfl
                          have hcz43_6 : wc.cell? ⟨gb355, 6, none⟩ = some (.slice A0_6 l0_6.length c0_6) := (blk_cell BK355.out 6).trans rfl
                          have hcz43_7 : wc.cell? ⟨gb355, 7, none⟩ = some (.int .u32 a0_7) := (blk_cell BK355.out 7).trans rfl
                          have hcz43_8 : wc.cell? ⟨gb355, 8, none⟩ = some (.slice A0_8 l0_8.length c0_8) := (blk_cell BK355.out 8).trans rfl
                          have hcz43_9 : wc.cell? ⟨gb355, 9, none⟩ = some (.int .u8 a0_9) := (blk_cell BK355.out 9).trans rfl
                          have hcz43_10 : wc.cell? ⟨gb355, 10, none⟩ = some (.bool false) := (blk_cell BK355.out 10).trans rfl
                          have hcz43_11 : wc.cell? ⟨gb355, 11, none⟩ = some (.slice A0_11 l0_11.length c0_11) := (blk_cell BK355.out 11).trans rfl
                          have hfz43_0 := blk_frozen BK355.out 0
                          have hfz43_1 := blk_frozen BK355.out 1
                          have hfz43_2 := blk_frozen BK355.out 2
                          have hfz43_3 := blk_frozen BK355.out 3
                          have hfz43_4 := blk_frozen BK355.out 4
                          have hfz43_5 := blk_frozen BK355.out 5
                          have hfz43_6 := blk_frozen BK355.out 6
                          have hfz43_7 := blk_frozen BK355.out 7
                          have hfz43_8 := blk_frozen BK355.out 8
                          have hfz43_9 := blk_frozen BK355.out 9
                          have hfz43_10 := blk_frozen BK355.out 10
                          have hfz43_11 := blk_frozen BK355.out 11
                          go_wp2
                          repeat (go_quiet (fail); try go_wp2)
                          go_ret
                          exact ⟨by first | rfl | (simp [errW_none, errW_some] <;> rfl) | (simp [*, errW_none, errW_some] <;> rfl), by repeat (first | (with_reducible first | exact HB.out | apply below_alloc | apply pw_below_drewN | apply below_drew1 | refine below_set ?_ GE355.out) | exact HB.out)⟩
                        · rw [if_neg c42] at H
                          have c42b0 : ((l0_8.length : Int) == 4) = false := beq_eq_false_iff_ne.mpr c42
                          have c42b1 : ((l0_8.length : Int) != 4) = true := bne_iff_ne.mpr c42
                          obtain rfl := Option.some.inj H
                          have hcz44_0 : wc.cell? ⟨gb355, 0, none⟩ = some (.int .i64 a0_0) := (blk_cell BK355.out 0).trans rfl
                          have hcz44_1 : wc.cell? ⟨gb355, 1, none⟩ = some (.int .u8 a0_1) := (blk_cell BK355.out 1).trans rfl
                          have hcz44_2 : wc.cell? ⟨gb355, 2, none⟩ = some (.int .u8 a0_2) := (blk_cell BK355.out 2).trans rfl
                          have hcz44_3 : wc.cell? ⟨gb355, 3, none⟩ = some (.int .u32 a0_3) := (blk_cell BK355.out 3).trans rfl
                          have hcz44_4 : wc.cell? ⟨gb355, 4, none⟩ = some (.int .u8 a0_4) := (blk_cell BK355.out 4).trans rfl
                          have hcz44_5 : wc.cell? ⟨gb355, 5, none⟩ = some (.int .u8 a0_5) := (blk_cell BK355.out 5).trans rfl
                          have hcz44_6 : wc.cell? ⟨gb355, 6, none⟩ = some (.slice A0_6 l0_6.length c0_6) := (blk_cell BK355.out 6).trans rfl
                          have hcz44_7 : wc.cell? ⟨gb355, 7, none⟩ = some (.int .u32 a0_7) := (blk_cell BK355.out 7).trans rfl
                          have hcz44_8 : wc.cell? ⟨gb355, 8, none⟩ = some (.slice A0_8 l0_8.length c0_8) := (blk_cell BK355.out 8).trans rfl
                          have hcz44_9 : wc.cell? ⟨gb355, 9, none⟩ = some (.int .u8 a0_9) := (blk_cell BK355.out 9).trans rfl
                          have hcz44_10 : wc.cell? ⟨gb355, 10, none⟩ = some (.bool false) := (blk_cell BK355.out 10).trans rfl
                          have hcz44_11 : wc.cell? ⟨gb355, 11, none⟩ = some (.slice A0_11 l0_11.length c0_11) := (blk_cell BK355.out 11).trans rfl
                          have hfz44_0 := blk_frozen BK355.out 0
                          have hfz44_1 := blk_frozen BK355.out 1
                          have hfz44_2 := blk_frozen BK355.out 2
                          have hfz44_3 := blk_frozen BK355.out 3
                          have hfz44_4 := blk_frozen BK355.out 4
                          have hfz44_5 := blk_frozen BK355.out 5
                          have hfz44_6 := blk_frozen BK355.out 6
                          have hfz44_7 := blk_frozen BK355.out 7
                          have hfz44_8 := blk_frozen BK355.out 8
                          have hfz44_9 := blk_frozen BK355.out 9
                          have hfz44_10 := blk_frozen BK355.out 10
                          have hfz44_11 := blk_frozen BK355.out 11
                          go_wp2
                          repeat (go_quiet (fail); try go_wp2)
                          go_ret
                          exact ⟨by first | rfl | (simp [errW_none, errW_some] <;> rfl) | (simp [*, errW_none, errW_some] <;> rfl), by repeat (first | (with_reducible first | exact HB.out | apply below_alloc | apply pw_below_drewN | apply below_drew1 | refine below_set ?_ GE355.out) | exact HB.out)⟩
                  · rw [if_neg c37] at H
                    have c37b0 : decide (0 < a0_4) = false := decide_eq_false c37
                    clear c37
                    by_cases c45 : a0_10 = true
                    · subst c45
                      have H1 : (some true) = some r := by rw [if_pos rfl] at H; exact H
                      clear H
                      have H := H1
                      clear H1
                      obtain rfl := Option.some.inj H
                      have hcz46_0 : wc.cell? ⟨gb355, 0, none⟩ = some (.int .i64 a0_0) := (blk_cell BK355.out 0).trans rfl
                      have hcz46_1 : wc.cell? ⟨gb355, 1, none⟩ = some (.int .u8 a0_1) := (blk_cell BK355.out 1).trans rfl
                      have hcz46_2 : wc.cell? ⟨gb355, 2, none⟩ = some (.int .u8 a0_2) := (blk_cell BK355.out 2).trans rfl
                      have hcz46_3 : wc.cell? ⟨gb355, 3, none⟩ = some (.int .u32 a0_3) := (blk_cell BK355.out 3).trans rfl
                      have hcz46_4 : wc.cell? ⟨gb355, 4, none⟩ = some (.int .u8 a0_4) := (blk_cell BK355.out 4).trans rfl
                      have hcz46_5 : wc.cell? ⟨gb355, 5, none⟩ = some (.int .u8 a0_5) := (blk_cell BK355.out 5).trans rfl
                      have hcz46_6 : wc.cell? ⟨gb355, 6, none⟩ = some (.slice A0_6 l0_6.length c0_6) := (blk_cell BK355.out 6).trans rfl
                      have hcz46_7 : wc.cell? ⟨gb355, 7, none⟩ = some (.int .u32 a0_7) := (blk_cell BK355.out 7).trans rfl
                      have hcz46_8 : wc.cell? ⟨gb355, 8, none⟩ = some (.slice A0_8 l0_8.length c0_8) := (blk_cell BK355.out 8).trans rfl
                      have hcz46_9 : wc.cell? ⟨gb355, 9, none⟩ = some (.int .u8 a0_9) := (blk_cell BK355.out 9).trans rfl
                      have hcz46_10 : wc.cell? ⟨gb355, 10, none⟩ = some (.bool true) := (blk_cell BK355.out 10).trans rfl
                      have hcz46_11 : wc.cell? ⟨gb355, 11, none⟩ = some (.slice A0_11 l0_11.length c0_11) := (blk_cell BK355.out 11).trans rfl
                      have hfz46_0 := blk_frozen BK355.out 0
                      have hfz46_1 := blk_frozen BK355.out 1
                      have hfz46_2 := blk_frozen BK355.out 2
                      have hfz46_3 := blk_frozen BK355.out 3
                      have hfz46_4 := blk_frozen BK355.out 4
                      have hfz46_5 := blk_frozen BK355.out 5
                      have hfz46_6 := blk_frozen BK355.out 6
                      have hfz46_7 := blk_frozen BK355.out 7
                      have hfz46_8 := blk_frozen BK355.out 8
                      have hfz46_9 := blk_frozen BK355.out 9
                      have hfz46_10 := blk_frozen BK355.out 10
                      have hfz46_11 := blk_frozen BK355.out 11
                      go_wp2
                      repeat (go_quiet (fail); try go_wp2)
                      go_ret
                      exact ⟨by first | rfl | (simp [errW_none, errW_some] <;> rfl) | (simp [*, errW_none, errW_some] <;> rfl), by repeat (first | (with_reducible first | exact HB.out | apply below_alloc | apply pw_below_drewN | apply below_drew1 | refine below_set ?_ GE355.out) | exact HB.out)⟩
                    · replace c45 := Bool.eq_false_iff.mpr c45
                      subst c45
                      have H1 : (if (l0_8.length : Int) = 4 then (some (decide (a0_9 < 64))) else (some false)) = some r := by rw [if_neg (show ¬ (false = true) by decide)] at H; exact H
                      clear H
                      have H := H1
                      clear H1
                      by_cases c47 : (l0_8.length : Int) = 4
                      · rw [if_pos c47] at H
                        have c47b0 : ((l0_8.length : Int) == 4) = true := beq_iff_eq.mpr c47
                        have c47b1 : ((l0_8.length : Int) != 4) = false := bne_eq_false_iff_eq.mpr c47
                        clear c47
                        obtain rfl := Option.some.inj H
                        have hcz48_0 : wc.cell? ⟨gb355, 0, none⟩ = some (.int .i64 a0_0) := (blk_cell BK355.out 0).trans rfl
                        have hcz48_1 : wc.cell? ⟨gb355, 1, none⟩ = some (.int .u8 a0_1) := (blk_cell BK355.out 1).trans rfl
                        have hcz48_2 : wc.cell? ⟨gb355, 2, none⟩ = some (.int .u8 a0_2) := (blk_cell BK355.out 2).trans rfl
                        have hcz48_3 : wc.cell? ⟨gb355, 3, none⟩ = some (.int .u32 a0_3) := (blk_cell BK355.out 3).trans rfl
                        have hcz48_4 : wc.cell? ⟨gb355, 4, none⟩ = some (.int .u8 a0_4) := (blk_cell BK355.out 4).trans rfl
                        have hcz48_5 : wc.cell? ⟨gb355, 5, none⟩ = some (.int .u8 a0_5) := (blk_cell BK355.out 5).trans rfl
                        have hcz48_6 : wc.cell? ⟨gb355, 6, none⟩ = some (.slice A0_6 l0_6.length c0_6) := (blk_cell BK355.out 6).trans rfl
                        have hcz48_7 : wc.cell? ⟨gb355, 7, none⟩ = some (.int .u32 a0_7) := (blk_cell BK355.out 7).trans rfl
                        have hcz48_8 : wc.cell? ⟨gb355, 8, none⟩ = some (.slice A0_8 l0_8.length c0_8) := (blk_cell BK355.out 8).trans rfl
                        have hcz48_9 : wc.cell? ⟨gb355, 9, none⟩ = some (.int .u8 a0_9) := (blk_cell BK355.out 9).trans rfl
                        have hcz48_10 : wc.cell? ⟨gb355, 10, none⟩ = some (.bool false) := (blk_cell BK355.out 10).trans rfl
                        have hcz48_11 : wc.cell? ⟨gb355, 11, none⟩ = some (.slice A0_11 l0_11.length c0_11) := (blk_cell BK355.out 11).trans rfl
                        have hfz48_0 := blk_frozen BK355.out 0
                        have hfz48_1 := blk_frozen BK355.out 1
                        have hfz48_2 := blk_frozen BK355.out 2
                        have hfz48_3 := blk_frozen BK355.out 3
                        have hfz48_4 := blk_frozen BK355.out 4
                        have hfz48_5 := blk_frozen BK355.out 5
                        have hfz48_6 := blk_frozen BK355.out 6
                        have hfz48_7 := blk_frozen BK355.out 7
                        have hfz48_8 := blk_frozen BK355.out 8
                        have hfz48_9 := blk_frozen BK355.out 9
                        have hfz48_10 := blk_frozen BK355.out 10
                        have hfz48_11 := blk_frozen BK355.out 11
                        go_wp2
                        repeat (go_quiet (fail); try go_wp2)
                        go_ret
                        exact ⟨by first | rfl | (simp [errW_none, errW_some] <;> rfl) | (simp [*, errW_none, errW_some] <;> rfl), by repeat (first | (with_reducible first | exact HB.out | apply below_alloc | apply pw_below_drewN | apply below_drew1 | refine below_set ?_ GE355.out) | exact HB.out)⟩
                      · rw [if_neg c47] at H
                        have c47b0 : ((l0_8.length : Int) == 4) = false := beq_eq_false_iff_ne.mpr c47
                        have c47b1 : ((l0_8.length : Int) != 4) = true := bne_iff_ne.mpr c47
                        obtain rfl := Option.some.inj H
                        have hcz49_0 : wc.cell? ⟨gb355, 0, none⟩ = some (.int .i64 a0_0) := (blk_cell BK355.out 0).trans rfl
                        have hcz49_1 : wc.cell? ⟨gb355, 1, none⟩ = some (.int .u8 a0_1) := (blk_cell BK355.out 1).trans rfl
                        have hcz49_2 : wc.cell? ⟨gb355, 2, none⟩ = some (.int .u8 a0_2) := (blk_cell BK355.out 2).trans rfl
                        have hcz49_3 : wc.cell? ⟨gb355, 3, none⟩ = some (.int .u32 a0_3) := (blk_cell BK355.out 3).trans rfl
                        have hcz49_4 : wc.cell? ⟨gb355, 4, none⟩ = some (.int .u8 a0_4) := (blk_cell BK355.out 4).trans rfl
                        have hcz49_5 : wc.cell? ⟨gb355, 5, none⟩ = some (.int .u8 a0_5) := (blk_cell BK355.out 5).trans rfl
                        have hcz49_6 : wc.cell? ⟨gb355, 6, none⟩ = some (.slice A0_6 l0_6.length c0_6) := (blk_cell BK355.out 6).trans rfl
                        have hcz49_7 : wc.cell? ⟨gb355, 7, none⟩ = some (.int .u32 a0_7) := (blk_cell BK355.out 7).trans rfl
                        have hcz49_8 : wc.cell? ⟨gb355, 8, none⟩ = some (.slice A0_8 l0_8.length c0_8) := (blk_cell BK355.out 8).trans rfl
                        have hcz49_9 : wc.cell? ⟨gb355, 9, none⟩ = some (.int .u8 a0_9) := (blk_cell BK355.out 9).trans rfl
                        have hcz49_10 : wc.cell? ⟨gb355, 10, none⟩ = some (.bool false) := (blk_cell BK355.out 10).trans rfl
                        have hcz49_11 : wc.cell? ⟨gb355, 11, none⟩ = some (.slice A0_11 l0_11.length c0_11) := (blk_cell BK355.out 11).trans rfl
                        have hfz49_0 := blk_frozen BK355.out 0
                        have hfz49_1 := blk_frozen BK355.out 1
                        have hfz49_2 := blk_frozen BK355.out 2
                        have hfz49_3 := blk_frozen BK355.out 3
                        have hfz49_4 := blk_frozen BK355.out 4
                        have hfz49_5 := blk_frozen BK355.out 5
                        have hfz49_6 := blk_frozen BK355.out 6
                        have hfz49_7 := blk_frozen BK355.out 7
                        have hfz49_8 := blk_frozen BK355.out 8
                        have hfz49_9 := blk_frozen BK355.out 9
                        have hfz49_10 := blk_frozen BK355.out 10
                        have hfz49_11 := blk_frozen BK355.out 11
                        go_wp2
                        repeat (go_quiet (fail); try go_wp2)
                        go_ret
                        exact ⟨by first | rfl | (simp [errW_none, errW_some] <;> rfl) | (simp [*, errW_none, errW_some] <;> rfl), by repeat (first | (with_reducible first | exact HB.out | apply below_alloc | apply pw_below_drewN | apply below_drew1 | refine below_set ?_ GE355.out) | exact HB.out)⟩
end Go.Proofs.Ytiminjibcafkaaa.X
