-- MADE BY wip/prx.py (the kit's printer, with contracts proved by hand). Not trusted: Lean checks it.
import Derived.Test.YtiminjibcafkaaaITX0
import Derived.Test.YtiminjibcafkaaaITXhcommon
import Derived.Test.YtiminjibcafkaaaITXhslicesIndexFuncEntry
namespace Go.Proofs.Ytiminjibcafkaaa.X
open Go.RowKit Go.Proofs.YtiminjibcafkaaaW.PrintWords Go.Proofs.YtiminjibcafkaaaW.PrintLast Go.Proofs.YtiminjibcafkaaaW.PrintMore
attribute [local go_sem] max2_int min2_int max_two min_two max_three min_three max_four min_four   -- for this text's walks alone
set_option linter.unusedVariables false
set_option linter.unusedSimpArgs false
--EXT 
/-! ### item_Find: function 21, by hand -/
def isID (a1 : Int) (x : S27) : Bool := decide (x.f0 = a1)
/-- item.Find. -/
def item_Find.f (l0 : List (S27)) (a1 : Int) : Option (Int × Int × Int × Int × Int × Int × Int × Bool) :=
  match l0.find? (isID a1) with
  | some x => some (x.f0, x.f1.f0, x.f1.f1, x.f1.f2, x.f2, x.f3, x.f4, true)
  | none => some (0, 0, 0, 0, 0, 0, 0, false)
theorem item_Find.pred (a1 : Int) (B1 : Nat) (w : World) (hB1 : B1 < w.heap.size) (h1 : w.cell? ⟨B1, 0, none⟩ = some (.int .u8 a1)) :
    ∀ (W : World) (x : S27), Below w.heap.size w W → Calls Try.prog 47 (#[.agg #[.int .u8 x.f0, .int .u8 x.f1.f0, .int .u32 x.f1.f1, .int .u32 x.f1.f2, .int .i64 x.f2, .int .u8 x.f3, .int .u32 x.f4]] ++ #[.pointer (some ⟨B1, 0, none⟩)]) W fun e w' => e = .returned (.bool (isID a1 x)) ∧ Below W.heap.size W w' := fun W x hb => by
  have c1 : W.cell? ⟨B1, 0, none⟩ = some (.int .u8 a1) := (hb.cell (p := ⟨B1, 0, none⟩) hB1).trans h1
  have n1 : B1 < W.heap.size := Nat.lt_of_lt_of_le hB1 hb.size
  have e1 : B1 ≠ W.heap.size := by omega
  clear hb h1 hB1
  obtain ⟨f0, ⟨g0, g1, g2⟩, f2, f3, f4⟩ := x
  show Calls Try.prog 47 #[.agg #[.int .u8 f0, .int .u8 g0, .int .u32 g1, .int .u32 g2, .int .i64 f2, .int .u8 f3, .int .u32 f4], .pointer (some ⟨B1, 0, none⟩)] W _
  have hu := Try.underlying27
  unfold isID
  dsimp only
  by_cases p1 : f0 = a1
  · subst p1
    go_enter Try.func47, Try.ntmps47
    go_wp2
    go_ret
    exact ⟨by simp, (Below.refl _ _).alloc (Nat.le_refl _) _⟩
  · go_enter Try.func47, Try.ntmps47
    go_wp2
    go_ret
    exact ⟨by simp [p1], (Below.refl _ _).alloc (Nat.le_refl _) _⟩
set_option maxHeartbeats 8000000 in
set_option maxRecDepth 100000 in
theorem item_Find.calls (A0 : Option Addr) (c0 : Nat) (l0 : List (S27)) (a1 : Int) (r1 : Int) (r2 : Int) (r3 : Int) (r4 : Int) (r5 : Int) (r6 : Int) (r7 : Int) (r8 : Bool) (w : World) (hr0 : Kd.C k27 w A0 l0.length l0) (hc0 : l0.length ≤ c0) (h : item_Find.f l0 a1 = some (r1, r2, r3, r4, r5, r6, r7, r8)) :
    Calls Try.prog 21 #[.slice A0 l0.length c0, .int .u8 a1] w fun e w' => e = .returned (.tuple #[.agg #[.int .u8 r1, .int .u8 r2, .int .u32 r3, .int .u32 r4, .int .i64 r5, .int .u8 r6, .int .u32 r7], .bool r8]) ∧ Below w.heap.size w w' := by
  have eg : ∀ args w, (callFunc 47 args).run Try.prog w = .ok (.enter 47 args) w := enters_of Try.func47 (by kernel_rfl) rfl
  have hmf : ∀ (fn : Fn) (first cap : Array Value) (w : World), (Instr.makeFunc fn first cap).run Try.prog w = .ok (.func fn first cap) w := fun _ _ _ _ => rfl
  have hu := Try.underlying27
  have HR := Aside0.mk hr0
  have HC := Aside0.mk hc0
  clear hr0 hc0
  have EG := Aside0.mk eg
  clear eg
  unfold item_Find.f at h
  have HM : l0.length ≤ 9223372036854775807 := HR.out.2.1
  rcases idxL_find (isID a1) z27 l0 0 with ⟨k, ei, hk, hf⟩ | ⟨ei, hf⟩
  · rw [hf] at h
    simp only [Option.some.injEq, Prod.mk.injEq] at h
    obtain ⟨rfl, rfl, rfl, rfl, rfl, rfl, rfl, rfl⟩ := h
    have EI := Aside0.mk ei
    have E0 : rd_T27 l0 (k : Int) = l0.getD k z27 := rfl
    rw [← E0]
    clear ei hf E0
    generalize hy : rd_T27 l0 (k : Int) = y
    have HY := Aside0.mk hy
    clear hy
    have hltz : (k : Int) < (l0.length : Int) := by omega
    go_enter Try.func21, Try.ntmps21
    go_wp2_with fail
    refine (slices_IndexFunc_Entry.calls (isID a1) 47 #[.pointer (some ⟨w.heap.size, 0, none⟩)] EG.out A0 c0 l0 _ (Kd.C_alloc (Kd.C_alloc HR.out _) _) (item_Find.pred a1 w.heap.size _ (by simp; omega) (by simp))).mono ?_
    rw [EI.out, Nat.zero_add]
    rintro e w1 ⟨rfl, hb1⟩
    have HB := Aside0.mk hb1
    have hblk := blk_below (g := w.heap.size + 1) (by simpa using blk_new (w.alloc (.cells #[.int .u8 a1] 5)) (.cells #[.int .u8 0, .int .u8 0, .int .u32 0, .int .u32 0, .int .i64 0, .int .u8 0, .int .u32 0] 27)) hb1
    have HK := Aside0.mk hblk
    clear hblk hb1
    obtain ⟨ad, rfl, h0, h1, h2, h3, h4, h5, h6⟩ := at_T27 (Kd.C_below (Kd.C_alloc (Kd.C_alloc HR.out _) _) HB.out) (k : Int) (by omega) hltz
    simp only [Int.toNat_natCast] at h0 h1 h2 h3 h4 h5 h6
    have q0 := (blk_cell HK.out 0).trans (show _ = some (.int .u8 0) from rfl)
    have q1 := (blk_cell HK.out 1).trans (show _ = some (.int .u8 0) from rfl)
    have q2 := (blk_cell HK.out 2).trans (show _ = some (.int .u32 0) from rfl)
    have q3 := (blk_cell HK.out 3).trans (show _ = some (.int .u32 0) from rfl)
    have q4 := (blk_cell HK.out 4).trans (show _ = some (.int .i64 0) from rfl)
    have q5 := (blk_cell HK.out 5).trans (show _ = some (.int .u8 0) from rfl)
    have q6 := (blk_cell HK.out 6).trans (show _ = some (.int .u32 0) from rfl)
    have z0 := blk_frozen HK.out 0
    have z1 := blk_frozen HK.out 1
    have z2 := blk_frozen HK.out 2
    have z3 := blk_frozen HK.out 3
    have z4 := blk_frozen HK.out 4
    have z5 := blk_frozen HK.out 5
    have z6 := blk_frozen HK.out 6
    rw [HY.out] at h0 h1 h2 h3 h4 h5 h6
    go_wp2
    refine bodyPost_ret (results_ct rfl _ _ (w.heap.size + 1) 27 #[.int .u8 y.f0, .int .u8 y.f1.f0, .int .u32 y.f1.f1, .int .u32 y.f1.f2, .int .i64 y.f2, .int .u8 y.f3, .int .u32 y.f4] (0, 0) _ rfl (blk_put7 HK.out _ _ _ _ _ _ _) Try.underlying27 rfl (by kernel_rfl)) rfl ?_
    refine ⟨rfl, below_put7 ?_ (by omega) _ _ _ _ _ _ _⟩
    exact (((Below.refl _ w).alloc (Nat.le_refl _) _).alloc (by simp) _).trans (HB.out.mono (by simp; omega))
  · rw [hf] at h
    simp only [Option.some.injEq, Prod.mk.injEq] at h
    obtain ⟨rfl, rfl, rfl, rfl, rfl, rfl, rfl, rfl⟩ := h
    have EI := Aside0.mk ei
    clear ei hf
    go_enter Try.func21, Try.ntmps21
    go_wp2_with fail
    refine (slices_IndexFunc_Entry.calls (isID a1) 47 #[.pointer (some ⟨w.heap.size, 0, none⟩)] EG.out A0 c0 l0 _ (Kd.C_alloc (Kd.C_alloc HR.out _) _) (item_Find.pred a1 w.heap.size _ (by simp; omega) (by simp))).mono ?_
    rw [EI.out]
    rintro e w1 ⟨rfl, hb1⟩
    have HB := Aside0.mk hb1
    have hblk := blk_below (g := w.heap.size + 1) (by simpa using blk_new (w.alloc (.cells #[.int .u8 a1] 5)) (.cells #[.int .u8 0, .int .u8 0, .int .u32 0, .int .u32 0, .int .i64 0, .int .u8 0, .int .u32 0] 27)) hb1
    have HK := Aside0.mk hblk
    clear hblk hb1
    have q0 := (blk_cell HK.out 0).trans (show _ = some (.int .u8 0) from rfl)
    have q1 := (blk_cell HK.out 1).trans (show _ = some (.int .u8 0) from rfl)
    have q2 := (blk_cell HK.out 2).trans (show _ = some (.int .u32 0) from rfl)
    have q3 := (blk_cell HK.out 3).trans (show _ = some (.int .u32 0) from rfl)
    have q4 := (blk_cell HK.out 4).trans (show _ = some (.int .i64 0) from rfl)
    have q5 := (blk_cell HK.out 5).trans (show _ = some (.int .u8 0) from rfl)
    have q6 := (blk_cell HK.out 6).trans (show _ = some (.int .u32 0) from rfl)
    have z0 := blk_frozen HK.out 0
    have z1 := blk_frozen HK.out 1
    have z2 := blk_frozen HK.out 2
    have z3 := blk_frozen HK.out 3
    have z4 := blk_frozen HK.out 4
    have z5 := blk_frozen HK.out 5
    have z6 := blk_frozen HK.out 6
    go_wp2
    refine bodyPost_ret (results_ct rfl _ _ (w.heap.size + 1) 27 #[.int .u8 0, .int .u8 0, .int .u32 0, .int .u32 0, .int .i64 0, .int .u8 0, .int .u32 0] (0, 0) _ rfl (blk_put7 HK.out _ _ _ _ _ _ _) Try.underlying27 rfl (by kernel_rfl)) rfl ?_
    refine ⟨rfl, below_put7 ?_ (by omega) _ _ _ _ _ _ _⟩
    exact (((Below.refl _ w).alloc (Nat.le_refl _) _).alloc (by simp) _).trans (HB.out.mono (by simp; omega))
end Go.Proofs.Ytiminjibcafkaaa.X
