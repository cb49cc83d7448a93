/- The law ItemTells, walked: what it calls tells the same on both sides. -/
import Derived.Test.YtiminjibcafkaaaITXhitemFind
import Derived.Test.YtiminjibcafkaaaITX7
import Derived.Test.YtiminjibcafkaaaITX9
import Derived.Test.YtiminjibcafkaaaITX10
import Derived.Test.YtiminjibcafkaaaITX11
import Derived.Test.YtiminjibcafkaaaITX12
import Derived.Test.YtiminjibcafkaaaITX2
import Derived.Test.YtiminjibcafkaaaITXquiet
namespace Go.Proofs.Ytiminjibcafkaaa.X
open Go.RowKit Go.Proofs.YtiminjibcafkaaaW.PrintWords Go.Proofs.YtiminjibcafkaaaW.PrintLast Go.Proofs.YtiminjibcafkaaaW.PrintMore
set_option linter.unusedVariables false
set_option linter.unusedSimpArgs false
attribute [local go_sem high] eqA27
set_option maxRecDepth 100000 in
set_option maxHeartbeats 4000000 in
theorem ItemTells_walk (k1 : Nat) (l : List S27) (A : Option Addr) (c : Nat) (a b : S27) (x : Int) (w : World) (hr : Kd.C k27 w A l.length l) (hc : l.length ≤ c)
    (haw : tidingslaw02_awake.f k1 = some true) (hlt : l.length ≤ 300)
    (p1 : Bool) (h1 : item_RightVer.f a.f1.f0 a.f1.f1 a.f1.f2 = some p1) (h1' : tidingsref02_RightVer.f a.f1.f0 a.f1.f1 a.f1.f2 = some p1)
    (p2 : Int) (h2 : item_Cmp.f k1 a.f1.f0 a.f1.f1 a.f1.f2 b.f1.f0 b.f1.f1 b.f1.f2 = some p2) (h2' : tidingsref02_Cmp.f a.f1.f0 a.f1.f1 a.f1.f2 b.f1.f0 b.f1.f1 b.f1.f2 = some p2)
    (p3 : Bool) (h3 : item_Right.f k1 l = some p3) (h3' : tidingsref02_Right.f k1 l = some p3)
    (y : S27) (h4 : item_Fade.f a.f0 a.f1.f0 a.f1.f1 a.f1.f2 a.f2 a.f3 a.f4 = some (y.f0, y.f1.f0, y.f1.f1, y.f1.f2, y.f2, y.f3, y.f4)) (h4' : tidingsref02_Fade.f a.f0 a.f1.f0 a.f1.f1 a.f1.f2 a.f2 a.f3 a.f4 = some (y.f0, y.f1.f0, y.f1.f1, y.f1.f2, y.f2, y.f3, y.f4))
    (z : S27) (p5 : Bool) (h5 : item_Find.f l a.f0 = some (z.f0, z.f1.f0, z.f1.f1, z.f1.f2, z.f2, z.f3, z.f4, p5)) (h5' : tidingsref02_Find.f k1 l a.f0 = some (z.f0, z.f1.f0, z.f1.f1, z.f1.f2, z.f2, z.f3, z.f4, p5))
    (p6 : Bool) (h6 : item_In.f a.f0 a.f1.f0 a.f1.f1 a.f1.f2 a.f2 a.f3 a.f4 x = some p6) (h6' : tidingsref02_In.f k1 a.f0 a.f1.f0 a.f1.f1 a.f1.f2 a.f2 a.f3 a.f4 x = some p6) :
    Calls Try.prog 5 #[.slice A l.length c, .agg #[.int .u8 a.f0, .int .u8 a.f1.f0, .int .u32 a.f1.f1, .int .u32 a.f1.f2, .int .i64 a.f2, .int .u8 a.f3, .int .u32 a.f4], .agg #[.int .u8 b.f0, .int .u8 b.f1.f0, .int .u32 b.f1.f1, .int .u32 b.f1.f2, .int .i64 b.f2, .int .u8 b.f3, .int .u32 b.f4], .int .u8 x] w
      fun e w' => e = .returned (.bool true) ∧ Below w.heap.size w w' := by
  have hu := Try.underlying27
  have hu2 := Try.underlying25
  have H1 := Aside0.mk h1
  have H1' := Aside0.mk h1'
  have H2 := Aside0.mk h2
  have H2' := Aside0.mk h2'
  have H3 := Aside0.mk h3
  have H3' := Aside0.mk h3'
  have H4 := Aside0.mk h4
  have H4' := Aside0.mk h4'
  have H5 := Aside0.mk h5
  have H5' := Aside0.mk h5'
  have H6 := Aside0.mk h6
  have H6' := Aside0.mk h6'
  have HA := Aside0.mk haw
  have HR := Aside0.mk hr
  have HC := Aside0.mk hc
  clear h1 h1' h2 h2' h3 h3' h4 h4' h5 h5' h6 h6' haw hr hc
  have hgt : decide ((l.length : Int) > 300) = false := decide_eq_false (by omega)
  have hgt2 : decide ((300 : Int) < (l.length : Int)) = false := decide_eq_false (by omega)
  have hgt3 : decide (300 < l.length) = false := decide_eq_false (by omega)
  go_enter Try.func5, Try.ntmps5
  go_wp2_with (go_at_call 8; refine (tidingslaw02_awake.calls k1 true _ HA.out).mono ?_; rintro e w1 ⟨rfl, hb1⟩)
  have B1 := Aside0.mk (blk_below (g := w.heap.size) (blk_alloc (blk_new w _) _) hb1)
  have B2 := Aside0.mk (blk_below (g := w.heap.size + 1) (by simpa using blk_new (w.alloc _) (.cells #[.int .u8 b.f0, .int .u8 b.f1.f0, .int .u32 b.f1.f1, .int .u32 b.f1.f2, .int .i64 b.f2, .int .u8 b.f3, .int .u32 b.f4] 27)) hb1)
  have HB := Aside0.mk ((((Below.refl _ w).alloc (Nat.le_refl _) _).alloc (by simp) _).trans (hb1.mono (by simp; omega)))
  have HR1 := Aside0.mk (Kd.C_below (Kd.C_alloc (Kd.C_alloc HR.out _) _) hb1)
  clear hb1 HR
  refine region_qc (by kernel_rfl) (by kernel_rfl) ?_
  repeat (
    refine wpQuiet_step (fun K hK => ?_)
    go_simp
    first
      | (refine hK _ ?_; clear hK K)
      | (apply Exists.intro
         refine ⟨fun w' hw0 => ?_, hK _ ?_⟩
         have hw' := Qc.out hw0
         clear hw0
         (first
           | (go_at_call 15; (with_reducible refine (item_RightVer.calls _ _ _ p1 w' H1.out).mono ?_); rintro e w2 ⟨rfl, hb⟩; exact ⟨rfl, below_step hw' hb⟩)
           | (go_at_call 16; (with_reducible refine (tidingsref02_RightVer.calls _ _ _ p1 w' H1'.out).mono ?_); rintro e w2 ⟨rfl, hb⟩; exact ⟨rfl, below_step hw' hb⟩)
           | (go_at_call 14; (with_reducible refine (item_Cmp.calls k1 _ _ _ _ _ _ p2 w' H2.out).mono ?_); rintro e w2 ⟨rfl, hb⟩; exact ⟨rfl, below_step hw' hb⟩)
           | (go_at_call 17; (with_reducible refine (tidingsref02_Cmp.calls _ _ _ _ _ _ p2 w' H2'.out).mono ?_); rintro e w2 ⟨rfl, hb⟩; exact ⟨rfl, below_step hw' hb⟩)
           | (go_at_call 18; (with_reducible refine (item_Right.calls k1 _ _ l p3 w' (Kd.C_below HR1.out hw') HC.out H3.out).mono ?_); rintro e w2 ⟨rfl, hb⟩; exact ⟨rfl, below_step hw' hb⟩)
           | (go_at_call 9; (with_reducible refine (tidingsref02_Right.calls k1 _ _ l p3 w' (Kd.C_below HR1.out hw') HC.out H3'.out).mono ?_); rintro e w2 ⟨rfl, hb⟩; exact ⟨rfl, below_step hw' hb⟩)
           | (go_at_call 19; (with_reducible refine (item_Fade.calls _ _ _ _ _ _ _ _ _ _ _ _ _ _ w' H4.out).mono ?_); rintro e w2 ⟨rfl, hb⟩; exact ⟨rfl, below_step hw' hb⟩)
           | (go_at_call 20; (with_reducible refine (tidingsref02_Fade.calls _ _ _ _ _ _ _ _ _ _ _ _ _ _ w' H4'.out).mono ?_); rintro e w2 ⟨rfl, hb⟩; exact ⟨rfl, below_step hw' hb⟩)
           | (obtain ⟨q0, q1, q2, q3, q4, q5, q6⟩ := cells7 (blk_below B1.out hw'); obtain ⟨r0, r1, r2, r3, r4, r5, r6⟩ := cells7 (blk_below B2.out hw'); go_simp; rfl))
         clear hK K))
  refine wpQuiet_nil ?_
  intro w2 hb2
  have B3 := Aside0.mk (blk_below B1.out hb2)
  have HB2 := Aside0.mk (below_step HB.out hb2)
  have HR2 := Aside0.mk (Kd.C_below HR1.out hb2)
  obtain ⟨q0, q1, q2, q3, q4, q5, q6⟩ := cells7 B3.out
  clear hb2 B1 B2 HB HR1
  go_wp2_with fail
  refine (item_Find.calls _ _ _ _ _ _ _ _ _ _ _ p5 _ HR2.out HC.out H5.out).mono ?_
  rintro e w3 ⟨rfl, hb3⟩
  have B4 := Aside0.mk (blk_below B3.out hb3)
  have HB3 := Aside0.mk (below_step HB2.out hb3)
  have HR3 := Aside0.mk (Kd.C_below HR2.out hb3)
  clear hb3 B3 HB2 HR2 q0 q1 q2 q3 q4 q5 q6
  obtain ⟨q0, q1, q2, q3, q4, q5, q6⟩ := cells7 B4.out
  have n3 : ∀ o, (w3.alloc o).cell? ⟨w.heap.size, 0, none⟩ = some (.int .u8 a.f0) := fun o => (blk_cell (blk_alloc B4.out o) 0).trans rfl
  go_wp2_with fail
  refine (tidingsref02_Find.calls k1 _ _ _ _ _ _ _ _ _ _ _ p5 _ (Kd.C_alloc HR3.out _) HC.out H5'.out).mono ?_
  rintro e w4 ⟨rfl, hb4⟩
  have B5 := Aside0.mk (blk_below (blk_alloc B4.out _) hb4)
  have B6 := Aside0.mk (blk_below (blk_new w3 (.cells #[.int .u8 z.f0, .int .u8 z.f1.f0, .int .u32 z.f1.f1, .int .u32 z.f1.f2, .int .i64 z.f2, .int .u8 z.f3, .int .u32 z.f4] 27)) hb4)
  have HB4 := Aside0.mk ((HB3.out.alloc HB3.out.size _).trans (hb4.mono (by have := HB3.out.size; simp; omega)))
  clear hb4 B4 HB3 q0 q1 q2 q3 q4 q5 q6 n3
  obtain ⟨q0, q1, q2, q3, q4, q5, q6⟩ := cells7 B5.out
  have n4 : w.heap.size ≠ w4.heap.size := Nat.ne_of_lt (blk_lt B5.out)
  have n5 : w3.heap.size ≠ w4.heap.size := Nat.ne_of_lt (blk_lt B6.out)
  go_wp2_with fail
  have B7 := Aside0.mk (blk_alloc B5.out (.cells #[.int .u8 z.f0, .int .u8 z.f1.f0, .int .u32 z.f1.f1, .int .u32 z.f1.f2, .int .i64 z.f2, .int .u8 z.f3, .int .u32 z.f4] 27))
  have B8 := Aside0.mk (blk_alloc B6.out (.cells #[.int .u8 z.f0, .int .u8 z.f1.f0, .int .u32 z.f1.f1, .int .u32 z.f1.f2, .int .i64 z.f2, .int .u8 z.f3, .int .u32 z.f4] 27))
  have B9 := Aside0.mk (blk_new w4 (.cells #[.int .u8 z.f0, .int .u8 z.f1.f0, .int .u32 z.f1.f1, .int .u32 z.f1.f2, .int .i64 z.f2, .int .u8 z.f3, .int .u32 z.f4] 27))
  have HB5 := Aside0.mk (HB4.out.alloc HB4.out.size (.cells #[.int .u8 z.f0, .int .u8 z.f1.f0, .int .u32 z.f1.f1, .int .u32 z.f1.f2, .int .i64 z.f2, .int .u8 z.f3, .int .u32 z.f4] 27))
  generalize w4.alloc _ = w5 at B7 B8 B9 HB5 ⊢
  refine region_qc (by kernel_rfl) (by kernel_rfl) ?_
  repeat (
    refine wpQuiet_step (fun K hK => ?_)
    go_simp
    first
      | (refine hK _ ?_; clear hK K)
      | (apply Exists.intro
         refine ⟨fun w' hw0 => ?_, hK _ ?_⟩
         have hw' := Qc.out hw0
         clear hw0
         (first
           | (go_at_call 22; (with_reducible refine (item_In.calls _ _ _ _ _ _ _ _ p6 w' H6.out).mono ?_); rintro e w2 ⟨rfl, hb⟩; exact ⟨rfl, below_step hw' hb⟩)
           | (go_at_call 23; (with_reducible refine (tidingsref02_In.calls k1 _ _ _ _ _ _ _ _ p6 w' H6'.out).mono ?_); rintro e w2 ⟨rfl, hb⟩; exact ⟨rfl, below_step hw' hb⟩)
           | (obtain ⟨q0, q1, q2, q3, q4, q5, q6⟩ := cells7 (blk_below B7.out hw'); obtain ⟨r0, r1, r2, r3, r4, r5, r6⟩ := cells7 (blk_below B8.out hw'); obtain ⟨s0, s1, s2, s3, s4, s5, s6⟩ := cells7 (blk_below B9.out hw'); go_simp; rfl))
         clear hK K))
  refine wpQuiet_nil ?_
  intro w6 hb6
  have HB6 := Aside0.mk (below_step HB5.out hb6)
  clear hb6
  go_wp2_with fail
  go_ret
  exact ⟨rfl, HB6.out⟩
end Go.Proofs.Ytiminjibcafkaaa.X
