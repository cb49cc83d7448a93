/- The law ItemTakes at every input. -/
import Derived.Test.YtiminjibcafkaaaDoorTKX8
import Derived.Test.YtiminjibcafkaaaDoorTKX5
import Derived.Test.YtiminjibcafkaaaDoorTKX9
import Derived.Test.YtiminjibcafkaaaDoorTKX12
import Derived.Test.YtiminjibcafkaaaDoorTKX13
import Derived.Test.YtiminjibcafkaaaDoorTKX11
import Derived.Test.YtiminjibcafkaaaDoorTKXpuretake2
import Derived.Test.YtiminjibcafkaaaDoorTKXcode2
namespace Go.Proofs.YtiminjibcafkaaaDoor.X
open Go.RowKit Go.Proofs.YtiminjibcafkaaaDoorW.PrintWords Go.Proofs.YtiminjibcafkaaaDoorW.PrintLast Go.Proofs.YtiminjibcafkaaaDoorW.PrintMore
set_option linter.unusedVariables false
set_option linter.unusedSimpArgs false
set_option maxRecDepth 100000 in
theorem ItemTakes_long (l : List S27) (A : Option Addr) (c : Nat) (e : S27) (w : World) (hlt : ¬ l.length ≤ 300) :
    Calls Tryd.prog 3 #[.slice A l.length c, .agg #[.int .u8 e.f0, .int .u8 e.f1.f0, .int .u32 e.f1.f1, .int .u32 e.f1.f2, .int .i64 e.f2, .int .u8 e.f3, .int .u32 e.f4]] w
      fun ev w' => ev = .returned (.bool true) ∧ Below w.heap.size w w' := by
  have hgt : decide ((l.length : Int) > 300) = true := decide_eq_true (by omega)
  have hgt2 : decide ((300 : Int) < (l.length : Int)) = true := decide_eq_true (by omega)
  have hgt3 : decide (300 < l.length) = true := decide_eq_true (by omega)
  have HA := Aside0.mk (awake02_any 60 (Nat.le_refl _))
  go_enter Tryd.func3, Tryd.ntmps3
  go_wp2_with (go_at_call 7; refine (tidingslaw02_awake.calls 60 true _ HA.out).mono ?_; rintro e w1 ⟨rfl, hb1⟩)
  go_ret
  exact ⟨rfl, ((Below.refl _ w).alloc (Nat.le_refl _) _).trans (hb1.mono (by simp))⟩
set_option maxRecDepth 100000 in
set_option maxHeartbeats 4000000 in
theorem ItemTakes_short (l : List S27) (A : Option Addr) (c : Nat) (e : S27) (w : World) (hg : GT w) (hr : Kd.C k27 w A l.length l) (hc : l.length ≤ c) (hlt : l.length ≤ 300) (ok : ∀ z ∈ l, Ok_Entry z) (oe : Ok_Entry e) :
    Calls Tryd.prog 3 #[.slice A l.length c, .agg #[.int .u8 e.f0, .int .u8 e.f1.f0, .int .u32 e.f1.f1, .int .u32 e.f1.f2, .int .i64 e.f2, .int .u8 e.f3, .int .u32 e.f4]] w
      fun ev w' => ev = .returned (.bool true) ∧ Below w.heap.size w w' := by
  have hgt : decide ((l.length : Int) > 300) = false := decide_eq_false (by omega)
  have hgt2 : decide ((300 : Int) < (l.length : Int)) = false := decide_eq_false (by omega)
  have hgt3 : decide (300 < l.length) = false := decide_eq_false (by omega)
  have HA := Aside0.mk (awake02_any 60 (Nat.le_refl _))
  have HT := Aside0.mk (Take_is l e (by omega) ok oe 2000 (by omega))
  have H1 := Aside0.mk (Right_is' l (by omega) ok 2000 (by omega))
  have H2 := Aside0.mk (RightEntry_is 1999 e oe)
  have HG := Aside0.mk hg
  have HR := Aside0.mk hr
  have HC := Aside0.mk hc
  clear hg hr hc
  have HU := Aside0.mk (fun (hR : rightL l = true) (hE : rightE e = true) => And.intro (refTake_is l e (by omega) hR 2000 (by omega)) (And.intro (Same02_is (insE l e) (by have := insE_length l e; omega) 2000 (by have := insE_length l e; omega)) ((Right_is (insE l e) (by have := insE_length l e; omega) (insE_ok l e ok oe) 2000 (by have := insE_length l e; omega)).trans (congrArg some (insE_right l e hR hE)))))
  clear ok oe
  have go : ∀ (bR bE : Bool), rightL l = bR → rightE e = bE → Calls Tryd.prog 3 #[.slice A l.length c, .agg #[.int .u8 e.f0, .int .u8 e.f1.f0, .int .u32 e.f1.f1, .int .u32 e.f1.f2, .int .i64 e.f2, .int .u8 e.f3, .int .u32 e.f4]] w
      fun ev w' => ev = .returned (.bool true) ∧ Below w.heap.size w w' := by
    intro bR bE hR hE
    cases bR with
    | false =>
      have HT' := Aside0.mk (show item_Take.f 2000 l e.f0 e.f1.f0 e.f1.f1 e.f1.f2 e.f2 e.f3 e.f4 = some ([], some 9) by rw [HT.out, hR]; rfl)
      have H1' := Aside0.mk (H1.out.trans (congrArg some hR))
      clear HT H1 H2 HU hR hE
      go_enter Tryd.func3, Tryd.ntmps3
      go_wp2_with fail
      refine (tidingslaw02_awake.calls 60 true _ HA.out).mono ?_
      rintro ev w1 ⟨rfl, hb1⟩
      have B1 := Aside0.mk (blk_below (blk_new w (.cells #[.int .u8 e.f0, .int .u8 e.f1.f0, .int .u32 e.f1.f1, .int .u32 e.f1.f2, .int .i64 e.f2, .int .u8 e.f3, .int .u32 e.f4] 27)) hb1)
      have HB1 := Aside0.mk (((Below.refl _ w).alloc (Nat.le_refl _) _).trans (hb1.mono (by simp)))
      clear hb1
      obtain ⟨q0, q1, q2, q3, q4, q5, q6⟩ := cells7 B1.out
      go_wp2_with fail
      refine (item_Take.calls 2000 _ _ l _ _ _ _ _ _ _ [] (some 9) _ (Kd.C_below HR.out HB1.out) HC.out HT'.out).mono ?_
      rintro ev w2 ⟨v2, rfl, hR2, hb2⟩
      obtain ⟨A2, c2, rfl, hc2, hC2⟩ := Kd.R_reads hR2
      have B2 := Aside0.mk (blk_below B1.out hb2)
      have HB2 := Aside0.mk (below_step HB1.out hb2)
      have HD2 := Aside0.mk hc2
      have HC2 := Aside0.mk hC2
      clear q0 q1 q2 q3 q4 q5 q6 hR2 hb2 hc2 hC2 B1 HB1
      obtain ⟨q0, q1, q2, q3, q4, q5, q6⟩ := cells7 B2.out
      go_wp2_with fail
      refine (tidingsref02_Right.calls 2000 _ _ l false _ (Kd.C_below HR.out HB2.out) HC.out H1'.out).mono ?_
      rintro ev w3 ⟨rfl, hb3⟩
      have B3 := Aside0.mk (blk_below B2.out hb3)
      have HB3 := Aside0.mk (below_step HB2.out hb3)
      have HC3 := Aside0.mk (Kd.C_below HC2.out hb3)
      clear q0 q1 q2 q3 q4 q5 q6 hb3 B2 HB2 HC2
      obtain ⟨q0, q1, q2, q3, q4, q5, q6⟩ := cells7 B3.out
      go_wp2_with fail
      refine (Code_calls (some 9) _ (HG.out.below HB3.out)).mono ?_
      rintro ev w5 ⟨rfl, hb5⟩
      have HB5 := Aside0.mk (below_step HB3.out hb5)
      clear hb5
      have hc9 : codeOf (some 9) = 9 := rfl
      go_wp2_with fail
      go_ret
      exact ⟨rfl, HB5.out⟩
    | true =>
      have H1' := Aside0.mk (H1.out.trans (congrArg some hR))
      have H2' := Aside0.mk (H2.out.trans (congrArg some hE))
      cases bE with
      | false =>
        have HT' := Aside0.mk (show item_Take.f 2000 l e.f0 e.f1.f0 e.f1.f1 e.f1.f2 e.f2 e.f3 e.f4 = some ([], some 9) by rw [HT.out, hR, hE]; rfl)
        clear HT H1 H2 HU hR hE
        go_enter Tryd.func3, Tryd.ntmps3
        go_wp2_with fail
        refine (tidingslaw02_awake.calls 60 true _ HA.out).mono ?_
        rintro ev w1 ⟨rfl, hb1⟩
        have B1 := Aside0.mk (blk_below (blk_new w (.cells #[.int .u8 e.f0, .int .u8 e.f1.f0, .int .u32 e.f1.f1, .int .u32 e.f1.f2, .int .i64 e.f2, .int .u8 e.f3, .int .u32 e.f4] 27)) hb1)
        have HB1 := Aside0.mk (((Below.refl _ w).alloc (Nat.le_refl _) _).trans (hb1.mono (by simp)))
        clear hb1
        obtain ⟨q0, q1, q2, q3, q4, q5, q6⟩ := cells7 B1.out
        go_wp2_with fail
        refine (item_Take.calls 2000 _ _ l _ _ _ _ _ _ _ [] (some 9) _ (Kd.C_below HR.out HB1.out) HC.out HT'.out).mono ?_
        rintro ev w2 ⟨v2, rfl, hR2, hb2⟩
        obtain ⟨A2, c2, rfl, hc2, hC2⟩ := Kd.R_reads hR2
        have B2 := Aside0.mk (blk_below B1.out hb2)
        have HB2 := Aside0.mk (below_step HB1.out hb2)
        have HD2 := Aside0.mk hc2
        have HC2 := Aside0.mk hC2
        clear q0 q1 q2 q3 q4 q5 q6 hR2 hb2 hc2 hC2 B1 HB1
        obtain ⟨q0, q1, q2, q3, q4, q5, q6⟩ := cells7 B2.out
        go_wp2_with fail
        refine (tidingsref02_Right.calls 2000 _ _ l true _ (Kd.C_below HR.out HB2.out) HC.out H1'.out).mono ?_
        rintro ev w3 ⟨rfl, hb3⟩
        have B3 := Aside0.mk (blk_below B2.out hb3)
        have HB3 := Aside0.mk (below_step HB2.out hb3)
        have HC3 := Aside0.mk (Kd.C_below HC2.out hb3)
        clear q0 q1 q2 q3 q4 q5 q6 hb3 B2 HB2 HC2
        obtain ⟨q0, q1, q2, q3, q4, q5, q6⟩ := cells7 B3.out
        go_wp2_with fail
        refine (tidingsref02_RightEntry.calls 2000 _ _ _ _ _ _ _ false _ H2'.out).mono ?_
        rintro ev w4 ⟨rfl, hb4⟩
        have B4 := Aside0.mk (blk_below B3.out hb4)
        have HB4 := Aside0.mk (below_step HB3.out hb4)
        have HC4 := Aside0.mk (Kd.C_below HC3.out hb4)
        clear q0 q1 q2 q3 q4 q5 q6 hb4 B3 HB3 HC3
        obtain ⟨q0, q1, q2, q3, q4, q5, q6⟩ := cells7 B4.out
        go_wp2_with fail
        refine (Code_calls (some 9) _ (HG.out.below HB4.out)).mono ?_
        rintro ev w5 ⟨rfl, hb5⟩
        have HB5 := Aside0.mk (below_step HB4.out hb5)
        clear hb5
        have hc9 : codeOf (some 9) = 9 := rfl
        go_wp2_with fail
        go_ret
        exact ⟨rfl, HB5.out⟩
      | true =>
        have HT' := Aside0.mk (show item_Take.f 2000 l e.f0 e.f1.f0 e.f1.f1 e.f1.f2 e.f2 e.f3 e.f4 = some (insE l e, none) by rw [HT.out, hR, hE]; rfl)
        obtain ⟨u1, u2, u3⟩ := HU.out hR hE
        have HT2 := Aside0.mk u1
        have HS2 := Aside0.mk u2
        have HI2 := Aside0.mk u3
        clear HT H1 H2 HU hR hE u1 u2 u3
        generalize insE l e = l2 at HT' HT2 HS2 HI2
        go_enter Tryd.func3, Tryd.ntmps3
        go_wp2_with fail
        refine (tidingslaw02_awake.calls 60 true _ HA.out).mono ?_
        rintro ev w1 ⟨rfl, hb1⟩
        have B1 := Aside0.mk (blk_below (blk_new w (.cells #[.int .u8 e.f0, .int .u8 e.f1.f0, .int .u32 e.f1.f1, .int .u32 e.f1.f2, .int .i64 e.f2, .int .u8 e.f3, .int .u32 e.f4] 27)) hb1)
        have HB1 := Aside0.mk (((Below.refl _ w).alloc (Nat.le_refl _) _).trans (hb1.mono (by simp)))
        clear hb1
        obtain ⟨q0, q1, q2, q3, q4, q5, q6⟩ := cells7 B1.out
        go_wp2_with fail
        refine (item_Take.calls 2000 _ _ l _ _ _ _ _ _ _ l2 none _ (Kd.C_below HR.out HB1.out) HC.out HT'.out).mono ?_
        rintro ev w2 ⟨v2, rfl, hR2, hb2⟩
        obtain ⟨A2, c2, rfl, hc2, hC2⟩ := Kd.R_reads hR2
        have B2 := Aside0.mk (blk_below B1.out hb2)
        have HB2 := Aside0.mk (below_step HB1.out hb2)
        have HD2 := Aside0.mk hc2
        have HC2 := Aside0.mk hC2
        clear q0 q1 q2 q3 q4 q5 q6 hR2 hb2 hc2 hC2 B1 HB1
        obtain ⟨q0, q1, q2, q3, q4, q5, q6⟩ := cells7 B2.out
        go_wp2_with fail
        refine (tidingsref02_Right.calls 2000 _ _ l true _ (Kd.C_below HR.out HB2.out) HC.out H1'.out).mono ?_
        rintro ev w3 ⟨rfl, hb3⟩
        have B3 := Aside0.mk (blk_below B2.out hb3)
        have HB3 := Aside0.mk (below_step HB2.out hb3)
        have HC3 := Aside0.mk (Kd.C_below HC2.out hb3)
        clear q0 q1 q2 q3 q4 q5 q6 hb3 B2 HB2 HC2
        obtain ⟨q0, q1, q2, q3, q4, q5, q6⟩ := cells7 B3.out
        go_wp2_with fail
        refine (tidingsref02_RightEntry.calls 2000 _ _ _ _ _ _ _ true _ H2'.out).mono ?_
        rintro ev w4 ⟨rfl, hb4⟩
        have B4 := Aside0.mk (blk_below B3.out hb4)
        have HB4 := Aside0.mk (below_step HB3.out hb4)
        have HC4 := Aside0.mk (Kd.C_below HC3.out hb4)
        clear q0 q1 q2 q3 q4 q5 q6 hb4 B3 HB3 HC3
        obtain ⟨q0, q1, q2, q3, q4, q5, q6⟩ := cells7 B4.out
        have eW := errW_none
        go_wp2_with fail
        refine (tidingsref02_Take.calls 2000 _ _ l _ _ _ _ _ _ _ l2 _ (Kd.C_below HR.out HB4.out) HC.out HT2.out).mono ?_
        rintro ev w5 ⟨v5, rfl, hR5, hb5⟩
        obtain ⟨A5, c5, rfl, hc5, hC5⟩ := Kd.R_reads hR5
        have HB5 := Aside0.mk (below_step HB4.out hb5)
        have HD5 := Aside0.mk hc5
        have HC5 := Aside0.mk hC5
        have HC4' := Aside0.mk (Kd.C_below HC4.out hb5)
        clear q0 q1 q2 q3 q4 q5 q6 hR5 hb5 hc5 hC5 B4 HB4 HC4
        go_wp2_with fail
        refine (tidingsref02_Same.calls 2000 _ _ l2 _ _ l2 true _ HC4'.out HD2.out HC5.out HD5.out HS2.out).mono ?_
        rintro ev w6 ⟨rfl, hd6⟩
        have hb6 : Below w5.heap.size w5 w6 := by obtain ⟨nd, rfl⟩ := hd6; exact pw_below_drewN (Below.refl _ _) nd
        clear hd6
        have HB6 := Aside0.mk (below_step HB5.out hb6)
        have HC6 := Aside0.mk (Kd.C_below HC4'.out hb6)
        clear hb6 HB5 HC5 HC4'
        go_wp2_with fail
        refine (item_Right.calls 2000 _ _ l2 true _ HC6.out HD2.out HI2.out).mono ?_
        rintro ev w7 ⟨rfl, hb7⟩
        have HB7 := Aside0.mk (below_step HB6.out hb7)
        clear hb7
        go_wp2_with fail
        go_ret
        exact ⟨rfl, HB7.out⟩
  exact go _ _ rfl rfl
theorem ItemTakes_law (w : World) (x0 : List S27) (x1 : S27) (o0 : ∀ z ∈ x0, Ok_Entry z) (o1 : Ok_Entry x1) (hg : GT w) {A0 : Option Addr} {c0 : Nat} (g0 : Kd.C k27 w A0 x0.length x0) (l0 : x0.length ≤ c0) :
    Calls Tryd.prog 3 #[.slice A0 x0.length c0, .agg #[.int .u8 x1.f0, .int .u8 x1.f1.f0, .int .u32 x1.f1.f1, .int .u32 x1.f1.f2, .int .i64 x1.f2, .int .u8 x1.f3, .int .u32 x1.f4]] w
      fun e w' => e = .returned (.bool true) ∧ Below w.heap.size w w' := by
  by_cases h : x0.length ≤ 300
  · exact ItemTakes_short x0 A0 c0 x1 w hg g0 l0 h o0 o1
  · exact ItemTakes_long x0 A0 c0 x1 w h
end Go.Proofs.YtiminjibcafkaaaDoor.X
