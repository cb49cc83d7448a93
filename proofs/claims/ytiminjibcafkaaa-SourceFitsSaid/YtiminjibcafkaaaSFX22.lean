-- MADE BY wip/prx.py (the kit's printer, with contracts proved by hand). Not trusted: Lean checks it.
import Derived.Test.YtiminjibcafkaaaSFX0
import Derived.Test.YtiminjibcafkaaaSFJ8
namespace Go.Proofs.Ytiminjibcafkaaa.X
open Go.RowKit Go.Proofs.YtiminjibcafkaaaW.PrintWords Go.Proofs.YtiminjibcafkaaaW.PrintLast Go.Proofs.YtiminjibcafkaaaW.PrintMore
attribute [local go_sem] max2_int min2_int max_two min_two max_three min_three max_four min_four   -- for this text's walks alone
set_option linter.unusedVariables false
set_option linter.unusedSimpArgs false
attribute [local go_sem high] eqA27
/-! ### tidingsref01_Right: function 54 -/
mutual
def tidingsref01_Right.l0 : Nat → List (S78) → Int → Option (Bool)
  | 0, _, _ => none
  | k + 1, x0, x3 => if x3 < (x0.length : Int) then (if 0 ≤ x3 then (if ((rd_T78 x0 x3).f0) ≥ 8 then (tidingsref01_Right.j1 k x0 x3 true) else (if ((rd_T78 x0 x3).f1) = 0 then (tidingsref01_Right.j1 k x0 x3 true) else (tidingsref01_Right.j1 k x0 x3 (decide (((rd_T78 x0 x3).f1) > ((rd_T78 x0 x3).f2)))))) else (none)) else (some (decide ((x0.length : Int) ≤ 64)))
def tidingsref01_Right.j1 : Nat → List (S78) → Int → Bool → Option (Bool)
  | 0, _, _, _ => none
  | k + 1, x0, x3, x36 => if x36 = true then (some false) else (if x3 > 0 then (if 0 ≤ (wrap64 (x3 - 1)) then (if (wrap64 (x3 - 1)) < (x0.length : Int) then (if 0 ≤ x3 then (if x3 < (x0.length : Int) then (if ((rd_T78 x0 (wrap64 (x3 - 1))).f0) > ((rd_T78 x0 x3).f0) then (some false) else (if ((rd_T78 x0 (wrap64 (x3 - 1))).f0) = ((rd_T78 x0 x3).f0) then (if (IntKind.u64.wrap ((IntKind.u64.wrap ((rd_T78 x0 (wrap64 (x3 - 1))).f2)) + 1)) ≥ (IntKind.u64.wrap ((rd_T78 x0 x3).f1)) then (some false) else (tidingsref01_Right.l0 k x0 (wrap64 (x3 + 1)))) else (tidingsref01_Right.l0 k x0 (wrap64 (x3 + 1))))) else (none)) else (none)) else (none)) else (none)) else (tidingsref01_Right.l0 k x0 (wrap64 (x3 + 1))))
end
def tidingsref01_Right.f (k : Nat) (l0 : List (S78)) : Option (Bool) := tidingsref01_Right.l0 k l0 0
set_option maxHeartbeats 8000000 in
set_option maxRecDepth 100000 in
theorem tidingsref01_Right.calls (k : Nat) (A0 : Option Addr) (c0 : Nat) (l0 : List (S78)) (r : Bool) (w : World) (hr0 : Kd.C k78 w A0 l0.length l0) (hc0 : l0.length ≤ c0) (h : tidingsref01_Right.f k l0 = some r) :
    Calls Try.prog 54 #[.slice A0 l0.length c0] w fun e w' => e = .returned (.bool r) ∧ Drawn0 w w' := by
  have HR0 := Aside0.mk hr0
  have HC0 := Aside0.mk hc0
  clear hr0 hc0
  have H : (tidingsref01_Right.l0 k l0 0) = some r := h
  clear h
  have H' := Aside0.mk H
  clear H
  go_enter Try.func54, Try.ntmps54
  go_wp2
  repeat (go_quiet (fail); try go_wp2)
  go_loopg [3] k (fun kq v3 w' => ∃ (x3_1 : Int), v3 = .int .i64 x3_1 ∧ Aside0 (tidingsref01_Right.l0 kq l0 x3_1 = some r) ∧ Aside0 (kq ≤ k) ∧ Drawn0 w w')
  case atStart => exact ⟨(0), (by first | rfl | (simp; done) | (simp [*]; done)), H', ⟨Nat.le_refl _⟩, by repeat (first | exact Drawn0.refl _ | apply Drawn0.step)⟩
  case round =>
    clear H'
    obtain ⟨x3_1, rfl, HA, HK1, ⟨m1, rfl⟩⟩ := hrel
    cases gk with
    | zero => exact absurd HA.out (by simp [tidingsref01_Right.l0])
    | succ k1 =>
      have H := HA.out
      clear HA
      simp only [tidingsref01_Right.l0] at H
      by_cases c2 : x3_1 < (l0.length : Int)
      · rw [if_pos c2] at H
        have c2b0 : decide (x3_1 < (l0.length : Int)) = true := decide_eq_true c2
        clear c2
        have HC3 := Aside0.mk H
        clear H
        go_upto_region 4 with (fail)
        repeat (go_quiet (fail); go_upto_region 4 with (fail))
        go_cut [36] (fun v36 wc => ∃ (kq : Nat) (x36_2 : Bool), v36 = .bool x36_2 ∧ Aside0 (tidingsref01_Right.j1 kq l0 x3_1 x36_2 = some r) ∧ Aside0 (kq ≤ k1) ∧ Drawn0 w wc)
        case first =>
          have H := HC3.out
          clear HC3
          by_cases c4 : 0 ≤ x3_1
          · rw [if_pos c4] at H
            have c4b0 : decide (0 ≤ x3_1) = true := decide_eq_true c4
            clear c4
            (first | rw [c4b0] | (simp only [i64_w, i32_w]; rw [c4b0]) | skip)
            by_cases c5 : ((rd_T78 l0 x3_1).f0) ≥ 8
            · rw [if_pos c5] at H
              have c5b0 : decide (8 ≤ ((rd_T78 l0 x3_1).f0)) = true := decide_eq_true c5
              clear c5
              have H' := Aside0.mk H
              clear H
              have p426 : 0 ≤ (x3_1 : Int) := of_decide_eq_true (by first | (with_reducible assumption) | assumption)
              have q426 : x3_1 < (l0.length : Int) := of_decide_eq_true (by first | (with_reducible assumption) | assumption)
              obtain ⟨ad426, e426, hx426_0, hx426_1, hx426_2⟩ := at_T78 HR0.out x3_1 p426 q426
              cases e426
              replace p426 := eq_true p426
              replace q426 := eq_true q426
              go_wp2
              repeat (go_quiet (fail); try go_wp2)
              go_meet
              case rel => exact ⟨_, (true), (by first | rfl | (simp; done) | (simp [*]; done)), H', ⟨by have := HK1.out; first | omega | exact Nat.le_refl _⟩, by repeat (first | exact Drawn0.refl _ | apply Drawn0.step)⟩
            · rw [if_neg c5] at H
              have c5b0 : decide (8 ≤ ((rd_T78 l0 x3_1).f0)) = false := decide_eq_false c5
              clear c5
              by_cases c6 : ((rd_T78 l0 x3_1).f1) = 0
              · rw [if_pos c6] at H
                have c6b0 : (((rd_T78 l0 x3_1).f1) == 0) = true := beq_iff_eq.mpr c6
                have c6b1 : (((rd_T78 l0 x3_1).f1) != 0) = false := bne_eq_false_iff_eq.mpr c6
                clear c6
                have H' := Aside0.mk H
                clear H
                have p426 : 0 ≤ (x3_1 : Int) := of_decide_eq_true (by first | (with_reducible assumption) | assumption)
                have q426 : x3_1 < (l0.length : Int) := of_decide_eq_true (by first | (with_reducible assumption) | assumption)
                obtain ⟨ad426, e426, hx426_0, hx426_1, hx426_2⟩ := at_T78 HR0.out x3_1 p426 q426
                cases e426
                replace p426 := eq_true p426
                replace q426 := eq_true q426
                have p427 : 0 ≤ (x3_1 : Int) := of_decide_eq_true (by first | (with_reducible assumption) | assumption)
                have q427 : x3_1 < (l0.length : Int) := of_decide_eq_true (by first | (with_reducible assumption) | assumption)
                obtain ⟨ad427, e427, hx427_0, hx427_1, hx427_2⟩ := at_T78 HR0.out x3_1 p427 q427
                obtain rfl : ad426 = ad427 := (by injection e427)
                replace p427 := eq_true p427
                replace q427 := eq_true q427
                go_wp2
                repeat (go_quiet (fail); try go_wp2)
                go_meet
                case rel => exact ⟨_, (true), (by first | rfl | (simp; done) | (simp [*]; done)), H', ⟨by have := HK1.out; first | omega | exact Nat.le_refl _⟩, by repeat (first | exact Drawn0.refl _ | apply Drawn0.step)⟩
              · rw [if_neg c6] at H
                have c6b0 : (((rd_T78 l0 x3_1).f1) == 0) = false := beq_eq_false_iff_ne.mpr c6
                have c6b1 : (((rd_T78 l0 x3_1).f1) != 0) = true := bne_iff_ne.mpr c6
                have H' := Aside0.mk H
                clear H
                have p426 : 0 ≤ (x3_1 : Int) := of_decide_eq_true (by first | (with_reducible assumption) | assumption)
                have q426 : x3_1 < (l0.length : Int) := of_decide_eq_true (by first | (with_reducible assumption) | assumption)
                obtain ⟨ad426, e426, hx426_0, hx426_1, hx426_2⟩ := at_T78 HR0.out x3_1 p426 q426
                cases e426
                replace p426 := eq_true p426
                replace q426 := eq_true q426
                have p427 : 0 ≤ (x3_1 : Int) := of_decide_eq_true (by first | (with_reducible assumption) | assumption)
                have q427 : x3_1 < (l0.length : Int) := of_decide_eq_true (by first | (with_reducible assumption) | assumption)
                obtain ⟨ad427, e427, hx427_0, hx427_1, hx427_2⟩ := at_T78 HR0.out x3_1 p427 q427
                obtain rfl : ad426 = ad427 := (by injection e427)
                replace p427 := eq_true p427
                replace q427 := eq_true q427
                have p428 : 0 ≤ (x3_1 : Int) := of_decide_eq_true (by first | (with_reducible assumption) | assumption)
                have q428 : x3_1 < (l0.length : Int) := of_decide_eq_true (by first | (with_reducible assumption) | assumption)
                obtain ⟨ad428, e428, hx428_0, hx428_1, hx428_2⟩ := at_T78 HR0.out x3_1 p428 q428
                obtain rfl : ad426 = ad428 := (by injection e428)
                replace p428 := eq_true p428
                replace q428 := eq_true q428
                have p429 : 0 ≤ (x3_1 : Int) := of_decide_eq_true (by first | (with_reducible assumption) | assumption)
                have q429 : x3_1 < (l0.length : Int) := of_decide_eq_true (by first | (with_reducible assumption) | assumption)
                obtain ⟨ad429, e429, hx429_0, hx429_1, hx429_2⟩ := at_T78 HR0.out x3_1 p429 q429
                obtain rfl : ad426 = ad429 := (by injection e429)
                replace p429 := eq_true p429
                replace q429 := eq_true q429
                go_wp2
                repeat (go_quiet (fail); try go_wp2)
                go_meet
                case rel => exact ⟨_, (decide (((rd_T78 l0 x3_1).f1) > ((rd_T78 l0 x3_1).f2))), (by first | rfl | (simp; done) | (simp [*]; done)), H', ⟨by have := HK1.out; first | omega | exact Nat.le_refl _⟩, by repeat (first | exact Drawn0.refl _ | apply Drawn0.step)⟩
          · rw [if_neg c4] at H
            exact absurd H (by simp)
        case rest =>
          clear HC3
          try clear c2
          try clear c2b0
          try clear p2
          try clear c4
          try clear c4b0
          try clear p4
          try clear q4
          try clear hx4
          try clear c5
          try clear c5b0
          try clear c6
          try clear c6b0
          try clear c6b1
          try clear hx426_0
          try clear hx426_1
          try clear hx426_2
          try clear hx427_0
          try clear hx427_1
          try clear hx427_2
          try clear hx428_0
          try clear hx428_1
          try clear hx428_2
          try clear hx429_0
          try clear hx429_1
          try clear hx429_2
          try clear p426
          try clear p427
          try clear p428
          try clear p429
          try clear q426
          try clear q427
          try clear q428
          try clear q429
          obtain ⟨kq, x36_2, rfl, HA, HJ2, ⟨mc2, rfl⟩⟩ := hcut
          cases kq with
          | zero => exact absurd HA.out (by simp [tidingsref01_Right.j1])
          | succ kj2 =>
            have H := HA.out
            clear HA
            simp only [tidingsref01_Right.j1] at H
            by_cases c7 : x36_2 = true
            · subst c7
              have H1 : (some false) = some r := by rw [if_pos rfl] at H; exact H
              clear H
              have H := H1
              clear H1
              obtain rfl := Option.some.inj H
              go_wp2
              repeat (go_quiet (fail); try go_wp2)
              go_ret
              exact ⟨by first | rfl | (simp; done) | (simp [*]; done), by repeat (first | exact Drawn0.refl _ | apply Drawn0.step)⟩
            · replace c7 := Bool.eq_false_iff.mpr c7
              subst c7
              have H1 : (if x3_1 > 0 then (if 0 ≤ (wrap64 (x3_1 - 1)) then (if (wrap64 (x3_1 - 1)) < (l0.length : Int) then (if 0 ≤ x3_1 then (if x3_1 < (l0.length : Int) then (if ((rd_T78 l0 (wrap64 (x3_1 - 1))).f0) > ((rd_T78 l0 x3_1).f0) then (some false) else (if ((rd_T78 l0 (wrap64 (x3_1 - 1))).f0) = ((rd_T78 l0 x3_1).f0) then (if (IntKind.u64.wrap ((IntKind.u64.wrap ((rd_T78 l0 (wrap64 (x3_1 - 1))).f2)) + 1)) ≥ (IntKind.u64.wrap ((rd_T78 l0 x3_1).f1)) then (some false) else (tidingsref01_Right.l0 kj2 l0 (wrap64 (x3_1 + 1)))) else (tidingsref01_Right.l0 kj2 l0 (wrap64 (x3_1 + 1))))) else (none)) else (none)) else (none)) else (none)) else (tidingsref01_Right.l0 kj2 l0 (wrap64 (x3_1 + 1)))) = some r := by rw [if_neg (show ¬ (false = true) by decide)] at H; exact H
              clear H
              have H := H1
              clear H1
              by_cases c8 : x3_1 > 0
              · rw [if_pos c8] at H
                have c8b0 : decide (0 < x3_1) = true := decide_eq_true c8
                clear c8
                obtain ⟨ji9, hji9⟩ : ∃ j_ : Int, (wrap64 (x3_1 - 1)) = j_ := ⟨_, rfl⟩
                replace H : (if 0 ≤ (ji9) then (if (ji9) < (l0.length : Int) then (if 0 ≤ x3_1 then (if x3_1 < (l0.length : Int) then (if ((rd_T78 l0 (ji9)).f0) > ((rd_T78 l0 x3_1).f0) then (some false) else (if ((rd_T78 l0 (ji9)).f0) = ((rd_T78 l0 x3_1).f0) then (if (IntKind.u64.wrap ((IntKind.u64.wrap ((rd_T78 l0 (ji9)).f2)) + 1)) ≥ (IntKind.u64.wrap ((rd_T78 l0 x3_1).f1)) then (some false) else (tidingsref01_Right.l0 kj2 l0 (wrap64 (x3_1 + 1)))) else (tidingsref01_Right.l0 kj2 l0 (wrap64 (x3_1 + 1))))) else (none)) else (none)) else (none)) else (none)) = some r := by first | (rw [hji9] at H; exact H) | (simp only [hji9] at H ⊢; exact H)
                have hji9w : (IntKind.i64.wrap (x3_1 - 1)) = ji9 := (i64_w _).trans hji9
                by_cases c10 : 0 ≤ (ji9)
                · rw [if_pos c10] at H
                  have c10b0 : decide (0 ≤ (ji9)) = true := decide_eq_true c10
                  clear c10
                  by_cases c11 : (ji9) < (l0.length : Int)
                  · rw [if_pos c11] at H
                    have c11b0 : decide ((ji9) < (l0.length : Int)) = true := decide_eq_true c11
                    clear c11
                    by_cases c12 : 0 ≤ x3_1
                    · rw [if_pos c12] at H
                      have c12b0 : decide (0 ≤ x3_1) = true := decide_eq_true c12
                      clear c12
                      by_cases c13 : x3_1 < (l0.length : Int)
                      · rw [if_pos c13] at H
                        have c13b0 : decide (x3_1 < (l0.length : Int)) = true := decide_eq_true c13
                        clear c13
                        by_cases c14 : ((rd_T78 l0 (ji9)).f0) > ((rd_T78 l0 x3_1).f0)
                        · rw [if_pos c14] at H
                          have c14b0 : decide (((rd_T78 l0 x3_1).f0) < ((rd_T78 l0 (ji9)).f0)) = true := decide_eq_true c14
                          clear c14
                          obtain rfl := Option.some.inj H
                          have p430 : 0 ≤ ((ji9) : Int) := of_decide_eq_true (by first | (with_reducible assumption) | assumption)
                          have q430 : (ji9) < (l0.length : Int) := of_decide_eq_true (by first | (with_reducible assumption) | assumption)
                          obtain ⟨ad430, e430, hx430_0, hx430_1, hx430_2⟩ := at_T78 HR0.out (ji9) p430 q430
                          cases e430
                          replace p430 := eq_true p430
                          replace q430 := eq_true q430
                          have p431 : 0 ≤ (x3_1 : Int) := of_decide_eq_true (by first | (with_reducible assumption) | assumption)
                          have q431 : x3_1 < (l0.length : Int) := of_decide_eq_true (by first | (with_reducible assumption) | assumption)
                          obtain ⟨ad431, e431, hx431_0, hx431_1, hx431_2⟩ := at_T78 HR0.out x3_1 p431 q431
                          obtain rfl : ad430 = ad431 := (by injection e431)
                          replace p431 := eq_true p431
                          replace q431 := eq_true q431
                          go_wp2
                          repeat (go_quiet (fail); try go_wp2)
                          go_ret
                          exact ⟨by first | rfl | (simp; done) | (simp only [← hji9] <;> (first | rfl | simp)) | (simp [*]; done), by repeat (first | exact Drawn0.refl _ | apply Drawn0.step)⟩
                        · rw [if_neg c14] at H
                          have c14b0 : decide (((rd_T78 l0 x3_1).f0) < ((rd_T78 l0 (ji9)).f0)) = false := decide_eq_false c14
                          clear c14
                          by_cases c15 : ((rd_T78 l0 (ji9)).f0) = ((rd_T78 l0 x3_1).f0)
                          · rw [if_pos c15] at H
                            have c15b0 : (((rd_T78 l0 (ji9)).f0) == ((rd_T78 l0 x3_1).f0)) = true := beq_iff_eq.mpr c15
                            have c15b1 : (((rd_T78 l0 (ji9)).f0) != ((rd_T78 l0 x3_1).f0)) = false := bne_eq_false_iff_eq.mpr c15
                            clear c15
                            by_cases c16 : (IntKind.u64.wrap ((IntKind.u64.wrap ((rd_T78 l0 (ji9)).f2)) + 1)) ≥ (IntKind.u64.wrap ((rd_T78 l0 x3_1).f1))
                            · rw [if_pos c16] at H
                              have c16b0 : decide ((IntKind.u64.wrap ((rd_T78 l0 x3_1).f1)) ≤ (IntKind.u64.wrap ((IntKind.u64.wrap ((rd_T78 l0 (ji9)).f2)) + 1))) = true := decide_eq_true c16
                              clear c16
                              obtain rfl := Option.some.inj H
                              have p430 : 0 ≤ ((ji9) : Int) := of_decide_eq_true (by first | (with_reducible assumption) | assumption)
                              have q430 : (ji9) < (l0.length : Int) := of_decide_eq_true (by first | (with_reducible assumption) | assumption)
                              obtain ⟨ad430, e430, hx430_0, hx430_1, hx430_2⟩ := at_T78 HR0.out (ji9) p430 q430
                              cases e430
                              replace p430 := eq_true p430
                              replace q430 := eq_true q430
                              have p431 : 0 ≤ (x3_1 : Int) := of_decide_eq_true (by first | (with_reducible assumption) | assumption)
                              have q431 : x3_1 < (l0.length : Int) := of_decide_eq_true (by first | (with_reducible assumption) | assumption)
                              obtain ⟨ad431, e431, hx431_0, hx431_1, hx431_2⟩ := at_T78 HR0.out x3_1 p431 q431
                              obtain rfl : ad430 = ad431 := (by injection e431)
                              replace p431 := eq_true p431
                              replace q431 := eq_true q431
                              have p432 : 0 ≤ ((ji9) : Int) := of_decide_eq_true (by first | (with_reducible assumption) | assumption)
                              have q432 : (ji9) < (l0.length : Int) := of_decide_eq_true (by first | (with_reducible assumption) | assumption)
                              obtain ⟨ad432, e432, hx432_0, hx432_1, hx432_2⟩ := at_T78 HR0.out (ji9) p432 q432
                              obtain rfl : ad430 = ad432 := (by injection e432)
                              replace p432 := eq_true p432
                              replace q432 := eq_true q432
                              have p433 : 0 ≤ (x3_1 : Int) := of_decide_eq_true (by first | (with_reducible assumption) | assumption)
                              have q433 : x3_1 < (l0.length : Int) := of_decide_eq_true (by first | (with_reducible assumption) | assumption)
                              obtain ⟨ad433, e433, hx433_0, hx433_1, hx433_2⟩ := at_T78 HR0.out x3_1 p433 q433
                              obtain rfl : ad430 = ad433 := (by injection e433)
                              replace p433 := eq_true p433
                              replace q433 := eq_true q433
                              have p434 : 0 ≤ ((ji9) : Int) := of_decide_eq_true (by first | (with_reducible assumption) | assumption)
                              have q434 : (ji9) < (l0.length : Int) := of_decide_eq_true (by first | (with_reducible assumption) | assumption)
                              obtain ⟨ad434, e434, hx434_0, hx434_1, hx434_2⟩ := at_T78 HR0.out (ji9) p434 q434
                              obtain rfl : ad430 = ad434 := (by injection e434)
                              replace p434 := eq_true p434
                              replace q434 := eq_true q434
                              have p435 : 0 ≤ (x3_1 : Int) := of_decide_eq_true (by first | (with_reducible assumption) | assumption)
                              have q435 : x3_1 < (l0.length : Int) := of_decide_eq_true (by first | (with_reducible assumption) | assumption)
                              obtain ⟨ad435, e435, hx435_0, hx435_1, hx435_2⟩ := at_T78 HR0.out x3_1 p435 q435
                              obtain rfl : ad430 = ad435 := (by injection e435)
                              replace p435 := eq_true p435
                              replace q435 := eq_true q435
                              go_wp2
                              repeat (go_quiet (fail); try go_wp2)
                              go_ret
                              exact ⟨by first | rfl | (simp; done) | (simp only [← hji9] <;> (first | rfl | simp)) | (simp [*]; done), by repeat (first | exact Drawn0.refl _ | apply Drawn0.step)⟩
                            · rw [if_neg c16] at H
                              have c16b0 : decide ((IntKind.u64.wrap ((rd_T78 l0 x3_1).f1)) ≤ (IntKind.u64.wrap ((IntKind.u64.wrap ((rd_T78 l0 (ji9)).f2)) + 1))) = false := decide_eq_false c16
                              clear c16
                              have H' := Aside0.mk H
                              clear H
                              have p430 : 0 ≤ ((ji9) : Int) := of_decide_eq_true (by first | (with_reducible assumption) | assumption)
                              have q430 : (ji9) < (l0.length : Int) := of_decide_eq_true (by first | (with_reducible assumption) | assumption)
                              obtain ⟨ad430, e430, hx430_0, hx430_1, hx430_2⟩ := at_T78 HR0.out (ji9) p430 q430
                              cases e430
                              replace p430 := eq_true p430
                              replace q430 := eq_true q430
                              have p431 : 0 ≤ (x3_1 : Int) := of_decide_eq_true (by first | (with_reducible assumption) | assumption)
                              have q431 : x3_1 < (l0.length : Int) := of_decide_eq_true (by first | (with_reducible assumption) | assumption)
                              obtain ⟨ad431, e431, hx431_0, hx431_1, hx431_2⟩ := at_T78 HR0.out x3_1 p431 q431
                              obtain rfl : ad430 = ad431 := (by injection e431)
                              replace p431 := eq_true p431
                              replace q431 := eq_true q431
                              have p432 : 0 ≤ ((ji9) : Int) := of_decide_eq_true (by first | (with_reducible assumption) | assumption)
                              have q432 : (ji9) < (l0.length : Int) := of_decide_eq_true (by first | (with_reducible assumption) | assumption)
                              obtain ⟨ad432, e432, hx432_0, hx432_1, hx432_2⟩ := at_T78 HR0.out (ji9) p432 q432
                              obtain rfl : ad430 = ad432 := (by injection e432)
                              replace p432 := eq_true p432
                              replace q432 := eq_true q432
                              have p433 : 0 ≤ (x3_1 : Int) := of_decide_eq_true (by first | (with_reducible assumption) | assumption)
                              have q433 : x3_1 < (l0.length : Int) := of_decide_eq_true (by first | (with_reducible assumption) | assumption)
                              obtain ⟨ad433, e433, hx433_0, hx433_1, hx433_2⟩ := at_T78 HR0.out x3_1 p433 q433
                              obtain rfl : ad430 = ad433 := (by injection e433)
                              replace p433 := eq_true p433
                              replace q433 := eq_true q433
                              have p434 : 0 ≤ ((ji9) : Int) := of_decide_eq_true (by first | (with_reducible assumption) | assumption)
                              have q434 : (ji9) < (l0.length : Int) := of_decide_eq_true (by first | (with_reducible assumption) | assumption)
                              obtain ⟨ad434, e434, hx434_0, hx434_1, hx434_2⟩ := at_T78 HR0.out (ji9) p434 q434
                              obtain rfl : ad430 = ad434 := (by injection e434)
                              replace p434 := eq_true p434
                              replace q434 := eq_true q434
                              have p435 : 0 ≤ (x3_1 : Int) := of_decide_eq_true (by first | (with_reducible assumption) | assumption)
                              have q435 : x3_1 < (l0.length : Int) := of_decide_eq_true (by first | (with_reducible assumption) | assumption)
                              obtain ⟨ad435, e435, hx435_0, hx435_1, hx435_2⟩ := at_T78 HR0.out x3_1 p435 q435
                              obtain rfl : ad430 = ad435 := (by injection e435)
                              replace p435 := eq_true p435
                              replace q435 := eq_true q435
                              go_wp2
                              repeat (go_quiet (fail); try go_wp2)
                              go_roundg kj2
                              case measure => have := HK1.out; have := HJ2.out; omega
                              case rel => exact ⟨(wrap64 (x3_1 + 1)), (by first | rfl | (simp; done) | (simp [*]; done)), H', ⟨by have := HK1.out; have := HJ2.out; omega⟩, by repeat (first | exact Drawn0.refl _ | apply Drawn0.step)⟩
                          · rw [if_neg c15] at H
                            have c15b0 : (((rd_T78 l0 (ji9)).f0) == ((rd_T78 l0 x3_1).f0)) = false := beq_eq_false_iff_ne.mpr c15
                            have c15b1 : (((rd_T78 l0 (ji9)).f0) != ((rd_T78 l0 x3_1).f0)) = true := bne_iff_ne.mpr c15
                            have H' := Aside0.mk H
                            clear H
                            have p430 : 0 ≤ ((ji9) : Int) := of_decide_eq_true (by first | (with_reducible assumption) | assumption)
                            have q430 : (ji9) < (l0.length : Int) := of_decide_eq_true (by first | (with_reducible assumption) | assumption)
                            obtain ⟨ad430, e430, hx430_0, hx430_1, hx430_2⟩ := at_T78 HR0.out (ji9) p430 q430
                            cases e430
                            replace p430 := eq_true p430
                            replace q430 := eq_true q430
                            have p431 : 0 ≤ (x3_1 : Int) := of_decide_eq_true (by first | (with_reducible assumption) | assumption)
                            have q431 : x3_1 < (l0.length : Int) := of_decide_eq_true (by first | (with_reducible assumption) | assumption)
                            obtain ⟨ad431, e431, hx431_0, hx431_1, hx431_2⟩ := at_T78 HR0.out x3_1 p431 q431
                            obtain rfl : ad430 = ad431 := (by injection e431)
                            replace p431 := eq_true p431
                            replace q431 := eq_true q431
                            have p432 : 0 ≤ ((ji9) : Int) := of_decide_eq_true (by first | (with_reducible assumption) | assumption)
                            have q432 : (ji9) < (l0.length : Int) := of_decide_eq_true (by first | (with_reducible assumption) | assumption)
                            obtain ⟨ad432, e432, hx432_0, hx432_1, hx432_2⟩ := at_T78 HR0.out (ji9) p432 q432
                            obtain rfl : ad430 = ad432 := (by injection e432)
                            replace p432 := eq_true p432
                            replace q432 := eq_true q432
                            have p433 : 0 ≤ (x3_1 : Int) := of_decide_eq_true (by first | (with_reducible assumption) | assumption)
                            have q433 : x3_1 < (l0.length : Int) := of_decide_eq_true (by first | (with_reducible assumption) | assumption)
                            obtain ⟨ad433, e433, hx433_0, hx433_1, hx433_2⟩ := at_T78 HR0.out x3_1 p433 q433
                            obtain rfl : ad430 = ad433 := (by injection e433)
                            replace p433 := eq_true p433
                            replace q433 := eq_true q433
                            go_wp2
                            repeat (go_quiet (fail); try go_wp2)
                            go_roundg kj2
                            case measure => have := HK1.out; have := HJ2.out; omega
                            case rel => exact ⟨(wrap64 (x3_1 + 1)), (by first | rfl | (simp; done) | (simp [*]; done)), H', ⟨by have := HK1.out; have := HJ2.out; omega⟩, by repeat (first | exact Drawn0.refl _ | apply Drawn0.step)⟩
                      · rw [if_neg c13] at H
                        exact absurd H (by simp)
                    · rw [if_neg c12] at H
                      exact absurd H (by simp)
                  · rw [if_neg c11] at H
                    exact absurd H (by simp)
                · rw [if_neg c10] at H
                  exact absurd H (by simp)
              · rw [if_neg c8] at H
                have c8b0 : decide (0 < x3_1) = false := decide_eq_false c8
                clear c8
                have H' := Aside0.mk H
                clear H
                go_wp2
                repeat (go_quiet (fail); try go_wp2)
                go_roundg kj2
                case measure => have := HK1.out; have := HJ2.out; omega
                case rel => exact ⟨(wrap64 (x3_1 + 1)), (by first | rfl | (simp; done) | (simp [*]; done)), H', ⟨by have := HK1.out; have := HJ2.out; omega⟩, by repeat (first | exact Drawn0.refl _ | apply Drawn0.step)⟩
      · rw [if_neg c2] at H
        have c2b0 : decide (x3_1 < (l0.length : Int)) = false := decide_eq_false c2
        clear c2
        obtain rfl := Option.some.inj H
        go_wp2
        repeat (go_quiet (fail); try go_wp2)
        go_ret
        exact ⟨by first | rfl | (simp; done) | (simp [*]; done), by repeat (first | exact Drawn0.refl _ | apply Drawn0.step)⟩
/-! ### tidingsref01_Has: function 30 -/
def tidingsref01_Has.l0 : Nat → List (S78) → Int → Int → Int → Option (Bool)
  | 0, _, _, _, _ => none
  | k + 1, x0, x1, x2, x7 => if x7 < (x0.length : Int) then (if 0 ≤ x7 then (if ((rd_T78 x0 x7).f0) = x1 then (if x2 ≥ ((rd_T78 x0 x7).f1) then (if x2 ≤ ((rd_T78 x0 x7).f2) then (some true) else (tidingsref01_Has.l0 k x0 x1 x2 (wrap64 (x7 + 1)))) else (tidingsref01_Has.l0 k x0 x1 x2 (wrap64 (x7 + 1)))) else (tidingsref01_Has.l0 k x0 x1 x2 (wrap64 (x7 + 1)))) else (none)) else (some false)
def tidingsref01_Has.f (k : Nat) (l0 : List (S78)) (a1 : Int) (a2 : Int) : Option (Bool) := (tidingsref01_Right.f k l0).bind fun t436 => (if t436 = true then (tidingsref01_Has.l0 k l0 a1 a2 0) else (some false))
set_option maxHeartbeats 8000000 in
set_option maxRecDepth 100000 in
theorem tidingsref01_Has.calls (k : Nat) (A0 : Option Addr) (c0 : Nat) (l0 : List (S78)) (a1 : Int) (a2 : Int) (r : Bool) (w : World) (hr0 : Kd.C k78 w A0 l0.length l0) (hc0 : l0.length ≤ c0) (h : tidingsref01_Has.f k l0 a1 a2 = some r) :
    Calls Try.prog 30 #[.slice A0 l0.length c0, .int .u8 a1, .int .u32 a2] w fun e w' => e = .returned (.bool r) ∧ Drawn0 w w' := by
  have HR0 := Aside0.mk hr0
  have HC0 := Aside0.mk hc0
  clear hr0 hc0
  have H : ((tidingsref01_Right.f k l0).bind fun t436 => (if t436 = true then (tidingsref01_Has.l0 k l0 a1 a2 0) else (some false))) = some r := h
  clear h
  replace H := Option.bind_eq_some_iff.mp H
  obtain ⟨t436, A40, H⟩ := H
  replace H : (if t436 = true then (tidingsref01_Has.l0 k l0 a1 a2 0) else (some false)) = some r := H
  have A4 := Aside0.mk A40
  clear A40
  by_cases c5 : t436 = true
  · subst c5
    have H1 : (tidingsref01_Has.l0 k l0 a1 a2 0) = some r := by rw [if_pos rfl] at H; exact H
    clear H
    have H := H1
    clear H1
    have H' := Aside0.mk H
    clear H
    go_enter Try.func30, Try.ntmps30
    go_wp2_with (first | ((with_reducible refine gate_callee (f := 54) rfl ?_); refine goesL_ (some 9) rfl rfl Try.func54 (by kernel_rfl) rfl #[.slice A0 l0.length c0] rfl (by (try simp only [List.map_toArray, List.map_cons, List.map_nil]); first | done | rfl | (simp only [List.length_drop, List.length_take]; rfl)) ?_; (with_reducible refine (tidingsref01_Right.calls k _ _ l0 true _ ?side1 ?side2 A4.out).mono ?_); (case side1 => repeat (first | exact HR0.out | (with_reducible refine Kd.C_alloc ?_ _) | (with_reducible refine Kd.C_drewN ?_ _) | (with_reducible refine Kd.C_drew ?_))); (case side2 => exact HC0.out); rintro e w' ⟨rfl, ⟨nd, rfl⟩⟩; refine ⟨_, rfl, ?_⟩))
    go_loopg [7] k (fun kq v7 w' => ∃ (x7_1 : Int), v7 = .int .i64 x7_1 ∧ Aside0 (tidingsref01_Has.l0 kq l0 a1 a2 x7_1 = some r) ∧ Aside0 (kq ≤ k) ∧ Drawn0 w w')
    case atStart => exact ⟨(0), (by first | rfl | (simp; done) | (simp [*]; done)), H', ⟨Nat.le_refl _⟩, by repeat (first | exact Drawn0.refl _ | apply Drawn0.step)⟩
    case round =>
      clear H'
      try clear p2
      try clear c3
      try clear c5
      obtain ⟨x7_1, rfl, HA, HK1, ⟨m1, rfl⟩⟩ := hrel
      cases gk with
      | zero => exact absurd HA.out (by simp [tidingsref01_Has.l0])
      | succ k1 =>
        have H := HA.out
        clear HA
        simp only [tidingsref01_Has.l0] at H
        by_cases c6 : x7_1 < (l0.length : Int)
        · rw [if_pos c6] at H
          have c6b0 : decide (x7_1 < (l0.length : Int)) = true := decide_eq_true c6
          clear c6
          by_cases c7 : 0 ≤ x7_1
          · rw [if_pos c7] at H
            have c7b0 : decide (0 ≤ x7_1) = true := decide_eq_true c7
            clear c7
            by_cases c8 : ((rd_T78 l0 x7_1).f0) = a1
            · rw [if_pos c8] at H
              have c8b0 : (((rd_T78 l0 x7_1).f0) == a1) = true := beq_iff_eq.mpr c8
              have c8b1 : (((rd_T78 l0 x7_1).f0) != a1) = false := bne_eq_false_iff_eq.mpr c8
              clear c8
              by_cases c9 : a2 ≥ ((rd_T78 l0 x7_1).f1)
              · rw [if_pos c9] at H
                have c9b0 : decide (((rd_T78 l0 x7_1).f1) ≤ a2) = true := decide_eq_true c9
                clear c9
                by_cases c10 : a2 ≤ ((rd_T78 l0 x7_1).f2)
                · rw [if_pos c10] at H
                  have c10b0 : decide (a2 ≤ ((rd_T78 l0 x7_1).f2)) = true := decide_eq_true c10
                  clear c10
                  obtain rfl := Option.some.inj H
                  have p437 : 0 ≤ (x7_1 : Int) := of_decide_eq_true (by first | (with_reducible assumption) | assumption)
                  have q437 : x7_1 < (l0.length : Int) := of_decide_eq_true (by first | (with_reducible assumption) | assumption)
                  obtain ⟨ad437, e437, hx437_0, hx437_1, hx437_2⟩ := at_T78 HR0.out x7_1 p437 q437
                  cases e437
                  replace p437 := eq_true p437
                  replace q437 := eq_true q437
                  have p438 : 0 ≤ (x7_1 : Int) := of_decide_eq_true (by first | (with_reducible assumption) | assumption)
                  have q438 : x7_1 < (l0.length : Int) := of_decide_eq_true (by first | (with_reducible assumption) | assumption)
                  obtain ⟨ad438, e438, hx438_0, hx438_1, hx438_2⟩ := at_T78 HR0.out x7_1 p438 q438
                  obtain rfl : ad437 = ad438 := (by injection e438)
                  replace p438 := eq_true p438
                  replace q438 := eq_true q438
                  have p439 : 0 ≤ (x7_1 : Int) := of_decide_eq_true (by first | (with_reducible assumption) | assumption)
                  have q439 : x7_1 < (l0.length : Int) := of_decide_eq_true (by first | (with_reducible assumption) | assumption)
                  obtain ⟨ad439, e439, hx439_0, hx439_1, hx439_2⟩ := at_T78 HR0.out x7_1 p439 q439
                  obtain rfl : ad437 = ad439 := (by injection e439)
                  replace p439 := eq_true p439
                  replace q439 := eq_true q439
                  go_wp2
                  go_ret
                  exact ⟨by first | rfl | (simp; done) | (simp [*]; done), by repeat (first | exact Drawn0.refl _ | apply Drawn0.step)⟩
                · rw [if_neg c10] at H
                  have c10b0 : decide (a2 ≤ ((rd_T78 l0 x7_1).f2)) = false := decide_eq_false c10
                  clear c10
                  have H' := Aside0.mk H
                  clear H
                  have p437 : 0 ≤ (x7_1 : Int) := of_decide_eq_true (by first | (with_reducible assumption) | assumption)
                  have q437 : x7_1 < (l0.length : Int) := of_decide_eq_true (by first | (with_reducible assumption) | assumption)
                  obtain ⟨ad437, e437, hx437_0, hx437_1, hx437_2⟩ := at_T78 HR0.out x7_1 p437 q437
                  cases e437
                  replace p437 := eq_true p437
                  replace q437 := eq_true q437
                  have p438 : 0 ≤ (x7_1 : Int) := of_decide_eq_true (by first | (with_reducible assumption) | assumption)
                  have q438 : x7_1 < (l0.length : Int) := of_decide_eq_true (by first | (with_reducible assumption) | assumption)
                  obtain ⟨ad438, e438, hx438_0, hx438_1, hx438_2⟩ := at_T78 HR0.out x7_1 p438 q438
                  obtain rfl : ad437 = ad438 := (by injection e438)
                  replace p438 := eq_true p438
                  replace q438 := eq_true q438
                  have p439 : 0 ≤ (x7_1 : Int) := of_decide_eq_true (by first | (with_reducible assumption) | assumption)
                  have q439 : x7_1 < (l0.length : Int) := of_decide_eq_true (by first | (with_reducible assumption) | assumption)
                  obtain ⟨ad439, e439, hx439_0, hx439_1, hx439_2⟩ := at_T78 HR0.out x7_1 p439 q439
                  obtain rfl : ad437 = ad439 := (by injection e439)
                  replace p439 := eq_true p439
                  replace q439 := eq_true q439
                  go_wp2
                  go_roundg k1
                  case measure => have := HK1.out; omega
                  case rel => exact ⟨(wrap64 (x7_1 + 1)), (by first | rfl | (simp; done) | (simp [*]; done)), H', ⟨by have := HK1.out; omega⟩, by repeat (first | exact Drawn0.refl _ | apply Drawn0.step)⟩
              · rw [if_neg c9] at H
                have c9b0 : decide (((rd_T78 l0 x7_1).f1) ≤ a2) = false := decide_eq_false c9
                clear c9
                have H' := Aside0.mk H
                clear H
                have p437 : 0 ≤ (x7_1 : Int) := of_decide_eq_true (by first | (with_reducible assumption) | assumption)
                have q437 : x7_1 < (l0.length : Int) := of_decide_eq_true (by first | (with_reducible assumption) | assumption)
                obtain ⟨ad437, e437, hx437_0, hx437_1, hx437_2⟩ := at_T78 HR0.out x7_1 p437 q437
                cases e437
                replace p437 := eq_true p437
                replace q437 := eq_true q437
                have p438 : 0 ≤ (x7_1 : Int) := of_decide_eq_true (by first | (with_reducible assumption) | assumption)
                have q438 : x7_1 < (l0.length : Int) := of_decide_eq_true (by first | (with_reducible assumption) | assumption)
                obtain ⟨ad438, e438, hx438_0, hx438_1, hx438_2⟩ := at_T78 HR0.out x7_1 p438 q438
                obtain rfl : ad437 = ad438 := (by injection e438)
                replace p438 := eq_true p438
                replace q438 := eq_true q438
                go_wp2
                go_roundg k1
                case measure => have := HK1.out; omega
                case rel => exact ⟨(wrap64 (x7_1 + 1)), (by first | rfl | (simp; done) | (simp [*]; done)), H', ⟨by have := HK1.out; omega⟩, by repeat (first | exact Drawn0.refl _ | apply Drawn0.step)⟩
            · rw [if_neg c8] at H
              have c8b0 : (((rd_T78 l0 x7_1).f0) == a1) = false := beq_eq_false_iff_ne.mpr c8
              have c8b1 : (((rd_T78 l0 x7_1).f0) != a1) = true := bne_iff_ne.mpr c8
              have H' := Aside0.mk H
              clear H
              have p437 : 0 ≤ (x7_1 : Int) := of_decide_eq_true (by first | (with_reducible assumption) | assumption)
              have q437 : x7_1 < (l0.length : Int) := of_decide_eq_true (by first | (with_reducible assumption) | assumption)
              obtain ⟨ad437, e437, hx437_0, hx437_1, hx437_2⟩ := at_T78 HR0.out x7_1 p437 q437
              cases e437
              replace p437 := eq_true p437
              replace q437 := eq_true q437
              go_wp2
              go_roundg k1
              case measure => have := HK1.out; omega
              case rel => exact ⟨(wrap64 (x7_1 + 1)), (by first | rfl | (simp; done) | (simp [*]; done)), H', ⟨by have := HK1.out; omega⟩, by repeat (first | exact Drawn0.refl _ | apply Drawn0.step)⟩
          · rw [if_neg c7] at H
            exact absurd H (by simp)
        · rw [if_neg c6] at H
          have c6b0 : decide (x7_1 < (l0.length : Int)) = false := decide_eq_false c6
          clear c6
          obtain rfl := Option.some.inj H
          go_wp2
          go_ret
          exact ⟨by first | rfl | (simp; done) | (simp [*]; done), by repeat (first | exact Drawn0.refl _ | apply Drawn0.step)⟩
  · replace c5 := Bool.eq_false_iff.mpr c5
    subst c5
    have H1 : (some false) = some r := by rw [if_neg (show ¬ (false = true) by decide)] at H; exact H
    clear H
    have H := H1
    clear H1
    obtain rfl := Option.some.inj H
    go_enter Try.func30, Try.ntmps30
    go_wp2_with (first | ((with_reducible refine gate_callee (f := 54) rfl ?_); refine goesL_ (some 9) rfl rfl Try.func54 (by kernel_rfl) rfl #[.slice A0 l0.length c0] rfl (by (try simp only [List.map_toArray, List.map_cons, List.map_nil]); first | done | rfl | (simp only [List.length_drop, List.length_take]; rfl)) ?_; (with_reducible refine (tidingsref01_Right.calls k _ _ l0 false _ ?side1 ?side2 A4.out).mono ?_); (case side1 => repeat (first | exact HR0.out | (with_reducible refine Kd.C_alloc ?_ _) | (with_reducible refine Kd.C_drewN ?_ _) | (with_reducible refine Kd.C_drew ?_))); (case side2 => exact HC0.out); rintro e w' ⟨rfl, ⟨nd, rfl⟩⟩; refine ⟨_, rfl, ?_⟩))
    go_ret
    exact ⟨by first | rfl | (simp; done) | (simp [*]; done), by repeat (first | exact Drawn0.refl _ | apply Drawn0.step)⟩
/-! ### tidingsref02_Same: function 31 -/
def tidingsref02_Same.l0 : Nat → List (S27) → List (S27) → Int → Option (Bool)
  | 0, _, _, _ => none
  | k + 1, x0, x1, x5 => if x5 < (x0.length : Int) then (if 0 ≤ x5 then (if x5 < (x1.length : Int) then (if (!(((rd_T27 x0 x5).f0) == ((rd_T27 x1 x5).f0)) || ((!(((rd_T27 x0 x5).f1.f0) == ((rd_T27 x1 x5).f1.f0)) || (!(((rd_T27 x0 x5).f1.f1) == ((rd_T27 x1 x5).f1.f1)) || (!(((rd_T27 x0 x5).f1.f2) == ((rd_T27 x1 x5).f1.f2))))) || (!(((rd_T27 x0 x5).f2) == ((rd_T27 x1 x5).f2)) || (!(((rd_T27 x0 x5).f3) == ((rd_T27 x1 x5).f3)) || (!(((rd_T27 x0 x5).f4) == ((rd_T27 x1 x5).f4))))))) = true then (some false) else (tidingsref02_Same.l0 k x0 x1 (wrap64 (x5 + 1)))) else (none)) else (none)) else (some true)
def tidingsref02_Same.f (k : Nat) (l0 : List (S27)) (l1 : List (S27)) : Option (Bool) := if (l0.length : Int) = (l1.length : Int) then (tidingsref02_Same.l0 k l0 l1 0) else (some false)
set_option maxHeartbeats 8000000 in
set_option maxRecDepth 100000 in
theorem tidingsref02_Same.calls (k : Nat) (A0 : Option Addr) (c0 : Nat) (l0 : List (S27)) (A1 : Option Addr) (c1 : Nat) (l1 : List (S27)) (r : Bool) (w : World) (hr0 : Kd.C k27 w A0 l0.length l0) (hc0 : l0.length ≤ c0) (hr1 : Kd.C k27 w A1 l1.length l1) (hc1 : l1.length ≤ c1) (h : tidingsref02_Same.f k l0 l1 = some r) :
    Calls Try.prog 31 #[.slice A0 l0.length c0, .slice A1 l1.length c1] w fun e w' => e = .returned (.bool r) ∧ Drawn0 w w' := by
  have hu27 := Try.underlying27
  have HR0 := Aside0.mk hr0
  have HC0 := Aside0.mk hc0
  clear hr0 hc0
  have HR1 := Aside0.mk hr1
  have HC1 := Aside0.mk hc1
  clear hr1 hc1
  have H : (if (l0.length : Int) = (l1.length : Int) then (tidingsref02_Same.l0 k l0 l1 0) else (some false)) = some r := h
  clear h
  by_cases c3 : (l0.length : Int) = (l1.length : Int)
  · rw [if_pos c3] at H
    have c3b0 : ((l0.length : Int) == (l1.length : Int)) = true := beq_iff_eq.mpr c3
    have c3b1 : ((l0.length : Int) != (l1.length : Int)) = false := bne_eq_false_iff_eq.mpr c3
    have c3b2 : (l0.length == l1.length) = true := by first | simpa using c3 | (simp at c3 ⊢; omega)
    clear c3
    have H' := Aside0.mk H
    clear H
    go_enter Try.func31, Try.ntmps31
    go_wp2
    repeat (go_quiet (fail); try go_wp2)
    go_loopg [5] k (fun kq v5 w' => ∃ (x5_1 : Int), v5 = .int .i64 x5_1 ∧ Aside0 (tidingsref02_Same.l0 kq l0 l1 x5_1 = some r) ∧ Aside0 (kq ≤ k) ∧ Drawn0 w w')
    case atStart => exact ⟨(0), (by first | rfl | (simp; done) | (simp [*]; done)), H', ⟨Nat.le_refl _⟩, by repeat (first | exact Drawn0.refl _ | apply Drawn0.step)⟩
    case round =>
      clear H'
      try clear c1
      try clear p2
      try clear c3
      try clear c3b0
      try clear c3b1
      try clear c3b2
      obtain ⟨x5_1, rfl, HA, HK1, ⟨m1, rfl⟩⟩ := hrel
      cases gk with
      | zero => exact absurd HA.out (by simp [tidingsref02_Same.l0])
      | succ k1 =>
        have H := HA.out
        clear HA
        simp only [tidingsref02_Same.l0] at H
        by_cases c4 : x5_1 < (l0.length : Int)
        · rw [if_pos c4] at H
          have c4b0 : decide (x5_1 < (l0.length : Int)) = true := decide_eq_true c4
          clear c4
          by_cases c5 : 0 ≤ x5_1
          · rw [if_pos c5] at H
            have c5b0 : decide (0 ≤ x5_1) = true := decide_eq_true c5
            clear c5
            by_cases c6 : x5_1 < (l1.length : Int)
            · rw [if_pos c6] at H
              have c6b0 : decide (x5_1 < (l1.length : Int)) = true := decide_eq_true c6
              clear c6
              by_cases c7 : (!(((rd_T27 l0 x5_1).f0) == ((rd_T27 l1 x5_1).f0)) || ((!(((rd_T27 l0 x5_1).f1.f0) == ((rd_T27 l1 x5_1).f1.f0)) || (!(((rd_T27 l0 x5_1).f1.f1) == ((rd_T27 l1 x5_1).f1.f1)) || (!(((rd_T27 l0 x5_1).f1.f2) == ((rd_T27 l1 x5_1).f1.f2))))) || (!(((rd_T27 l0 x5_1).f2) == ((rd_T27 l1 x5_1).f2)) || (!(((rd_T27 l0 x5_1).f3) == ((rd_T27 l1 x5_1).f3)) || (!(((rd_T27 l0 x5_1).f4) == ((rd_T27 l1 x5_1).f4))))))) = true
              · rw [if_pos c7] at H
                have c7b0 : (!(((rd_T27 l0 x5_1).f0) == ((rd_T27 l1 x5_1).f0)) || ((!(((rd_T27 l0 x5_1).f1.f0) == ((rd_T27 l1 x5_1).f1.f0)) || (!(((rd_T27 l0 x5_1).f1.f1) == ((rd_T27 l1 x5_1).f1.f1)) || (!(((rd_T27 l0 x5_1).f1.f2) == ((rd_T27 l1 x5_1).f1.f2))))) || (!(((rd_T27 l0 x5_1).f2) == ((rd_T27 l1 x5_1).f2)) || (!(((rd_T27 l0 x5_1).f3) == ((rd_T27 l1 x5_1).f3)) || (!(((rd_T27 l0 x5_1).f4) == ((rd_T27 l1 x5_1).f4))))))) = true := c7
                clear c7
                obtain rfl := Option.some.inj H
                have p440 : 0 ≤ (x5_1 : Int) := of_decide_eq_true (by first | (with_reducible assumption) | assumption)
                have q440 : x5_1 < (l0.length : Int) := of_decide_eq_true (by first | (with_reducible assumption) | assumption)
                obtain ⟨ad440, e440, hx440_0, hx440_1, hx440_2, hx440_3, hx440_4, hx440_5, hx440_6⟩ := at_T27 HR0.out x5_1 p440 q440
                cases e440
                replace p440 := eq_true p440
                replace q440 := eq_true q440
                have p441 : 0 ≤ (x5_1 : Int) := of_decide_eq_true (by first | (with_reducible assumption) | assumption)
                have q441 : x5_1 < (l1.length : Int) := of_decide_eq_true (by first | (with_reducible assumption) | assumption)
                obtain ⟨ad441, e441, hx441_0, hx441_1, hx441_2, hx441_3, hx441_4, hx441_5, hx441_6⟩ := at_T27 HR1.out x5_1 p441 q441
                cases e441
                replace p441 := eq_true p441
                replace q441 := eq_true q441
                go_wp2
                repeat (go_quiet (fail); try go_wp2)
                go_ret
                exact ⟨by first | rfl | (simp; done) | (simp [*]; done), by repeat (first | exact Drawn0.refl _ | apply Drawn0.step)⟩
              · rw [if_neg c7] at H
                have c7b0 : (!(((rd_T27 l0 x5_1).f0) == ((rd_T27 l1 x5_1).f0)) || ((!(((rd_T27 l0 x5_1).f1.f0) == ((rd_T27 l1 x5_1).f1.f0)) || (!(((rd_T27 l0 x5_1).f1.f1) == ((rd_T27 l1 x5_1).f1.f1)) || (!(((rd_T27 l0 x5_1).f1.f2) == ((rd_T27 l1 x5_1).f1.f2))))) || (!(((rd_T27 l0 x5_1).f2) == ((rd_T27 l1 x5_1).f2)) || (!(((rd_T27 l0 x5_1).f3) == ((rd_T27 l1 x5_1).f3)) || (!(((rd_T27 l0 x5_1).f4) == ((rd_T27 l1 x5_1).f4))))))) = false := by simpa using c7
                clear c7
                have H' := Aside0.mk H
                clear H
                have p440 : 0 ≤ (x5_1 : Int) := of_decide_eq_true (by first | (with_reducible assumption) | assumption)
                have q440 : x5_1 < (l0.length : Int) := of_decide_eq_true (by first | (with_reducible assumption) | assumption)
                obtain ⟨ad440, e440, hx440_0, hx440_1, hx440_2, hx440_3, hx440_4, hx440_5, hx440_6⟩ := at_T27 HR0.out x5_1 p440 q440
                cases e440
                replace p440 := eq_true p440
                replace q440 := eq_true q440
                have p441 : 0 ≤ (x5_1 : Int) := of_decide_eq_true (by first | (with_reducible assumption) | assumption)
                have q441 : x5_1 < (l1.length : Int) := of_decide_eq_true (by first | (with_reducible assumption) | assumption)
                obtain ⟨ad441, e441, hx441_0, hx441_1, hx441_2, hx441_3, hx441_4, hx441_5, hx441_6⟩ := at_T27 HR1.out x5_1 p441 q441
                cases e441
                replace p441 := eq_true p441
                replace q441 := eq_true q441
                go_wp2
                repeat (go_quiet (fail); try go_wp2)
                go_roundg k1
                case measure => have := HK1.out; omega
                case rel => exact ⟨(wrap64 (x5_1 + 1)), (by first | rfl | (simp; done) | (simp [*]; done)), H', ⟨by have := HK1.out; omega⟩, by repeat (first | exact Drawn0.refl _ | apply Drawn0.step)⟩
            · rw [if_neg c6] at H
              exact absurd H (by simp)
          · rw [if_neg c5] at H
            exact absurd H (by simp)
        · rw [if_neg c4] at H
          have c4b0 : decide (x5_1 < (l0.length : Int)) = false := decide_eq_false c4
          clear c4
          obtain rfl := Option.some.inj H
          go_wp2
          repeat (go_quiet (fail); try go_wp2)
          go_ret
          exact ⟨by first | rfl | (simp; done) | (simp [*]; done), by repeat (first | exact Drawn0.refl _ | apply Drawn0.step)⟩
  · rw [if_neg c3] at H
    have c3b0 : ((l0.length : Int) == (l1.length : Int)) = false := beq_eq_false_iff_ne.mpr c3
    have c3b1 : ((l0.length : Int) != (l1.length : Int)) = true := bne_iff_ne.mpr c3
    have c3b2 : (l0.length == l1.length) = false := by first | simpa using c3 | (simp at c3 ⊢; omega)
    obtain rfl := Option.some.inj H
    go_enter Try.func31, Try.ntmps31
    go_wp2
    repeat (go_quiet (fail); try go_wp2)
    go_ret
    exact ⟨by first | rfl | (simp; done) | (simp [*]; done), by repeat (first | exact Drawn0.refl _ | apply Drawn0.step)⟩
-- NOT PRINTED: function 6 (tidingslaw06_SourceFits)
end Go.Proofs.Ytiminjibcafkaaa.X
