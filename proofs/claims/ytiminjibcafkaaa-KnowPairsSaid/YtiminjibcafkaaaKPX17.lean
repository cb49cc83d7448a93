-- MADE BY wip/prx.py (the kit's printer, with contracts proved by hand). Not trusted: Lean checks it.
import Derived.Test.YtiminjibcafkaaaKPX0
import Derived.Test.YtiminjibcafkaaaKPX13
import Derived.Test.YtiminjibcafkaaaKPX15
import Derived.Test.YtiminjibcafkaaaKPXhknowHas
import Derived.Test.YtiminjibcafkaaaKPX16
import Derived.Test.YtiminjibcafkaaaKPXhknowUnion
namespace Go.Proofs.Ytiminjibcafkaaa.X
open Go.RowKit Go.Proofs.YtiminjibcafkaaaW.PrintWords Go.Proofs.YtiminjibcafkaaaW.PrintLast Go.Proofs.YtiminjibcafkaaaW.PrintMore
attribute [local go_sem] max2_int min2_int max_two min_two max_three min_three max_four min_four   -- for this text's walks alone
set_option linter.unusedVariables false
set_option linter.unusedSimpArgs false
/-! ### tidingslaw01_KnowPairs: function 7 -/
mutual
def tidingslaw01_KnowPairs.j0 : Nat → List (S78) → List (S78) → Int → Int → Int → Int → Bool → Option (Bool)
  | 0, _, _, _, _, _, _, _ => none
  | k + 1, x0, x1, x2, x3, x4, x5, x29 => if x29 = true then (some true) else ((know_Add.f k x0 x2 x3).bind fun bt328 => ((know_Drop.f k x0 x2 x3).bind fun bt332 => ((know_Union.f k x0 x1).bind fun bt336 => (if x4 = x2 then (tidingslaw01_KnowPairs.j1 k x0 x1 x4 x5 bt328.1 bt328.2 bt332.1 bt332.2 bt336.1 bt336.2 (x5 == x3)) else (tidingslaw01_KnowPairs.j1 k x0 x1 x4 x5 bt328.1 bt328.2 bt332.1 bt332.2 bt336.1 bt336.2 false)))))
def tidingslaw01_KnowPairs.j1 : Nat → List (S78) → List (S78) → Int → Int → List (S78) → Option Int → List (S78) → Option Int → List (S78) → Option Int → Bool → Option (Bool)
  | 0, _, _, _, _, _, _, _, _, _, _, _ => none
  | k + 1, x0, x1, x4, x5, x13, x14, x15, x16, x17, x18, x19 => if x14.isNone = true then ((know_Right.f k x13).bind fun t341 => (if t341 = true then ((know_Has.f k x13 x4 x5).bind fun t342 => ((know_Has.f k x0 x4 x5).bind fun t343 => (if t343 = true then (tidingslaw01_KnowPairs.j2 k x0 x1 x4 x5 x15 x16 x17 x18 x19 (t342 != true)) else (tidingslaw01_KnowPairs.j2 k x0 x1 x4 x5 x15 x16 x17 x18 x19 (t342 != x19))))) else (tidingslaw01_KnowPairs.j2 k x0 x1 x4 x5 x15 x16 x17 x18 x19 true))) else (tidingslaw01_KnowPairs.j2 k x0 x1 x4 x5 x15 x16 x17 x18 x19 false)
def tidingslaw01_KnowPairs.j2 : Nat → List (S78) → List (S78) → Int → Int → List (S78) → Option Int → List (S78) → Option Int → Bool → Bool → Option (Bool)
  | 0, _, _, _, _, _, _, _, _, _, _ => none
  | k + 1, x0, x1, x4, x5, x15, x16, x17, x18, x19, x78 => if x78 = true then (some false) else (if x16.isNone = true then ((know_Right.f k x15).bind fun t345 => (if t345 = true then ((know_Has.f k x15 x4 x5).bind fun t346 => ((know_Has.f k x0 x4 x5).bind fun t347 => (if t347 = true then (tidingslaw01_KnowPairs.j3 k x0 x1 x4 x5 x17 x18 (t346 != (!x19))) else (tidingslaw01_KnowPairs.j3 k x0 x1 x4 x5 x17 x18 (t346 != false))))) else (tidingslaw01_KnowPairs.j3 k x0 x1 x4 x5 x17 x18 true))) else (tidingslaw01_KnowPairs.j3 k x0 x1 x4 x5 x17 x18 false))
def tidingslaw01_KnowPairs.j3 : Nat → List (S78) → List (S78) → Int → Int → List (S78) → Option Int → Bool → Option (Bool)
  | 0, _, _, _, _, _, _, _ => none
  | k + 1, x0, x1, x4, x5, x17, x18, x100 => if x100 = true then (some false) else (if x18.isNone = true then ((know_Right.f k x17).bind fun t349 => (if t349 = true then ((know_Has.f k x17 x4 x5).bind fun t350 => ((know_Has.f k x0 x4 x5).bind fun t351 => (if t351 = true then (some (t350 == true)) else ((know_Has.f k x1 x4 x5).bind fun t352 => (some (t350 == t352)))))) else (some false))) else (some true))
end
def tidingslaw01_KnowPairs.f (k : Nat) (l0 : List (S78)) (l1 : List (S78)) (a2 : Int) (a3 : Int) (a4 : Int) (a5 : Int) : Option (Bool) := (tidingslaw01_awake.f k).bind fun t327 => (if t327 = true then (if (l0.length : Int) > 300 then (tidingslaw01_KnowPairs.j0 k l0 l1 a2 a3 a4 a5 true) else (tidingslaw01_KnowPairs.j0 k l0 l1 a2 a3 a4 a5 (decide ((l1.length : Int) > 300)))) else (some false))
set_option maxHeartbeats 8000000 in
set_option maxRecDepth 100000 in
theorem tidingslaw01_KnowPairs.calls (k : Nat) (A0 : Option Addr) (c0 : Nat) (l0 : List (S78)) (A1 : Option Addr) (c1 : Nat) (l1 : List (S78)) (a2 : Int) (a3 : Int) (a4 : Int) (a5 : Int) (r : Bool) (w : World) (hr0 : Kd.C k78 w A0 l0.length l0) (hc0 : l0.length ≤ c0) (hr1 : Kd.C k78 w A1 l1.length l1) (hc1 : l1.length ≤ c1) (h : tidingslaw01_KnowPairs.f k l0 l1 a2 a3 a4 a5 = some r) :
    Calls Try.prog 7 #[.slice A0 l0.length c0, .slice A1 l1.length c1, .int .u8 a2, .int .u32 a3, .int .u8 a4, .int .u32 a5] w fun e w' => e = .returned (.bool r) ∧ Below w.heap.size w w' := by
  have hu34 := Try.underlying34
  have hu67 := Try.underlying67
  have HR0 := Aside0.mk hr0
  have HC0 := Aside0.mk hc0
  clear hr0 hc0
  have HR1 := Aside0.mk hr1
  have HC1 := Aside0.mk hc1
  clear hr1 hc1
  have HB := Aside0.mk (Below.refl w.heap.size w)
  have H : ((tidingslaw01_awake.f k).bind fun t327 => (if t327 = true then (if (l0.length : Int) > 300 then (tidingslaw01_KnowPairs.j0 k l0 l1 a2 a3 a4 a5 true) else (tidingslaw01_KnowPairs.j0 k l0 l1 a2 a3 a4 a5 (decide ((l1.length : Int) > 300)))) else (some false))) = some r := h
  clear h
  replace H := Option.bind_eq_some_iff.mp H
  obtain ⟨t327, A70, H⟩ := H
  replace H : (if t327 = true then (if (l0.length : Int) > 300 then (tidingslaw01_KnowPairs.j0 k l0 l1 a2 a3 a4 a5 true) else (tidingslaw01_KnowPairs.j0 k l0 l1 a2 a3 a4 a5 (decide ((l1.length : Int) > 300)))) else (some false)) = some r := H
  have A7 := Aside0.mk A70
  clear A70
  by_cases c8 : t327 = true
  · subst c8
    have H1 : (if (l0.length : Int) > 300 then (tidingslaw01_KnowPairs.j0 k l0 l1 a2 a3 a4 a5 true) else (tidingslaw01_KnowPairs.j0 k l0 l1 a2 a3 a4 a5 (decide ((l1.length : Int) > 300)))) = some r := by rw [if_pos rfl] at H; exact H
    clear H
    have H := H1
    clear H1
    have HC9 := Aside0.mk H
    clear H
    go_enter Try.func7, Try.ntmps7
    go_upto_region 3 with (first | ((with_reducible refine gate_callee (f := 32) rfl ?_); refine goesL_ (some 20) rfl rfl Try.func32 (by kernel_rfl) rfl #[] rfl (by (try simp only [List.map_toArray, List.map_cons, List.map_nil]); first | done | rfl | (simp only [List.length_drop, List.length_take]; rfl)) ?_; (with_reducible refine (tidingslaw01_awake.calls k  true _ A7.out).mono ?_); rintro e w10 ⟨rfl, hb⟩; refine ⟨_, rfl, ?_⟩; have n0_ := Aside0.mk (below_step (by repeat (first | (with_reducible first | exact HB.out | apply below_alloc | apply pw_below_drewN | apply below_drew1) | exact HB.out)) hb); clear HB; have HB := n0_; clear n0_; (try clear hb); (try clear hb2); (try clear hk); (try clear hi)))
    (try simp only [Act.put, List.setIfInBounds_toArray, List.set_cons_zero, List.set_cons_succ])
    go_cut [29] (fun v29 wc => ∃ (kq : Nat) (x29_8 : Bool), v29 = .bool x29_8 ∧ Aside0 (tidingslaw01_KnowPairs.j0 kq l0 l1 a2 a3 a4 a5 x29_8 = some r) ∧ Aside0 (kq ≤ k) ∧ Aside0 (Below w.heap.size w wc))
    case first =>
      have H := HC9.out
      clear HC9
      by_cases c11 : (l0.length : Int) > 300
      · rw [if_pos c11] at H
        have c11b0 : decide (300 < (l0.length : Int)) = true := decide_eq_true c11
        have c11b1 : decide (300 < l0.length) = true := decide_eq_true (by omega)
        clear c11
        (first | rw [c11b0] | (simp only [i64_w, i32_w]; rw [c11b0]) | skip)
        have H' := Aside0.mk H
        clear H
        go_wp2
        go_meet
        case rel => exact ⟨_, (true), (by first | rfl | (simp; done) | (simp [*]; done)), H', ⟨by first | omega | exact Nat.le_refl _⟩, ⟨by repeat (first | (with_reducible first | exact HB.out | apply below_alloc | apply pw_below_drewN | apply below_drew1) | exact HB.out)⟩⟩
      · rw [if_neg c11] at H
        have c11b0 : decide (300 < (l0.length : Int)) = false := decide_eq_false c11
        have c11b1 : decide (300 < l0.length) = false := decide_eq_false (by omega)
        clear c11
        (first | rw [c11b0] | (simp only [i64_w, i32_w]; rw [c11b0]) | skip)
        have H' := Aside0.mk H
        clear H
        go_wp2
        go_meet
        case rel => exact ⟨_, (decide ((l1.length : Int) > 300)), (by first | rfl | (simp; done) | (simp [*]; done)), H', ⟨by first | omega | exact Nat.le_refl _⟩, ⟨by repeat (first | (with_reducible first | exact HB.out | apply below_alloc | apply pw_below_drewN | apply below_drew1) | exact HB.out)⟩⟩
    case rest =>
      clear HC9
      try clear c1
      try clear p2
      try clear c3
      try clear c7
      try clear c8
      try clear c11
      try clear c11b0
      try clear c11b1
      obtain ⟨kq, x29_8, rfl, HA, HJ8, HB⟩ := hcut
      cases kq with
      | zero => exact absurd HA.out (by simp [tidingslaw01_KnowPairs.j0])
      | succ kj8 =>
        have H := HA.out
        clear HA
        simp only [tidingslaw01_KnowPairs.j0] at H
        by_cases c12 : x29_8 = true
        · subst c12
          have H1 : (some true) = some r := by rw [if_pos rfl] at H; exact H
          clear H
          have H := H1
          clear H1
          obtain rfl := Option.some.inj H
          go_wp2
          go_ret
          exact ⟨by first | rfl | (simp [errW_none, errW_some] <;> rfl) | (simp [*, errW_none, errW_some] <;> rfl), by repeat (first | (with_reducible first | exact HB.out | apply below_alloc | apply pw_below_drewN | apply below_drew1) | exact HB.out)⟩
        · replace c12 := Bool.eq_false_iff.mpr c12
          subst c12
          have H1 : ((know_Add.f kj8 l0 a2 a3).bind fun bt328 => ((know_Drop.f kj8 l0 a2 a3).bind fun bt332 => ((know_Union.f kj8 l0 l1).bind fun bt336 => (if a4 = a2 then (tidingslaw01_KnowPairs.j1 kj8 l0 l1 a4 a5 bt328.1 bt328.2 bt332.1 bt332.2 bt336.1 bt336.2 (a5 == a3)) else (tidingslaw01_KnowPairs.j1 kj8 l0 l1 a4 a5 bt328.1 bt328.2 bt332.1 bt332.2 bt336.1 bt336.2 false))))) = some r := by rw [if_neg (show ¬ (false = true) by decide)] at H; exact H
          clear H
          have H := H1
          clear H1
          replace H := Option.bind_eq_some_iff.mp H
          obtain ⟨⟨t328, t329⟩, A130, H⟩ := H
          replace H : ((know_Drop.f kj8 l0 a2 a3).bind fun bt332 => ((know_Union.f kj8 l0 l1).bind fun bt336 => (if a4 = a2 then (tidingslaw01_KnowPairs.j1 kj8 l0 l1 a4 a5 t328 t329 bt332.1 bt332.2 bt336.1 bt336.2 (a5 == a3)) else (tidingslaw01_KnowPairs.j1 kj8 l0 l1 a4 a5 t328 t329 bt332.1 bt332.2 bt336.1 bt336.2 false)))) = some r := H
          have A13 := Aside0.mk A130
          clear A130
          replace H := Option.bind_eq_some_iff.mp H
          obtain ⟨⟨t332, t333⟩, A140, H⟩ := H
          replace H : ((know_Union.f kj8 l0 l1).bind fun bt336 => (if a4 = a2 then (tidingslaw01_KnowPairs.j1 kj8 l0 l1 a4 a5 t328 t329 t332 t333 bt336.1 bt336.2 (a5 == a3)) else (tidingslaw01_KnowPairs.j1 kj8 l0 l1 a4 a5 t328 t329 t332 t333 bt336.1 bt336.2 false))) = some r := H
          have A14 := Aside0.mk A140
          clear A140
          replace H := Option.bind_eq_some_iff.mp H
          obtain ⟨⟨t336, t337⟩, A150, H⟩ := H
          replace H : (if a4 = a2 then (tidingslaw01_KnowPairs.j1 kj8 l0 l1 a4 a5 t328 t329 t332 t333 t336 t337 (a5 == a3)) else (tidingslaw01_KnowPairs.j1 kj8 l0 l1 a4 a5 t328 t329 t332 t333 t336 t337 false)) = some r := H
          have A15 := Aside0.mk A150
          clear A150
          have HC16 := Aside0.mk H
          clear H
          go_upto_region 8 with (first | ((with_reducible refine gate_callee (f := 33) rfl ?_); refine goesL_ (some 34) rfl rfl Try.func33 (by kernel_rfl) rfl #[.slice A0 l0.length c0, .int .u8 a2, .int .u32 a3] rfl (by (try simp only [List.map_toArray, List.map_cons, List.map_nil]); first | done | rfl | (simp only [List.length_drop, List.length_take]; rfl)) ?_; (with_reducible refine (know_Add.calls kj8 _ _ l0 a2 a3 t328 t329 _ ?side1 ?side2 A13.out).mono ?_); (case side1 => repeat (first | exact (Kd.C_below HR0.out HB.out) | (with_reducible refine Kd.C_alloc ?_ _) | (with_reducible refine Kd.C_drewN ?_ _) | (with_reducible refine Kd.C_drew ?_))); (case side2 => exact HC0.out); rintro e w17 ⟨v330, rfl, ho0, hb⟩; refine ⟨_, rfl, ?_⟩; have n0_ := Aside0.mk (Kd.R_lower ho0 (below_size (by repeat (first | (with_reducible first | exact HB.out | apply below_alloc | apply pw_below_drewN | apply below_drew1) | exact HB.out)))); have n1_ := Aside0.mk (below_step (by repeat (first | (with_reducible first | exact HB.out | apply below_alloc | apply pw_below_drewN | apply below_drew1) | exact HB.out)) hb); clear HB; have HO331 := n0_; have HB := n1_; clear n0_ n1_; (try clear hb); (try clear hb2); (try clear hk); (try clear hi); (try clear ho0); (try simp only [errW_none, errW_some])) | ((with_reducible refine gate_callee (f := 34) rfl ?_); refine goesL_ (some 41) rfl rfl Try.func34 (by kernel_rfl) rfl #[.slice A0 l0.length c0, .int .u8 a2, .int .u32 a3] rfl (by (try simp only [List.map_toArray, List.map_cons, List.map_nil]); first | done | rfl | (simp only [List.length_drop, List.length_take]; rfl)) ?_; (with_reducible refine (know_Drop.calls kj8 _ _ l0 a2 a3 t332 t333 _ ?side1 ?side2 A14.out).mono ?_); (case side1 => repeat (first | exact (Kd.C_below HR0.out HB.out) | (with_reducible refine Kd.C_alloc ?_ _) | (with_reducible refine Kd.C_drewN ?_ _) | (with_reducible refine Kd.C_drew ?_))); (case side2 => exact HC0.out); rintro e w18 ⟨v334, rfl, ho0, hb⟩; refine ⟨_, rfl, ?_⟩; have n0_ := Aside0.mk (Kd.R_elder' (by (with_reducible repeat (first | apply Kd.R_alloc | apply Kd.R_drewN | apply Kd.R_drew)); exact HO331.out) (Kd.R_base ho0) hb); have n1_ := Aside0.mk (Kd.R_lower (Kd.R_new' ho0 (Kd.R_lt (by (with_reducible repeat (first | apply Kd.R_alloc | apply Kd.R_drewN | apply Kd.R_drew)); exact HO331.out))) (below_size (by repeat (first | (with_reducible first | exact HB.out | apply below_alloc | apply pw_below_drewN | apply below_drew1) | exact HB.out)))); have n2_ := Aside0.mk (below_step (by repeat (first | (with_reducible first | exact HB.out | apply below_alloc | apply pw_below_drewN | apply below_drew1) | exact HB.out)) hb); clear HO331; clear HB; have HO331 := n0_; have HO335 := n1_; have HB := n2_; clear n0_ n1_ n2_; (try clear hb); (try clear hb2); (try clear hk); (try clear hi); (try clear ho0); (try simp only [errW_none, errW_some])) | ((with_reducible refine gate_callee (f := 35) rfl ?_); refine goesL_ (some 47) rfl rfl Try.func35 (by kernel_rfl) rfl #[.slice A0 l0.length c0, .slice A1 l1.length c1] rfl (by (try simp only [List.map_toArray, List.map_cons, List.map_nil]); first | done | rfl | (simp only [List.length_drop, List.length_take]; rfl)) ?_; (with_reducible refine (know_Union.calls kj8 _ _ l0 _ _ l1 t336 t337 _ ?side1 ?side2 ?side3 ?side4 A15.out).mono ?_); (case side1 => repeat (first | exact (Kd.C_below HR0.out HB.out) | (with_reducible refine Kd.C_alloc ?_ _) | (with_reducible refine Kd.C_drewN ?_ _) | (with_reducible refine Kd.C_drew ?_))); (case side2 => exact HC0.out); (case side3 => repeat (first | exact (Kd.C_below HR1.out HB.out) | (with_reducible refine Kd.C_alloc ?_ _) | (with_reducible refine Kd.C_drewN ?_ _) | (with_reducible refine Kd.C_drew ?_))); (case side4 => exact HC1.out); rintro e w19 ⟨v338, rfl, ho0, hb⟩; refine ⟨_, rfl, ?_⟩; have n0_ := Aside0.mk (Kd.R_elder' (by (with_reducible repeat (first | apply Kd.R_alloc | apply Kd.R_drewN | apply Kd.R_drew)); exact HO331.out) (Kd.R_base ho0) hb); have n1_ := Aside0.mk (Kd.R_elder' (by (with_reducible repeat (first | apply Kd.R_alloc | apply Kd.R_drewN | apply Kd.R_drew)); exact HO335.out) (Kd.R_base ho0) hb); have n2_ := Aside0.mk (Kd.R_lower (Kd.R_new' (Kd.R_new' ho0 (Kd.R_lt (by (with_reducible repeat (first | apply Kd.R_alloc | apply Kd.R_drewN | apply Kd.R_drew)); exact HO331.out))) (Kd.R_lt (by (with_reducible repeat (first | apply Kd.R_alloc | apply Kd.R_drewN | apply Kd.R_drew)); exact HO335.out))) (below_size (by repeat (first | (with_reducible first | exact HB.out | apply below_alloc | apply pw_below_drewN | apply below_drew1) | exact HB.out)))); have n3_ := Aside0.mk (below_step (by repeat (first | (with_reducible first | exact HB.out | apply below_alloc | apply pw_below_drewN | apply below_drew1) | exact HB.out)) hb); clear HO331; clear HO335; clear HB; have HO331 := n0_; have HO335 := n1_; have HO339 := n2_; have HB := n3_; clear n0_ n1_ n2_ n3_; (try clear hb); (try clear hb2); (try clear hk); (try clear hi); (try clear ho0); (try simp only [errW_none, errW_some])))
          (try simp only [Act.put, List.setIfInBounds_toArray, List.set_cons_zero, List.set_cons_succ])
          go_cut [19] (fun v19 wc => ∃ (kq : Nat) (x19_15 : Bool), v19 = .bool x19_15 ∧ Aside0 (tidingslaw01_KnowPairs.j1 kq l0 l1 a4 a5 t328 t329 t332 t333 t336 t337 x19_15 = some r) ∧ Aside0 (kq ≤ kj8) ∧ Aside0 (Kd.R k78 78 wc w.heap.size (fun k_ => some k_ ≠ (v334 : Value).ownBlock ∧ some k_ ≠ (v338 : Value).ownBlock) v330 t328) ∧ Aside0 (Kd.R k78 78 wc w.heap.size (fun k_ => some k_ ≠ (v330 : Value).ownBlock ∧ some k_ ≠ (v338 : Value).ownBlock) v334 t332) ∧ Aside0 (Kd.R k78 78 wc w.heap.size (fun k_ => some k_ ≠ (v330 : Value).ownBlock ∧ some k_ ≠ (v334 : Value).ownBlock) v338 t336) ∧ Aside0 (Below w.heap.size w wc))
          case first =>
            have H := HC16.out
            clear HC16
            by_cases c20 : a4 = a2
            · rw [if_pos c20] at H
              have c20b0 : (a4 == a2) = true := beq_iff_eq.mpr c20
              have c20b1 : (a4 != a2) = false := bne_eq_false_iff_eq.mpr c20
              clear c20
              (first | rw [c20b0] | (simp only [i64_w, i32_w]; rw [c20b0]) | skip)
              have H' := Aside0.mk H
              clear H
              go_wp2
              go_meet
              case rel => exact ⟨_, ((a5 == a3)), (by first | rfl | (simp; done) | (simp [*]; done)), H', ⟨by have := HJ8.out; first | omega | exact Nat.le_refl _⟩, ⟨by (with_reducible repeat (first | apply Kd.R_alloc | apply Kd.R_drewN | apply Kd.R_drew)); exact Kd.R_mono HO331.out (fun _ hk => ⟨hk.1.2, hk.2⟩)⟩, ⟨by (with_reducible repeat (first | apply Kd.R_alloc | apply Kd.R_drewN | apply Kd.R_drew)); exact Kd.R_mono HO335.out (fun _ hk => ⟨hk.1.2, hk.2⟩)⟩, ⟨by (with_reducible repeat (first | apply Kd.R_alloc | apply Kd.R_drewN | apply Kd.R_drew)); exact Kd.R_mono HO339.out (fun _ hk => ⟨hk.1.2, hk.2⟩)⟩, ⟨by repeat (first | (with_reducible first | exact HB.out | apply below_alloc | apply pw_below_drewN | apply below_drew1) | exact HB.out)⟩⟩
            · rw [if_neg c20] at H
              have c20b0 : (a4 == a2) = false := beq_eq_false_iff_ne.mpr c20
              have c20b1 : (a4 != a2) = true := bne_iff_ne.mpr c20
              (first | rw [c20b0] | (simp only [i64_w, i32_w]; rw [c20b0]) | skip)
              have H' := Aside0.mk H
              clear H
              go_wp2
              go_meet
              case rel => exact ⟨_, (false), (by first | rfl | (simp; done) | (simp [*]; done)), H', ⟨by have := HJ8.out; first | omega | exact Nat.le_refl _⟩, ⟨by (with_reducible repeat (first | apply Kd.R_alloc | apply Kd.R_drewN | apply Kd.R_drew)); exact Kd.R_mono HO331.out (fun _ hk => ⟨hk.1.2, hk.2⟩)⟩, ⟨by (with_reducible repeat (first | apply Kd.R_alloc | apply Kd.R_drewN | apply Kd.R_drew)); exact Kd.R_mono HO335.out (fun _ hk => ⟨hk.1.2, hk.2⟩)⟩, ⟨by (with_reducible repeat (first | apply Kd.R_alloc | apply Kd.R_drewN | apply Kd.R_drew)); exact Kd.R_mono HO339.out (fun _ hk => ⟨hk.1.2, hk.2⟩)⟩, ⟨by repeat (first | (with_reducible first | exact HB.out | apply below_alloc | apply pw_below_drewN | apply below_drew1) | exact HB.out)⟩⟩
          case rest =>
            clear HC16
            try clear c1
            try clear c2
            try clear p2
            try clear c3
            try clear c7
            try clear c8
            try clear c11
            try clear c11b0
            try clear c11b1
            try clear c12
            try clear c20
            try clear c20b0
            try clear c20b1
            try clear p2
            obtain ⟨kq, x19_15, rfl, HA, HJ15, HO_13, HO_15, HO_17, HB⟩ := hcut
            cases kq with
            | zero => exact absurd HA.out (by simp [tidingslaw01_KnowPairs.j1])
            | succ kj15 =>
              have H := HA.out
              clear HA
              simp only [tidingslaw01_KnowPairs.j1] at H
              have HC21 := Aside0.mk H
              clear H
              go_upto_region 9 with (fail)
              go_cut [78] (fun v78 wc => ∃ (kq : Nat) (x78_20 : Bool), v78 = .bool x78_20 ∧ Aside0 (tidingslaw01_KnowPairs.j2 kq l0 l1 a4 a5 t332 t333 t336 t337 x19_15 x78_20 = some r) ∧ Aside0 (kq ≤ kj15) ∧ Aside0 (Kd.R k78 78 wc w.heap.size (fun k_ => some k_ ≠ (v338 : Value).ownBlock) v334 t332) ∧ Aside0 (Kd.R k78 78 wc w.heap.size (fun k_ => some k_ ≠ (v334 : Value).ownBlock) v338 t336) ∧ Aside0 (Below w.heap.size w wc))
              case first =>
                have H := HC21.out
                clear HC21
                rcases t329 with _ | q340
                · have H1 : ((know_Right.f kj15 t328).bind fun t341 => (if t341 = true then ((know_Has.f kj15 t328 a4 a5).bind fun t342 => ((know_Has.f kj15 l0 a4 a5).bind fun t343 => (if t343 = true then (tidingslaw01_KnowPairs.j2 kj15 l0 l1 a4 a5 t332 t333 t336 t337 x19_15 (t342 != true)) else (tidingslaw01_KnowPairs.j2 kj15 l0 l1 a4 a5 t332 t333 t336 t337 x19_15 (t342 != x19_15))))) else (tidingslaw01_KnowPairs.j2 kj15 l0 l1 a4 a5 t332 t333 t336 t337 x19_15 true))) = some r := by rw [if_pos (show (none : Option Int).isNone = true by rfl)] at H; exact H
                  clear H
                  have H := H1
                  clear H1
                  try simp only [errW_none, errW_some]
                  replace H := Option.bind_eq_some_iff.mp H
                  obtain ⟨t341, A220, H⟩ := H
                  replace H : (if t341 = true then ((know_Has.f kj15 t328 a4 a5).bind fun t342 => ((know_Has.f kj15 l0 a4 a5).bind fun t343 => (if t343 = true then (tidingslaw01_KnowPairs.j2 kj15 l0 l1 a4 a5 t332 t333 t336 t337 x19_15 (t342 != true)) else (tidingslaw01_KnowPairs.j2 kj15 l0 l1 a4 a5 t332 t333 t336 t337 x19_15 (t342 != x19_15))))) else (tidingslaw01_KnowPairs.j2 kj15 l0 l1 a4 a5 t332 t333 t336 t337 x19_15 true)) = some r := H
                  have A22 := Aside0.mk A220
                  clear A220
                  by_cases c23 : t341 = true
                  · subst c23
                    have H1 : ((know_Has.f kj15 t328 a4 a5).bind fun t342 => ((know_Has.f kj15 l0 a4 a5).bind fun t343 => (if t343 = true then (tidingslaw01_KnowPairs.j2 kj15 l0 l1 a4 a5 t332 t333 t336 t337 x19_15 (t342 != true)) else (tidingslaw01_KnowPairs.j2 kj15 l0 l1 a4 a5 t332 t333 t336 t337 x19_15 (t342 != x19_15))))) = some r := by rw [if_pos rfl] at H; exact H
                    clear H
                    have H := H1
                    clear H1
                    replace H := Option.bind_eq_some_iff.mp H
                    obtain ⟨t342, A240, H⟩ := H
                    replace H : ((know_Has.f kj15 l0 a4 a5).bind fun t343 => (if t343 = true then (tidingslaw01_KnowPairs.j2 kj15 l0 l1 a4 a5 t332 t333 t336 t337 x19_15 (t342 != true)) else (tidingslaw01_KnowPairs.j2 kj15 l0 l1 a4 a5 t332 t333 t336 t337 x19_15 (t342 != x19_15)))) = some r := H
                    have A24 := Aside0.mk A240
                    clear A240
                    replace H := Option.bind_eq_some_iff.mp H
                    obtain ⟨t343, A250, H⟩ := H
                    replace H : (if t343 = true then (tidingslaw01_KnowPairs.j2 kj15 l0 l1 a4 a5 t332 t333 t336 t337 x19_15 (t342 != true)) else (tidingslaw01_KnowPairs.j2 kj15 l0 l1 a4 a5 t332 t333 t336 t337 x19_15 (t342 != x19_15))) = some r := H
                    have A25 := Aside0.mk A250
                    clear A250
                    by_cases c26 : t343 = true
                    · subst c26
                      have H1 : (tidingslaw01_KnowPairs.j2 kj15 l0 l1 a4 a5 t332 t333 t336 t337 x19_15 (t342 != true)) = some r := by rw [if_pos rfl] at H; exact H
                      clear H
                      have H := H1
                      clear H1
                      have H' := Aside0.mk H
                      clear H
                      obtain ⟨Ao27, co27, eo27⟩ := Kd.R_slice HO_13.out
                      subst eo27
                      go_wp2_with (first | (go_at_call 36; (with_reducible refine (know_Right.calls kj15 _ _ t328 true _ ?side1 ?side2 A22.out).mono ?_); (case side1 => repeat (first | exact (Kd.R_reads' HO_13.out).2.2 | (with_reducible refine Kd.C_alloc ?_ _) | (with_reducible refine Kd.C_drewN ?_ _) | (with_reducible refine Kd.C_drew ?_))); (case side2 => exact (Kd.R_reads' HO_13.out).2.1); rintro e w28 ⟨rfl, hb⟩; have n0_ := Aside0.mk (Kd.R_below (by (with_reducible repeat (first | apply Kd.R_alloc | apply Kd.R_drewN | apply Kd.R_drew)); exact HO_13.out) hb); have n1_ := Aside0.mk (Kd.R_below (by (with_reducible repeat (first | apply Kd.R_alloc | apply Kd.R_drewN | apply Kd.R_drew)); exact HO_15.out) hb); have n2_ := Aside0.mk (Kd.R_below (by (with_reducible repeat (first | apply Kd.R_alloc | apply Kd.R_drewN | apply Kd.R_drew)); exact HO_17.out) hb); have n3_ := Aside0.mk (below_step (by repeat (first | (with_reducible first | exact HB.out | apply below_alloc | apply pw_below_drewN | apply below_drew1) | exact HB.out)) hb); clear HO_13; clear HO_15; clear HO_17; clear HB; have HO_13 := n0_; have HO_15 := n1_; have HO_17 := n2_; have HB := n3_; clear n0_ n1_ n2_ n3_; (try clear hb); (try clear hb2); (try clear hk); (try clear hi)) | (go_at_call 37; (with_reducible refine (know_Has.calls kj15 _ _ t328 a4 a5 t342 _ ?side1 ?side2 A24.out).mono ?_); (case side1 => repeat (first | exact (Kd.R_reads' HO_13.out).2.2 | (with_reducible refine Kd.C_alloc ?_ _) | (with_reducible refine Kd.C_drewN ?_ _) | (with_reducible refine Kd.C_drew ?_))); (case side2 => exact (Kd.R_reads' HO_13.out).2.1); rintro e w29 ⟨rfl, hb⟩; have n0_ := Aside0.mk (Kd.R_below (by (with_reducible repeat (first | apply Kd.R_alloc | apply Kd.R_drewN | apply Kd.R_drew)); exact HO_13.out) hb); have n1_ := Aside0.mk (Kd.R_below (by (with_reducible repeat (first | apply Kd.R_alloc | apply Kd.R_drewN | apply Kd.R_drew)); exact HO_15.out) hb); have n2_ := Aside0.mk (Kd.R_below (by (with_reducible repeat (first | apply Kd.R_alloc | apply Kd.R_drewN | apply Kd.R_drew)); exact HO_17.out) hb); have n3_ := Aside0.mk (below_step (by repeat (first | (with_reducible first | exact HB.out | apply below_alloc | apply pw_below_drewN | apply below_drew1) | exact HB.out)) hb); clear HO_13; clear HO_15; clear HO_17; clear HB; have HO_13 := n0_; have HO_15 := n1_; have HO_17 := n2_; have HB := n3_; clear n0_ n1_ n2_ n3_; (try clear hb); (try clear hb2); (try clear hk); (try clear hi)) | (go_at_call 37; (with_reducible refine (know_Has.calls kj15 _ _ l0 a4 a5 true _ ?side1 ?side2 A25.out).mono ?_); (case side1 => repeat (first | exact (Kd.C_below HR0.out HB.out) | (with_reducible refine Kd.C_alloc ?_ _) | (with_reducible refine Kd.C_drewN ?_ _) | (with_reducible refine Kd.C_drew ?_))); (case side2 => exact HC0.out); rintro e w30 ⟨rfl, hb⟩; have n0_ := Aside0.mk (Kd.R_below (by (with_reducible repeat (first | apply Kd.R_alloc | apply Kd.R_drewN | apply Kd.R_drew)); exact HO_13.out) hb); have n1_ := Aside0.mk (Kd.R_below (by (with_reducible repeat (first | apply Kd.R_alloc | apply Kd.R_drewN | apply Kd.R_drew)); exact HO_15.out) hb); have n2_ := Aside0.mk (Kd.R_below (by (with_reducible repeat (first | apply Kd.R_alloc | apply Kd.R_drewN | apply Kd.R_drew)); exact HO_17.out) hb); have n3_ := Aside0.mk (below_step (by repeat (first | (with_reducible first | exact HB.out | apply below_alloc | apply pw_below_drewN | apply below_drew1) | exact HB.out)) hb); clear HO_13; clear HO_15; clear HO_17; clear HB; have HO_13 := n0_; have HO_15 := n1_; have HO_17 := n2_; have HB := n3_; clear n0_ n1_ n2_ n3_; (try clear hb); (try clear hb2); (try clear hk); (try clear hi)))
                      go_meet
                      case rel => exact ⟨_, ((t342 != true)), (by first | rfl | (simp; done) | (simp [*]; done)), H', ⟨by have := HJ8.out; have := HJ15.out; first | omega | exact Nat.le_refl _⟩, ⟨by (with_reducible repeat (first | apply Kd.R_alloc | apply Kd.R_drewN | apply Kd.R_drew)); exact Kd.R_mono HO_15.out (fun _ hk => hk.2)⟩, ⟨by (with_reducible repeat (first | apply Kd.R_alloc | apply Kd.R_drewN | apply Kd.R_drew)); exact Kd.R_mono HO_17.out (fun _ hk => hk.2)⟩, ⟨by repeat (first | (with_reducible first | exact HB.out | apply below_alloc | apply pw_below_drewN | apply below_drew1) | exact HB.out)⟩⟩
                    · replace c26 := Bool.eq_false_iff.mpr c26
                      subst c26
                      have H1 : (tidingslaw01_KnowPairs.j2 kj15 l0 l1 a4 a5 t332 t333 t336 t337 x19_15 (t342 != x19_15)) = some r := by rw [if_neg (show ¬ (false = true) by decide)] at H; exact H
                      clear H
                      have H := H1
                      clear H1
                      have H' := Aside0.mk H
                      clear H
                      obtain ⟨Ao31, co31, eo31⟩ := Kd.R_slice HO_13.out
                      subst eo31
                      go_wp2_with (first | (go_at_call 36; (with_reducible refine (know_Right.calls kj15 _ _ t328 true _ ?side1 ?side2 A22.out).mono ?_); (case side1 => repeat (first | exact (Kd.R_reads' HO_13.out).2.2 | (with_reducible refine Kd.C_alloc ?_ _) | (with_reducible refine Kd.C_drewN ?_ _) | (with_reducible refine Kd.C_drew ?_))); (case side2 => exact (Kd.R_reads' HO_13.out).2.1); rintro e w32 ⟨rfl, hb⟩; have n0_ := Aside0.mk (Kd.R_below (by (with_reducible repeat (first | apply Kd.R_alloc | apply Kd.R_drewN | apply Kd.R_drew)); exact HO_13.out) hb); have n1_ := Aside0.mk (Kd.R_below (by (with_reducible repeat (first | apply Kd.R_alloc | apply Kd.R_drewN | apply Kd.R_drew)); exact HO_15.out) hb); have n2_ := Aside0.mk (Kd.R_below (by (with_reducible repeat (first | apply Kd.R_alloc | apply Kd.R_drewN | apply Kd.R_drew)); exact HO_17.out) hb); have n3_ := Aside0.mk (below_step (by repeat (first | (with_reducible first | exact HB.out | apply below_alloc | apply pw_below_drewN | apply below_drew1) | exact HB.out)) hb); clear HO_13; clear HO_15; clear HO_17; clear HB; have HO_13 := n0_; have HO_15 := n1_; have HO_17 := n2_; have HB := n3_; clear n0_ n1_ n2_ n3_; (try clear hb); (try clear hb2); (try clear hk); (try clear hi)) | (go_at_call 37; (with_reducible refine (know_Has.calls kj15 _ _ t328 a4 a5 t342 _ ?side1 ?side2 A24.out).mono ?_); (case side1 => repeat (first | exact (Kd.R_reads' HO_13.out).2.2 | (with_reducible refine Kd.C_alloc ?_ _) | (with_reducible refine Kd.C_drewN ?_ _) | (with_reducible refine Kd.C_drew ?_))); (case side2 => exact (Kd.R_reads' HO_13.out).2.1); rintro e w33 ⟨rfl, hb⟩; have n0_ := Aside0.mk (Kd.R_below (by (with_reducible repeat (first | apply Kd.R_alloc | apply Kd.R_drewN | apply Kd.R_drew)); exact HO_13.out) hb); have n1_ := Aside0.mk (Kd.R_below (by (with_reducible repeat (first | apply Kd.R_alloc | apply Kd.R_drewN | apply Kd.R_drew)); exact HO_15.out) hb); have n2_ := Aside0.mk (Kd.R_below (by (with_reducible repeat (first | apply Kd.R_alloc | apply Kd.R_drewN | apply Kd.R_drew)); exact HO_17.out) hb); have n3_ := Aside0.mk (below_step (by repeat (first | (with_reducible first | exact HB.out | apply below_alloc | apply pw_below_drewN | apply below_drew1) | exact HB.out)) hb); clear HO_13; clear HO_15; clear HO_17; clear HB; have HO_13 := n0_; have HO_15 := n1_; have HO_17 := n2_; have HB := n3_; clear n0_ n1_ n2_ n3_; (try clear hb); (try clear hb2); (try clear hk); (try clear hi)) | (go_at_call 37; (with_reducible refine (know_Has.calls kj15 _ _ l0 a4 a5 false _ ?side1 ?side2 A25.out).mono ?_); (case side1 => repeat (first | exact (Kd.C_below HR0.out HB.out) | (with_reducible refine Kd.C_alloc ?_ _) | (with_reducible refine Kd.C_drewN ?_ _) | (with_reducible refine Kd.C_drew ?_))); (case side2 => exact HC0.out); rintro e w34 ⟨rfl, hb⟩; have n0_ := Aside0.mk (Kd.R_below (by (with_reducible repeat (first | apply Kd.R_alloc | apply Kd.R_drewN | apply Kd.R_drew)); exact HO_13.out) hb); have n1_ := Aside0.mk (Kd.R_below (by (with_reducible repeat (first | apply Kd.R_alloc | apply Kd.R_drewN | apply Kd.R_drew)); exact HO_15.out) hb); have n2_ := Aside0.mk (Kd.R_below (by (with_reducible repeat (first | apply Kd.R_alloc | apply Kd.R_drewN | apply Kd.R_drew)); exact HO_17.out) hb); have n3_ := Aside0.mk (below_step (by repeat (first | (with_reducible first | exact HB.out | apply below_alloc | apply pw_below_drewN | apply below_drew1) | exact HB.out)) hb); clear HO_13; clear HO_15; clear HO_17; clear HB; have HO_13 := n0_; have HO_15 := n1_; have HO_17 := n2_; have HB := n3_; clear n0_ n1_ n2_ n3_; (try clear hb); (try clear hb2); (try clear hk); (try clear hi)))
                      go_meet
                      case rel => exact ⟨_, ((t342 != x19_15)), (by first | rfl | (simp; done) | (simp [*]; done)), H', ⟨by have := HJ8.out; have := HJ15.out; first | omega | exact Nat.le_refl _⟩, ⟨by (with_reducible repeat (first | apply Kd.R_alloc | apply Kd.R_drewN | apply Kd.R_drew)); exact Kd.R_mono HO_15.out (fun _ hk => hk.2)⟩, ⟨by (with_reducible repeat (first | apply Kd.R_alloc | apply Kd.R_drewN | apply Kd.R_drew)); exact Kd.R_mono HO_17.out (fun _ hk => hk.2)⟩, ⟨by repeat (first | (with_reducible first | exact HB.out | apply below_alloc | apply pw_below_drewN | apply below_drew1) | exact HB.out)⟩⟩
                  · replace c23 := Bool.eq_false_iff.mpr c23
                    subst c23
                    have H1 : (tidingslaw01_KnowPairs.j2 kj15 l0 l1 a4 a5 t332 t333 t336 t337 x19_15 true) = some r := by rw [if_neg (show ¬ (false = true) by decide)] at H; exact H
                    clear H
                    have H := H1
                    clear H1
                    have H' := Aside0.mk H
                    clear H
                    obtain ⟨Ao35, co35, eo35⟩ := Kd.R_slice HO_13.out
                    subst eo35
                    go_wp2_with (first | (go_at_call 36; (with_reducible refine (know_Right.calls kj15 _ _ t328 false _ ?side1 ?side2 A22.out).mono ?_); (case side1 => repeat (first | exact (Kd.R_reads' HO_13.out).2.2 | (with_reducible refine Kd.C_alloc ?_ _) | (with_reducible refine Kd.C_drewN ?_ _) | (with_reducible refine Kd.C_drew ?_))); (case side2 => exact (Kd.R_reads' HO_13.out).2.1); rintro e w36 ⟨rfl, hb⟩; have n0_ := Aside0.mk (Kd.R_below (by (with_reducible repeat (first | apply Kd.R_alloc | apply Kd.R_drewN | apply Kd.R_drew)); exact HO_13.out) hb); have n1_ := Aside0.mk (Kd.R_below (by (with_reducible repeat (first | apply Kd.R_alloc | apply Kd.R_drewN | apply Kd.R_drew)); exact HO_15.out) hb); have n2_ := Aside0.mk (Kd.R_below (by (with_reducible repeat (first | apply Kd.R_alloc | apply Kd.R_drewN | apply Kd.R_drew)); exact HO_17.out) hb); have n3_ := Aside0.mk (below_step (by repeat (first | (with_reducible first | exact HB.out | apply below_alloc | apply pw_below_drewN | apply below_drew1) | exact HB.out)) hb); clear HO_13; clear HO_15; clear HO_17; clear HB; have HO_13 := n0_; have HO_15 := n1_; have HO_17 := n2_; have HB := n3_; clear n0_ n1_ n2_ n3_; (try clear hb); (try clear hb2); (try clear hk); (try clear hi)))
                    go_meet
                    case rel => exact ⟨_, (true), (by first | rfl | (simp; done) | (simp [*]; done)), H', ⟨by have := HJ8.out; have := HJ15.out; first | omega | exact Nat.le_refl _⟩, ⟨by (with_reducible repeat (first | apply Kd.R_alloc | apply Kd.R_drewN | apply Kd.R_drew)); exact Kd.R_mono HO_15.out (fun _ hk => hk.2)⟩, ⟨by (with_reducible repeat (first | apply Kd.R_alloc | apply Kd.R_drewN | apply Kd.R_drew)); exact Kd.R_mono HO_17.out (fun _ hk => hk.2)⟩, ⟨by repeat (first | (with_reducible first | exact HB.out | apply below_alloc | apply pw_below_drewN | apply below_drew1) | exact HB.out)⟩⟩
                · have H1 : (tidingslaw01_KnowPairs.j2 kj15 l0 l1 a4 a5 t332 t333 t336 t337 x19_15 false) = some r := by rw [if_neg (show ¬ (some q340).isNone = true by simp)] at H; exact H
                  clear H
                  have H := H1
                  clear H1
                  try simp only [errW_none, errW_some]
                  have H' := Aside0.mk H
                  clear H
                  go_wp2
                  go_meet
                  case rel => exact ⟨_, (false), (by first | rfl | (simp; done) | (simp [*]; done)), H', ⟨by have := HJ8.out; have := HJ15.out; first | omega | exact Nat.le_refl _⟩, ⟨by (with_reducible repeat (first | apply Kd.R_alloc | apply Kd.R_drewN | apply Kd.R_drew)); exact Kd.R_mono HO_15.out (fun _ hk => hk.2)⟩, ⟨by (with_reducible repeat (first | apply Kd.R_alloc | apply Kd.R_drewN | apply Kd.R_drew)); exact Kd.R_mono HO_17.out (fun _ hk => hk.2)⟩, ⟨by repeat (first | (with_reducible first | exact HB.out | apply below_alloc | apply pw_below_drewN | apply below_drew1) | exact HB.out)⟩⟩
              case rest =>
                clear HC21
                try clear c1
                try clear c2
                try clear p2
                try clear c3
                try clear q3
                try clear c7
                try clear c8
                try clear c11
                try clear c11b0
                try clear c11b1
                try clear c12
                try clear c20
                try clear c20b0
                try clear c20b1
                try clear c23
                try clear c26
                try clear c32
                try clear c33
                try clear c34
                try clear q34
                try clear c35
                try clear p2
                try clear q340
                obtain ⟨kq, x78_20, rfl, HA, HJ20, HO_15, HO_17, HB⟩ := hcut
                cases kq with
                | zero => exact absurd HA.out (by simp [tidingslaw01_KnowPairs.j2])
                | succ kj20 =>
                  have H := HA.out
                  clear HA
                  simp only [tidingslaw01_KnowPairs.j2] at H
                  by_cases c37 : x78_20 = true
                  · subst c37
                    have H1 : (some false) = some r := by rw [if_pos rfl] at H; exact H
                    clear H
                    have H := H1
                    clear H1
                    obtain rfl := Option.some.inj H
                    go_wp2
                    go_ret
                    exact ⟨by first | rfl | (simp [errW_none, errW_some] <;> rfl) | (simp [*, errW_none, errW_some] <;> rfl), by repeat (first | (with_reducible first | exact HB.out | apply below_alloc | apply pw_below_drewN | apply below_drew1) | exact HB.out)⟩
                  · replace c37 := Bool.eq_false_iff.mpr c37
                    subst c37
                    have H1 : (if t333.isNone = true then ((know_Right.f kj20 t332).bind fun t345 => (if t345 = true then ((know_Has.f kj20 t332 a4 a5).bind fun t346 => ((know_Has.f kj20 l0 a4 a5).bind fun t347 => (if t347 = true then (tidingslaw01_KnowPairs.j3 kj20 l0 l1 a4 a5 t336 t337 (t346 != (!x19_15))) else (tidingslaw01_KnowPairs.j3 kj20 l0 l1 a4 a5 t336 t337 (t346 != false))))) else (tidingslaw01_KnowPairs.j3 kj20 l0 l1 a4 a5 t336 t337 true))) else (tidingslaw01_KnowPairs.j3 kj20 l0 l1 a4 a5 t336 t337 false)) = some r := by rw [if_neg (show ¬ (false = true) by decide)] at H; exact H
                    clear H
                    have H := H1
                    clear H1
                    have HC38 := Aside0.mk H
                    clear H
                    go_upto_region 11 with (fail)
                    go_cut [100] (fun v100 wc => ∃ (kq : Nat) (x100_37 : Bool), v100 = .bool x100_37 ∧ Aside0 (tidingslaw01_KnowPairs.j3 kq l0 l1 a4 a5 t336 t337 x100_37 = some r) ∧ Aside0 (kq ≤ kj20) ∧ Aside0 (Kd.R k78 78 wc w.heap.size (fun _ => True) v338 t336) ∧ Aside0 (Below w.heap.size w wc))
                    case first =>
                      have H := HC38.out
                      clear HC38
                      rcases t333 with _ | q344
                      · have H1 : ((know_Right.f kj20 t332).bind fun t345 => (if t345 = true then ((know_Has.f kj20 t332 a4 a5).bind fun t346 => ((know_Has.f kj20 l0 a4 a5).bind fun t347 => (if t347 = true then (tidingslaw01_KnowPairs.j3 kj20 l0 l1 a4 a5 t336 t337 (t346 != (!x19_15))) else (tidingslaw01_KnowPairs.j3 kj20 l0 l1 a4 a5 t336 t337 (t346 != false))))) else (tidingslaw01_KnowPairs.j3 kj20 l0 l1 a4 a5 t336 t337 true))) = some r := by rw [if_pos (show (none : Option Int).isNone = true by rfl)] at H; exact H
                        clear H
                        have H := H1
                        clear H1
                        try simp only [errW_none, errW_some]
                        replace H := Option.bind_eq_some_iff.mp H
                        obtain ⟨t345, A390, H⟩ := H
                        replace H : (if t345 = true then ((know_Has.f kj20 t332 a4 a5).bind fun t346 => ((know_Has.f kj20 l0 a4 a5).bind fun t347 => (if t347 = true then (tidingslaw01_KnowPairs.j3 kj20 l0 l1 a4 a5 t336 t337 (t346 != (!x19_15))) else (tidingslaw01_KnowPairs.j3 kj20 l0 l1 a4 a5 t336 t337 (t346 != false))))) else (tidingslaw01_KnowPairs.j3 kj20 l0 l1 a4 a5 t336 t337 true)) = some r := H
                        have A39 := Aside0.mk A390
                        clear A390
                        by_cases c40 : t345 = true
                        · subst c40
                          have H1 : ((know_Has.f kj20 t332 a4 a5).bind fun t346 => ((know_Has.f kj20 l0 a4 a5).bind fun t347 => (if t347 = true then (tidingslaw01_KnowPairs.j3 kj20 l0 l1 a4 a5 t336 t337 (t346 != (!x19_15))) else (tidingslaw01_KnowPairs.j3 kj20 l0 l1 a4 a5 t336 t337 (t346 != false))))) = some r := by rw [if_pos rfl] at H; exact H
                          clear H
                          have H := H1
                          clear H1
                          replace H := Option.bind_eq_some_iff.mp H
                          obtain ⟨t346, A410, H⟩ := H
                          replace H : ((know_Has.f kj20 l0 a4 a5).bind fun t347 => (if t347 = true then (tidingslaw01_KnowPairs.j3 kj20 l0 l1 a4 a5 t336 t337 (t346 != (!x19_15))) else (tidingslaw01_KnowPairs.j3 kj20 l0 l1 a4 a5 t336 t337 (t346 != false)))) = some r := H
                          have A41 := Aside0.mk A410
                          clear A410
                          replace H := Option.bind_eq_some_iff.mp H
                          obtain ⟨t347, A420, H⟩ := H
                          replace H : (if t347 = true then (tidingslaw01_KnowPairs.j3 kj20 l0 l1 a4 a5 t336 t337 (t346 != (!x19_15))) else (tidingslaw01_KnowPairs.j3 kj20 l0 l1 a4 a5 t336 t337 (t346 != false))) = some r := H
                          have A42 := Aside0.mk A420
                          clear A420
                          by_cases c43 : t347 = true
                          · subst c43
                            have H1 : (tidingslaw01_KnowPairs.j3 kj20 l0 l1 a4 a5 t336 t337 (t346 != (!x19_15))) = some r := by rw [if_pos rfl] at H; exact H
                            clear H
                            have H := H1
                            clear H1
                            have H' := Aside0.mk H
                            clear H
                            obtain ⟨Ao44, co44, eo44⟩ := Kd.R_slice HO_15.out
                            subst eo44
                            go_wp2_with (first | (go_at_call 36; (with_reducible refine (know_Right.calls kj20 _ _ t332 true _ ?side1 ?side2 A39.out).mono ?_); (case side1 => repeat (first | exact (Kd.R_reads' HO_15.out).2.2 | (with_reducible refine Kd.C_alloc ?_ _) | (with_reducible refine Kd.C_drewN ?_ _) | (with_reducible refine Kd.C_drew ?_))); (case side2 => exact (Kd.R_reads' HO_15.out).2.1); rintro e w45 ⟨rfl, hb⟩; have n0_ := Aside0.mk (Kd.R_below (by (with_reducible repeat (first | apply Kd.R_alloc | apply Kd.R_drewN | apply Kd.R_drew)); exact HO_15.out) hb); have n1_ := Aside0.mk (Kd.R_below (by (with_reducible repeat (first | apply Kd.R_alloc | apply Kd.R_drewN | apply Kd.R_drew)); exact HO_17.out) hb); have n2_ := Aside0.mk (below_step (by repeat (first | (with_reducible first | exact HB.out | apply below_alloc | apply pw_below_drewN | apply below_drew1) | exact HB.out)) hb); clear HO_15; clear HO_17; clear HB; have HO_15 := n0_; have HO_17 := n1_; have HB := n2_; clear n0_ n1_ n2_; (try clear hb); (try clear hb2); (try clear hk); (try clear hi)) | (go_at_call 37; (with_reducible refine (know_Has.calls kj20 _ _ t332 a4 a5 t346 _ ?side1 ?side2 A41.out).mono ?_); (case side1 => repeat (first | exact (Kd.R_reads' HO_15.out).2.2 | (with_reducible refine Kd.C_alloc ?_ _) | (with_reducible refine Kd.C_drewN ?_ _) | (with_reducible refine Kd.C_drew ?_))); (case side2 => exact (Kd.R_reads' HO_15.out).2.1); rintro e w46 ⟨rfl, hb⟩; have n0_ := Aside0.mk (Kd.R_below (by (with_reducible repeat (first | apply Kd.R_alloc | apply Kd.R_drewN | apply Kd.R_drew)); exact HO_15.out) hb); have n1_ := Aside0.mk (Kd.R_below (by (with_reducible repeat (first | apply Kd.R_alloc | apply Kd.R_drewN | apply Kd.R_drew)); exact HO_17.out) hb); have n2_ := Aside0.mk (below_step (by repeat (first | (with_reducible first | exact HB.out | apply below_alloc | apply pw_below_drewN | apply below_drew1) | exact HB.out)) hb); clear HO_15; clear HO_17; clear HB; have HO_15 := n0_; have HO_17 := n1_; have HB := n2_; clear n0_ n1_ n2_; (try clear hb); (try clear hb2); (try clear hk); (try clear hi)) | (go_at_call 37; (with_reducible refine (know_Has.calls kj20 _ _ l0 a4 a5 true _ ?side1 ?side2 A42.out).mono ?_); (case side1 => repeat (first | exact (Kd.C_below HR0.out HB.out) | (with_reducible refine Kd.C_alloc ?_ _) | (with_reducible refine Kd.C_drewN ?_ _) | (with_reducible refine Kd.C_drew ?_))); (case side2 => exact HC0.out); rintro e w47 ⟨rfl, hb⟩; have n0_ := Aside0.mk (Kd.R_below (by (with_reducible repeat (first | apply Kd.R_alloc | apply Kd.R_drewN | apply Kd.R_drew)); exact HO_15.out) hb); have n1_ := Aside0.mk (Kd.R_below (by (with_reducible repeat (first | apply Kd.R_alloc | apply Kd.R_drewN | apply Kd.R_drew)); exact HO_17.out) hb); have n2_ := Aside0.mk (below_step (by repeat (first | (with_reducible first | exact HB.out | apply below_alloc | apply pw_below_drewN | apply below_drew1) | exact HB.out)) hb); clear HO_15; clear HO_17; clear HB; have HO_15 := n0_; have HO_17 := n1_; have HB := n2_; clear n0_ n1_ n2_; (try clear hb); (try clear hb2); (try clear hk); (try clear hi)))
                            go_meet
                            case rel => exact ⟨_, ((t346 != (!x19_15))), (by first | rfl | (simp; done) | (simp [*]; done)), H', ⟨by have := HJ8.out; have := HJ15.out; have := HJ20.out; first | omega | exact Nat.le_refl _⟩, ⟨by (with_reducible repeat (first | apply Kd.R_alloc | apply Kd.R_drewN | apply Kd.R_drew)); exact Kd.R_mono HO_17.out (fun _ hk => trivial)⟩, ⟨by repeat (first | (with_reducible first | exact HB.out | apply below_alloc | apply pw_below_drewN | apply below_drew1) | exact HB.out)⟩⟩
                          · replace c43 := Bool.eq_false_iff.mpr c43
                            subst c43
                            have H1 : (tidingslaw01_KnowPairs.j3 kj20 l0 l1 a4 a5 t336 t337 (t346 != false)) = some r := by rw [if_neg (show ¬ (false = true) by decide)] at H; exact H
                            clear H
                            have H := H1
                            clear H1
                            have H' := Aside0.mk H
                            clear H
                            obtain ⟨Ao48, co48, eo48⟩ := Kd.R_slice HO_15.out
                            subst eo48
                            go_wp2_with (first | (go_at_call 36; (with_reducible refine (know_Right.calls kj20 _ _ t332 true _ ?side1 ?side2 A39.out).mono ?_); (case side1 => repeat (first | exact (Kd.R_reads' HO_15.out).2.2 | (with_reducible refine Kd.C_alloc ?_ _) | (with_reducible refine Kd.C_drewN ?_ _) | (with_reducible refine Kd.C_drew ?_))); (case side2 => exact (Kd.R_reads' HO_15.out).2.1); rintro e w49 ⟨rfl, hb⟩; have n0_ := Aside0.mk (Kd.R_below (by (with_reducible repeat (first | apply Kd.R_alloc | apply Kd.R_drewN | apply Kd.R_drew)); exact HO_15.out) hb); have n1_ := Aside0.mk (Kd.R_below (by (with_reducible repeat (first | apply Kd.R_alloc | apply Kd.R_drewN | apply Kd.R_drew)); exact HO_17.out) hb); have n2_ := Aside0.mk (below_step (by repeat (first | (with_reducible first | exact HB.out | apply below_alloc | apply pw_below_drewN | apply below_drew1) | exact HB.out)) hb); clear HO_15; clear HO_17; clear HB; have HO_15 := n0_; have HO_17 := n1_; have HB := n2_; clear n0_ n1_ n2_; (try clear hb); (try clear hb2); (try clear hk); (try clear hi)) | (go_at_call 37; (with_reducible refine (know_Has.calls kj20 _ _ t332 a4 a5 t346 _ ?side1 ?side2 A41.out).mono ?_); (case side1 => repeat (first | exact (Kd.R_reads' HO_15.out).2.2 | (with_reducible refine Kd.C_alloc ?_ _) | (with_reducible refine Kd.C_drewN ?_ _) | (with_reducible refine Kd.C_drew ?_))); (case side2 => exact (Kd.R_reads' HO_15.out).2.1); rintro e w50 ⟨rfl, hb⟩; have n0_ := Aside0.mk (Kd.R_below (by (with_reducible repeat (first | apply Kd.R_alloc | apply Kd.R_drewN | apply Kd.R_drew)); exact HO_15.out) hb); have n1_ := Aside0.mk (Kd.R_below (by (with_reducible repeat (first | apply Kd.R_alloc | apply Kd.R_drewN | apply Kd.R_drew)); exact HO_17.out) hb); have n2_ := Aside0.mk (below_step (by repeat (first | (with_reducible first | exact HB.out | apply below_alloc | apply pw_below_drewN | apply below_drew1) | exact HB.out)) hb); clear HO_15; clear HO_17; clear HB; have HO_15 := n0_; have HO_17 := n1_; have HB := n2_; clear n0_ n1_ n2_; (try clear hb); (try clear hb2); (try clear hk); (try clear hi)) | (go_at_call 37; (with_reducible refine (know_Has.calls kj20 _ _ l0 a4 a5 false _ ?side1 ?side2 A42.out).mono ?_); (case side1 => repeat (first | exact (Kd.C_below HR0.out HB.out) | (with_reducible refine Kd.C_alloc ?_ _) | (with_reducible refine Kd.C_drewN ?_ _) | (with_reducible refine Kd.C_drew ?_))); (case side2 => exact HC0.out); rintro e w51 ⟨rfl, hb⟩; have n0_ := Aside0.mk (Kd.R_below (by (with_reducible repeat (first | apply Kd.R_alloc | apply Kd.R_drewN | apply Kd.R_drew)); exact HO_15.out) hb); have n1_ := Aside0.mk (Kd.R_below (by (with_reducible repeat (first | apply Kd.R_alloc | apply Kd.R_drewN | apply Kd.R_drew)); exact HO_17.out) hb); have n2_ := Aside0.mk (below_step (by repeat (first | (with_reducible first | exact HB.out | apply below_alloc | apply pw_below_drewN | apply below_drew1) | exact HB.out)) hb); clear HO_15; clear HO_17; clear HB; have HO_15 := n0_; have HO_17 := n1_; have HB := n2_; clear n0_ n1_ n2_; (try clear hb); (try clear hb2); (try clear hk); (try clear hi)))
                            go_meet
                            case rel => exact ⟨_, ((t346 != false)), (by first | rfl | (simp; done) | (simp [*]; done)), H', ⟨by have := HJ8.out; have := HJ15.out; have := HJ20.out; first | omega | exact Nat.le_refl _⟩, ⟨by (with_reducible repeat (first | apply Kd.R_alloc | apply Kd.R_drewN | apply Kd.R_drew)); exact Kd.R_mono HO_17.out (fun _ hk => trivial)⟩, ⟨by repeat (first | (with_reducible first | exact HB.out | apply below_alloc | apply pw_below_drewN | apply below_drew1) | exact HB.out)⟩⟩
                        · replace c40 := Bool.eq_false_iff.mpr c40
                          subst c40
                          have H1 : (tidingslaw01_KnowPairs.j3 kj20 l0 l1 a4 a5 t336 t337 true) = some r := by rw [if_neg (show ¬ (false = true) by decide)] at H; exact H
                          clear H
                          have H := H1
                          clear H1
                          have H' := Aside0.mk H
                          clear H
                          obtain ⟨Ao52, co52, eo52⟩ := Kd.R_slice HO_15.out
                          subst eo52
                          go_wp2_with (first | (go_at_call 36; (with_reducible refine (know_Right.calls kj20 _ _ t332 false _ ?side1 ?side2 A39.out).mono ?_); (case side1 => repeat (first | exact (Kd.R_reads' HO_15.out).2.2 | (with_reducible refine Kd.C_alloc ?_ _) | (with_reducible refine Kd.C_drewN ?_ _) | (with_reducible refine Kd.C_drew ?_))); (case side2 => exact (Kd.R_reads' HO_15.out).2.1); rintro e w53 ⟨rfl, hb⟩; have n0_ := Aside0.mk (Kd.R_below (by (with_reducible repeat (first | apply Kd.R_alloc | apply Kd.R_drewN | apply Kd.R_drew)); exact HO_15.out) hb); have n1_ := Aside0.mk (Kd.R_below (by (with_reducible repeat (first | apply Kd.R_alloc | apply Kd.R_drewN | apply Kd.R_drew)); exact HO_17.out) hb); have n2_ := Aside0.mk (below_step (by repeat (first | (with_reducible first | exact HB.out | apply below_alloc | apply pw_below_drewN | apply below_drew1) | exact HB.out)) hb); clear HO_15; clear HO_17; clear HB; have HO_15 := n0_; have HO_17 := n1_; have HB := n2_; clear n0_ n1_ n2_; (try clear hb); (try clear hb2); (try clear hk); (try clear hi)))
                          go_meet
                          case rel => exact ⟨_, (true), (by first | rfl | (simp; done) | (simp [*]; done)), H', ⟨by have := HJ8.out; have := HJ15.out; have := HJ20.out; first | omega | exact Nat.le_refl _⟩, ⟨by (with_reducible repeat (first | apply Kd.R_alloc | apply Kd.R_drewN | apply Kd.R_drew)); exact Kd.R_mono HO_17.out (fun _ hk => trivial)⟩, ⟨by repeat (first | (with_reducible first | exact HB.out | apply below_alloc | apply pw_below_drewN | apply below_drew1) | exact HB.out)⟩⟩
                      · have H1 : (tidingslaw01_KnowPairs.j3 kj20 l0 l1 a4 a5 t336 t337 false) = some r := by rw [if_neg (show ¬ (some q344).isNone = true by simp)] at H; exact H
                        clear H
                        have H := H1
                        clear H1
                        try simp only [errW_none, errW_some]
                        have H' := Aside0.mk H
                        clear H
                        go_wp2
                        go_meet
                        case rel => exact ⟨_, (false), (by first | rfl | (simp; done) | (simp [*]; done)), H', ⟨by have := HJ8.out; have := HJ15.out; have := HJ20.out; first | omega | exact Nat.le_refl _⟩, ⟨by (with_reducible repeat (first | apply Kd.R_alloc | apply Kd.R_drewN | apply Kd.R_drew)); exact Kd.R_mono HO_17.out (fun _ hk => trivial)⟩, ⟨by repeat (first | (with_reducible first | exact HB.out | apply below_alloc | apply pw_below_drewN | apply below_drew1) | exact HB.out)⟩⟩
                    case rest =>
                      clear HC38
                      try clear c1
                      try clear c2
                      try clear p2
                      try clear c3
                      try clear q3
                      try clear c4
                      try clear c7
                      try clear c8
                      try clear c11
                      try clear c11b0
                      try clear c11b1
                      try clear c12
                      try clear c20
                      try clear c20b0
                      try clear c20b1
                      try clear c23
                      try clear c26
                      try clear c32
                      try clear c33
                      try clear c34
                      try clear q34
                      try clear c35
                      try clear c37
                      try clear c40
                      try clear c43
                      try clear p2
                      try clear q3
                      try clear q34
                      try clear q340
                      try clear q344
                      obtain ⟨kq, x100_37, rfl, HA, HJ37, HO_17, HB⟩ := hcut
                      cases kq with
                      | zero => exact absurd HA.out (by simp [tidingslaw01_KnowPairs.j3])
                      | succ kj37 =>
                        have H := HA.out
                        clear HA
                        simp only [tidingslaw01_KnowPairs.j3] at H
                        by_cases c54 : x100_37 = true
                        · subst c54
                          have H1 : (some false) = some r := by rw [if_pos rfl] at H; exact H
                          clear H
                          have H := H1
                          clear H1
                          obtain rfl := Option.some.inj H
                          go_wp2
                          go_ret
                          exact ⟨by first | rfl | (simp [errW_none, errW_some] <;> rfl) | (simp [*, errW_none, errW_some] <;> rfl), by repeat (first | (with_reducible first | exact HB.out | apply below_alloc | apply pw_below_drewN | apply below_drew1) | exact HB.out)⟩
                        · replace c54 := Bool.eq_false_iff.mpr c54
                          subst c54
                          have H1 : (if t337.isNone = true then ((know_Right.f kj37 t336).bind fun t349 => (if t349 = true then ((know_Has.f kj37 t336 a4 a5).bind fun t350 => ((know_Has.f kj37 l0 a4 a5).bind fun t351 => (if t351 = true then (some (t350 == true)) else ((know_Has.f kj37 l1 a4 a5).bind fun t352 => (some (t350 == t352)))))) else (some false))) else (some true)) = some r := by rw [if_neg (show ¬ (false = true) by decide)] at H; exact H
                          clear H
                          have H := H1
                          clear H1
                          rcases t337 with _ | q348
                          · have H1 : ((know_Right.f kj37 t336).bind fun t349 => (if t349 = true then ((know_Has.f kj37 t336 a4 a5).bind fun t350 => ((know_Has.f kj37 l0 a4 a5).bind fun t351 => (if t351 = true then (some (t350 == true)) else ((know_Has.f kj37 l1 a4 a5).bind fun t352 => (some (t350 == t352)))))) else (some false))) = some r := by rw [if_pos (show (none : Option Int).isNone = true by rfl)] at H; exact H
                            clear H
                            have H := H1
                            clear H1
                            try simp only [errW_none, errW_some]
                            replace H := Option.bind_eq_some_iff.mp H
                            obtain ⟨t349, A550, H⟩ := H
                            replace H : (if t349 = true then ((know_Has.f kj37 t336 a4 a5).bind fun t350 => ((know_Has.f kj37 l0 a4 a5).bind fun t351 => (if t351 = true then (some (t350 == true)) else ((know_Has.f kj37 l1 a4 a5).bind fun t352 => (some (t350 == t352)))))) else (some false)) = some r := H
                            have A55 := Aside0.mk A550
                            clear A550
                            by_cases c56 : t349 = true
                            · subst c56
                              have H1 : ((know_Has.f kj37 t336 a4 a5).bind fun t350 => ((know_Has.f kj37 l0 a4 a5).bind fun t351 => (if t351 = true then (some (t350 == true)) else ((know_Has.f kj37 l1 a4 a5).bind fun t352 => (some (t350 == t352)))))) = some r := by rw [if_pos rfl] at H; exact H
                              clear H
                              have H := H1
                              clear H1
                              replace H := Option.bind_eq_some_iff.mp H
                              obtain ⟨t350, A570, H⟩ := H
                              replace H : ((know_Has.f kj37 l0 a4 a5).bind fun t351 => (if t351 = true then (some (t350 == true)) else ((know_Has.f kj37 l1 a4 a5).bind fun t352 => (some (t350 == t352))))) = some r := H
                              have A57 := Aside0.mk A570
                              clear A570
                              replace H := Option.bind_eq_some_iff.mp H
                              obtain ⟨t351, A580, H⟩ := H
                              replace H : (if t351 = true then (some (t350 == true)) else ((know_Has.f kj37 l1 a4 a5).bind fun t352 => (some (t350 == t352)))) = some r := H
                              have A58 := Aside0.mk A580
                              clear A580
                              by_cases c59 : t351 = true
                              · subst c59
                                have H1 : (some (t350 == true)) = some r := by rw [if_pos rfl] at H; exact H
                                clear H
                                have H := H1
                                clear H1
                                obtain rfl := Option.some.inj H
                                obtain ⟨Ao60, co60, eo60⟩ := Kd.R_slice HO_17.out
                                subst eo60
                                go_wp2_with (first | (go_at_call 36; (with_reducible refine (know_Right.calls kj37 _ _ t336 true _ ?side1 ?side2 A55.out).mono ?_); (case side1 => repeat (first | exact (Kd.R_reads' HO_17.out).2.2 | (with_reducible refine Kd.C_alloc ?_ _) | (with_reducible refine Kd.C_drewN ?_ _) | (with_reducible refine Kd.C_drew ?_))); (case side2 => exact (Kd.R_reads' HO_17.out).2.1); rintro e w61 ⟨rfl, hb⟩; have n0_ := Aside0.mk (Kd.R_below (by (with_reducible repeat (first | apply Kd.R_alloc | apply Kd.R_drewN | apply Kd.R_drew)); exact HO_17.out) hb); have n1_ := Aside0.mk (below_step (by repeat (first | (with_reducible first | exact HB.out | apply below_alloc | apply pw_below_drewN | apply below_drew1) | exact HB.out)) hb); clear HO_17; clear HB; have HO_17 := n0_; have HB := n1_; clear n0_ n1_; (try clear hb); (try clear hb2); (try clear hk); (try clear hi)) | (go_at_call 37; (with_reducible refine (know_Has.calls kj37 _ _ t336 a4 a5 t350 _ ?side1 ?side2 A57.out).mono ?_); (case side1 => repeat (first | exact (Kd.R_reads' HO_17.out).2.2 | (with_reducible refine Kd.C_alloc ?_ _) | (with_reducible refine Kd.C_drewN ?_ _) | (with_reducible refine Kd.C_drew ?_))); (case side2 => exact (Kd.R_reads' HO_17.out).2.1); rintro e w62 ⟨rfl, hb⟩; have n0_ := Aside0.mk (Kd.R_below (by (with_reducible repeat (first | apply Kd.R_alloc | apply Kd.R_drewN | apply Kd.R_drew)); exact HO_17.out) hb); have n1_ := Aside0.mk (below_step (by repeat (first | (with_reducible first | exact HB.out | apply below_alloc | apply pw_below_drewN | apply below_drew1) | exact HB.out)) hb); clear HO_17; clear HB; have HO_17 := n0_; have HB := n1_; clear n0_ n1_; (try clear hb); (try clear hb2); (try clear hk); (try clear hi)) | (go_at_call 37; (with_reducible refine (know_Has.calls kj37 _ _ l0 a4 a5 true _ ?side1 ?side2 A58.out).mono ?_); (case side1 => repeat (first | exact (Kd.C_below HR0.out HB.out) | (with_reducible refine Kd.C_alloc ?_ _) | (with_reducible refine Kd.C_drewN ?_ _) | (with_reducible refine Kd.C_drew ?_))); (case side2 => exact HC0.out); rintro e w63 ⟨rfl, hb⟩; have n0_ := Aside0.mk (Kd.R_below (by (with_reducible repeat (first | apply Kd.R_alloc | apply Kd.R_drewN | apply Kd.R_drew)); exact HO_17.out) hb); have n1_ := Aside0.mk (below_step (by repeat (first | (with_reducible first | exact HB.out | apply below_alloc | apply pw_below_drewN | apply below_drew1) | exact HB.out)) hb); clear HO_17; clear HB; have HO_17 := n0_; have HB := n1_; clear n0_ n1_; (try clear hb); (try clear hb2); (try clear hk); (try clear hi)))
                                go_ret
                                exact ⟨by first | rfl | (simp [errW_none, errW_some] <;> rfl) | (simp [*, errW_none, errW_some] <;> rfl), by repeat (first | (with_reducible first | exact HB.out | apply below_alloc | apply pw_below_drewN | apply below_drew1) | exact HB.out)⟩
                              · replace c59 := Bool.eq_false_iff.mpr c59
                                subst c59
                                have H1 : ((know_Has.f kj37 l1 a4 a5).bind fun t352 => (some (t350 == t352))) = some r := by rw [if_neg (show ¬ (false = true) by decide)] at H; exact H
                                clear H
                                have H := H1
                                clear H1
                                replace H := Option.bind_eq_some_iff.mp H
                                obtain ⟨t352, A640, H⟩ := H
                                replace H : (some (t350 == t352)) = some r := H
                                have A64 := Aside0.mk A640
                                clear A640
                                obtain rfl := Option.some.inj H
                                obtain ⟨Ao65, co65, eo65⟩ := Kd.R_slice HO_17.out
                                subst eo65
                                go_wp2_with (first | (go_at_call 36; (with_reducible refine (know_Right.calls kj37 _ _ t336 true _ ?side1 ?side2 A55.out).mono ?_); (case side1 => repeat (first | exact (Kd.R_reads' HO_17.out).2.2 | (with_reducible refine Kd.C_alloc ?_ _) | (with_reducible refine Kd.C_drewN ?_ _) | (with_reducible refine Kd.C_drew ?_))); (case side2 => exact (Kd.R_reads' HO_17.out).2.1); rintro e w66 ⟨rfl, hb⟩; have n0_ := Aside0.mk (Kd.R_below (by (with_reducible repeat (first | apply Kd.R_alloc | apply Kd.R_drewN | apply Kd.R_drew)); exact HO_17.out) hb); have n1_ := Aside0.mk (below_step (by repeat (first | (with_reducible first | exact HB.out | apply below_alloc | apply pw_below_drewN | apply below_drew1) | exact HB.out)) hb); clear HO_17; clear HB; have HO_17 := n0_; have HB := n1_; clear n0_ n1_; (try clear hb); (try clear hb2); (try clear hk); (try clear hi)) | (go_at_call 37; (with_reducible refine (know_Has.calls kj37 _ _ t336 a4 a5 t350 _ ?side1 ?side2 A57.out).mono ?_); (case side1 => repeat (first | exact (Kd.R_reads' HO_17.out).2.2 | (with_reducible refine Kd.C_alloc ?_ _) | (with_reducible refine Kd.C_drewN ?_ _) | (with_reducible refine Kd.C_drew ?_))); (case side2 => exact (Kd.R_reads' HO_17.out).2.1); rintro e w67 ⟨rfl, hb⟩; have n0_ := Aside0.mk (Kd.R_below (by (with_reducible repeat (first | apply Kd.R_alloc | apply Kd.R_drewN | apply Kd.R_drew)); exact HO_17.out) hb); have n1_ := Aside0.mk (below_step (by repeat (first | (with_reducible first | exact HB.out | apply below_alloc | apply pw_below_drewN | apply below_drew1) | exact HB.out)) hb); clear HO_17; clear HB; have HO_17 := n0_; have HB := n1_; clear n0_ n1_; (try clear hb); (try clear hb2); (try clear hk); (try clear hi)) | (go_at_call 37; (with_reducible refine (know_Has.calls kj37 _ _ l0 a4 a5 false _ ?side1 ?side2 A58.out).mono ?_); (case side1 => repeat (first | exact (Kd.C_below HR0.out HB.out) | (with_reducible refine Kd.C_alloc ?_ _) | (with_reducible refine Kd.C_drewN ?_ _) | (with_reducible refine Kd.C_drew ?_))); (case side2 => exact HC0.out); rintro e w68 ⟨rfl, hb⟩; have n0_ := Aside0.mk (Kd.R_below (by (with_reducible repeat (first | apply Kd.R_alloc | apply Kd.R_drewN | apply Kd.R_drew)); exact HO_17.out) hb); have n1_ := Aside0.mk (below_step (by repeat (first | (with_reducible first | exact HB.out | apply below_alloc | apply pw_below_drewN | apply below_drew1) | exact HB.out)) hb); clear HO_17; clear HB; have HO_17 := n0_; have HB := n1_; clear n0_ n1_; (try clear hb); (try clear hb2); (try clear hk); (try clear hi)) | (go_at_call 37; (with_reducible refine (know_Has.calls kj37 _ _ l1 a4 a5 t352 _ ?side1 ?side2 A64.out).mono ?_); (case side1 => repeat (first | exact (Kd.C_below HR1.out HB.out) | (with_reducible refine Kd.C_alloc ?_ _) | (with_reducible refine Kd.C_drewN ?_ _) | (with_reducible refine Kd.C_drew ?_))); (case side2 => exact HC1.out); rintro e w69 ⟨rfl, hb⟩; have n0_ := Aside0.mk (Kd.R_below (by (with_reducible repeat (first | apply Kd.R_alloc | apply Kd.R_drewN | apply Kd.R_drew)); exact HO_17.out) hb); have n1_ := Aside0.mk (below_step (by repeat (first | (with_reducible first | exact HB.out | apply below_alloc | apply pw_below_drewN | apply below_drew1) | exact HB.out)) hb); clear HO_17; clear HB; have HO_17 := n0_; have HB := n1_; clear n0_ n1_; (try clear hb); (try clear hb2); (try clear hk); (try clear hi)))
                                go_ret
                                exact ⟨by first | rfl | (simp [errW_none, errW_some] <;> rfl) | (simp [*, errW_none, errW_some] <;> rfl), by repeat (first | (with_reducible first | exact HB.out | apply below_alloc | apply pw_below_drewN | apply below_drew1) | exact HB.out)⟩
                            · replace c56 := Bool.eq_false_iff.mpr c56
                              subst c56
                              have H1 : (some false) = some r := by rw [if_neg (show ¬ (false = true) by decide)] at H; exact H
                              clear H
                              have H := H1
                              clear H1
                              obtain rfl := Option.some.inj H
                              obtain ⟨Ao70, co70, eo70⟩ := Kd.R_slice HO_17.out
                              subst eo70
                              go_wp2_with (first | (go_at_call 36; (with_reducible refine (know_Right.calls kj37 _ _ t336 false _ ?side1 ?side2 A55.out).mono ?_); (case side1 => repeat (first | exact (Kd.R_reads' HO_17.out).2.2 | (with_reducible refine Kd.C_alloc ?_ _) | (with_reducible refine Kd.C_drewN ?_ _) | (with_reducible refine Kd.C_drew ?_))); (case side2 => exact (Kd.R_reads' HO_17.out).2.1); rintro e w71 ⟨rfl, hb⟩; have n0_ := Aside0.mk (Kd.R_below (by (with_reducible repeat (first | apply Kd.R_alloc | apply Kd.R_drewN | apply Kd.R_drew)); exact HO_17.out) hb); have n1_ := Aside0.mk (below_step (by repeat (first | (with_reducible first | exact HB.out | apply below_alloc | apply pw_below_drewN | apply below_drew1) | exact HB.out)) hb); clear HO_17; clear HB; have HO_17 := n0_; have HB := n1_; clear n0_ n1_; (try clear hb); (try clear hb2); (try clear hk); (try clear hi)))
                              go_ret
                              exact ⟨by first | rfl | (simp [errW_none, errW_some] <;> rfl) | (simp [*, errW_none, errW_some] <;> rfl), by repeat (first | (with_reducible first | exact HB.out | apply below_alloc | apply pw_below_drewN | apply below_drew1) | exact HB.out)⟩
                          · have H1 : (some true) = some r := by rw [if_neg (show ¬ (some q348).isNone = true by simp)] at H; exact H
                            clear H
                            have H := H1
                            clear H1
                            try simp only [errW_none, errW_some]
                            obtain rfl := Option.some.inj H
                            go_wp2
                            go_ret
                            exact ⟨by first | rfl | (simp [errW_none, errW_some] <;> rfl) | (simp [*, errW_none, errW_some] <;> rfl), by repeat (first | (with_reducible first | exact HB.out | apply below_alloc | apply pw_below_drewN | apply below_drew1) | exact HB.out)⟩
  · replace c8 := Bool.eq_false_iff.mpr c8
    subst c8
    have H1 : (some false) = some r := by rw [if_neg (show ¬ (false = true) by decide)] at H; exact H
    clear H
    have H := H1
    clear H1
    obtain rfl := Option.some.inj H
    go_enter Try.func7, Try.ntmps7
    go_wp2_with (first | ((with_reducible refine gate_callee (f := 32) rfl ?_); refine goesL_ (some 20) rfl rfl Try.func32 (by kernel_rfl) rfl #[] rfl (by (try simp only [List.map_toArray, List.map_cons, List.map_nil]); first | done | rfl | (simp only [List.length_drop, List.length_take]; rfl)) ?_; (with_reducible refine (tidingslaw01_awake.calls k  false _ A7.out).mono ?_); rintro e w72 ⟨rfl, hb⟩; refine ⟨_, rfl, ?_⟩; have n0_ := Aside0.mk (below_step (by repeat (first | (with_reducible first | exact HB.out | apply below_alloc | apply pw_below_drewN | apply below_drew1) | exact HB.out)) hb); clear HB; have HB := n0_; clear n0_; (try clear hb); (try clear hb2); (try clear hk); (try clear hi)))
    go_ret
    exact ⟨by first | rfl | (simp [errW_none, errW_some] <;> rfl) | (simp [*, errW_none, errW_some] <;> rfl), by repeat (first | (with_reducible first | exact HB.out | apply below_alloc | apply pw_below_drewN | apply below_drew1) | exact HB.out)⟩
end Go.Proofs.Ytiminjibcafkaaa.X
