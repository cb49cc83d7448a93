/- Texts that this claim's law comes to, joined by wip/slim.py: XlawKnowTells, XlawKnowUnites. -/
import Derived.Test.YtiminjibcafkaaaDoorKUX15
import Derived.Test.YtiminjibcafkaaaDoorKUJ10
import Derived.Test.YtiminjibcafkaaaDoorKUJ15
import Derived.Test.YtiminjibcafkaaaDoorKUX18
import Derived.Test.YtiminjibcafkaaaDoorKUXhknowUnion
import Derived.Test.YtiminjibcafkaaaDoorKUX19
import Derived.Test.YtiminjibcafkaaaDoorKUX21
import Derived.Test.YtiminjibcafkaaaDoorKUJ24
import Derived.Test.YtiminjibcafkaaaDoorKUJ25
section
/- The law KnowTells at every input. -/
namespace Go.Proofs.YtiminjibcafkaaaDoor.X
open Go.RowKit Go.Proofs.YtiminjibcafkaaaDoorW.PrintWords Go.Proofs.YtiminjibcafkaaaDoorW.PrintLast Go.Proofs.YtiminjibcafkaaaDoorW.PrintMore
set_option linter.unusedVariables false
set_option linter.unusedSimpArgs false
theorem code_num (p : List S65 × Option Int) (h : ∀ c, p.2 = some c → c > 0) : codeOf p.2 = (num p).2 := by
  unfold num codeOf
  cases hp : p.2 with
  | none => rfl
  | some c =>
    show (if c > 0 then c else -1) = c
    rw [if_pos (h c hp)]
theorem fin_pos (l : List S65) (c : Int) (h : (fin l).2 = some c) : c > 0 := by
  unfold fin at h
  split at h
  · cases h; decide
  · cases h
theorem unionF_pos (a b : List S65) (c : Int) (h : (unionF a b).2 = some c) : c > 0 := by
  unfold unionF at h
  split at h
  · exact fin_pos _ c h
  · cases h; decide
theorem unionF_len (a b : List S65) : (unionF a b).1.length ≤ 64 := by
  unfold unionF
  split
  · exact fin_length _
  · simp
end Go.Proofs.YtiminjibcafkaaaDoor.X
end
section
/- The law KnowUnites at every input. -/
namespace Go.Proofs.YtiminjibcafkaaaDoor.X
open Go.RowKit Go.Proofs.YtiminjibcafkaaaDoorW.PrintWords Go.Proofs.YtiminjibcafkaaaDoorW.PrintLast Go.Proofs.YtiminjibcafkaaaDoorW.PrintMore
set_option linter.unusedVariables false
set_option linter.unusedSimpArgs false
set_option maxRecDepth 100000 in
theorem KnowUnites_longa (a b : List S65) (A B : Option Addr) (c d : Nat) (w : World) (hlt : ¬ a.length ≤ 300) : Calls Tryd.prog 5 #[.slice A a.length c, .slice B b.length d] w fun e w' => e = .returned (.bool true) ∧ Below w.heap.size w w' := by
  have HA := Aside0.mk (awake01_any 60 (Nat.le_refl _))
  have hga_a : decide ((a.length : Int) > 300) = true := decide_eq_true (by omega)
  have hgb_a : decide ((300 : Int) < (a.length : Int)) = true := decide_eq_true (by omega)
  have hgc_a : decide (300 < a.length) = true := decide_eq_true (by omega)
  go_enter Tryd.func5, Tryd.ntmps5
  go_wp2_with fail
  refine (tidingslaw01_awake.calls 60 true _ HA.out).mono ?_
  rintro ev w1 ⟨rfl, hb1⟩
  have HB1 := Aside0.mk (hb1)
  clear hb1 
  go_wp2_with fail
  go_ret
  exact ⟨rfl, HB1.out⟩
set_option maxRecDepth 100000 in
theorem KnowUnites_longb (a b : List S65) (A B : Option Addr) (c d : Nat) (w : World) (hlt : a.length ≤ 300) (hlu : ¬ b.length ≤ 300) : Calls Tryd.prog 5 #[.slice A a.length c, .slice B b.length d] w fun e w' => e = .returned (.bool true) ∧ Below w.heap.size w w' := by
  have HA := Aside0.mk (awake01_any 60 (Nat.le_refl _))
  have hga_a : decide ((a.length : Int) > 300) = false := decide_eq_false (by omega)
  have hgb_a : decide ((300 : Int) < (a.length : Int)) = false := decide_eq_false (by omega)
  have hgc_a : decide (300 < a.length) = false := decide_eq_false (by omega)
  have hga_b : decide ((b.length : Int) > 300) = true := decide_eq_true (by omega)
  have hgb_b : decide ((300 : Int) < (b.length : Int)) = true := decide_eq_true (by omega)
  have hgc_b : decide (300 < b.length) = true := decide_eq_true (by omega)
  go_enter Tryd.func5, Tryd.ntmps5
  go_wp2_with fail
  refine (tidingslaw01_awake.calls 60 true _ HA.out).mono ?_
  rintro ev w1 ⟨rfl, hb1⟩
  have HB1 := Aside0.mk (hb1)
  clear hb1 
  go_wp2_with fail
  go_ret
  exact ⟨rfl, HB1.out⟩
set_option maxRecDepth 100000 in
set_option maxHeartbeats 4000000 in
theorem KnowUnites_short (a b lu : List S65) (eu : Option Int) (nu : Int) (A B : Option Addr) (c d : Nat) (w : World) (hg : GT w) (hr : Kd.C k65 w A a.length a) (hc : a.length ≤ c) (hs : Kd.C k65 w B b.length b) (hd : b.length ≤ d) (hlt : a.length ≤ 300) (hlu : b.length ≤ 300)
    (h1 : know_Union.f 100000 a b = some (lu, eu)) (h2 : know_Union.f 100000 b a = some (lu, eu)) (h3 : tidingsref01_Union.f 100000 a b = some (lu, nu)) (h4 : tidingsref01_Same.f 100000 lu lu = some true) (hcu : codeOf eu = nu) : Calls Tryd.prog 5 #[.slice A a.length c, .slice B b.length d] w fun e w' => e = .returned (.bool true) ∧ Below w.heap.size w w' := by
  have ha := awake01_any 60 (Nat.le_refl _)
  have hga_a : decide ((a.length : Int) > 300) = false := decide_eq_false (by omega)
  have hgb_a : decide ((300 : Int) < (a.length : Int)) = false := decide_eq_false (by omega)
  have hgc_a : decide (300 < a.length) = false := decide_eq_false (by omega)
  have hga_b : decide ((b.length : Int) > 300) = false := decide_eq_false (by omega)
  have hgb_b : decide ((300 : Int) < (b.length : Int)) = false := decide_eq_false (by omega)
  have hgc_b : decide (300 < b.length) = false := decide_eq_false (by omega)
  clear hlt hlu
  have HA := Aside0.mk ha
  have HG := Aside0.mk hg
  have HR := Aside0.mk hr
  have HC := Aside0.mk hc
  have HS := Aside0.mk hs
  have HD := Aside0.mk hd
  have H1 := Aside0.mk h1
  have H2 := Aside0.mk h2
  have H3 := Aside0.mk h3
  have H4 := Aside0.mk h4
  have HCU := Aside0.mk hcu
  clear ha hg hr hc hs hd h1 h2 h3 h4 hcu
  have HEU := Aside0.mk (fun (W : World) (h : GT W) => show Calls Tryd.prog 11 #[errW eu] W fun e w' => e = .returned (.int .i64 nu) ∧ Below W.heap.size W w' by rw [← HCU.out]; exact Code_calls eu W h)
  clear HCU
  go_enter Tryd.func5, Tryd.ntmps5
  go_wp2_with fail
  refine (tidingslaw01_awake.calls 60 true _ HA.out).mono ?_
  rintro ev w1 ⟨rfl, hb1⟩
  have HB1 := Aside0.mk (hb1)
  clear hb1 
  go_wp2_with fail
  refine (know_Union.calls 100000 _ _ a _ _ b lu eu _ (Kd.C_below HR.out HB1.out) HC.out (Kd.C_below HS.out HB1.out) HD.out H1.out).mono ?_
  rintro ev w2 ⟨vp, rfl, hRp, hb2⟩
  obtain ⟨Ap, cp, rfl, hDp, hCp⟩ := Kd.R_reads hRp
  have HDp := Aside0.mk hDp
  have HCp_2 := Aside0.mk hCp
  clear hDp hCp hRp
  have HB2 := Aside0.mk (below_step HB1.out hb2)
  clear hb2 HB1
  go_wp2_with fail
  refine (know_Union.calls 100000 _ _ b _ _ a lu eu _ (Kd.C_below HS.out HB2.out) HD.out (Kd.C_below HR.out HB2.out) HC.out H2.out).mono ?_
  rintro ev w3 ⟨vq, rfl, hRq, hb3⟩
  obtain ⟨Aq, cq, rfl, hDq, hCq⟩ := Kd.R_reads hRq
  have HDq := Aside0.mk hDq
  have HCq_3 := Aside0.mk hCq
  clear hDq hCq hRq
  have HB3 := Aside0.mk (below_step HB2.out hb3)
  have HCp_3 := Aside0.mk (Kd.C_below HCp_2.out hb3)
  clear hb3 HB2 HCp_2
  go_wp2_with fail
  refine (tidingsref01_Union.calls 100000 _ _ a _ _ b lu nu _ (Kd.C_below HR.out HB3.out) HC.out (Kd.C_below HS.out HB3.out) HD.out H3.out).mono ?_
  rintro ev w4 ⟨vx, rfl, hRx, hb4⟩
  obtain ⟨Ax, cx, rfl, hDx, hCx⟩ := Kd.R_reads hRx
  have HDx := Aside0.mk hDx
  have HCx_4 := Aside0.mk hCx
  clear hDx hCx hRx
  have HB4 := Aside0.mk (below_step HB3.out hb4)
  have HCp_4 := Aside0.mk (Kd.C_below HCp_3.out hb4)
  have HCq_4 := Aside0.mk (Kd.C_below HCq_3.out hb4)
  clear hb4 HB3 HCp_3 HCq_3
  go_wp2_with fail
  refine (HEU.out _ (HG.out.below HB4.out)).mono ?_
  rintro ev w5 ⟨rfl, hb5⟩
  have HB5 := Aside0.mk (below_step HB4.out hb5)
  have HCp_5 := Aside0.mk (Kd.C_below HCp_4.out hb5)
  have HCq_5 := Aside0.mk (Kd.C_below HCq_4.out hb5)
  have HCx_5 := Aside0.mk (Kd.C_below HCx_4.out hb5)
  clear hb5 HB4 HCp_4 HCq_4 HCx_4
  go_wp2_with fail
  refine (HEU.out _ (HG.out.below HB5.out)).mono ?_
  rintro ev w6 ⟨rfl, hb6⟩
  have HB6 := Aside0.mk (below_step HB5.out hb6)
  have HCp_6 := Aside0.mk (Kd.C_below HCp_5.out hb6)
  have HCq_6 := Aside0.mk (Kd.C_below HCq_5.out hb6)
  have HCx_6 := Aside0.mk (Kd.C_below HCx_5.out hb6)
  clear hb6 HB5 HCp_5 HCq_5 HCx_5
  go_wp2_with fail
  refine (tidingsref01_Same.calls 100000 _ _ lu _ _ lu true _ HCp_6.out HDp.out HCx_6.out HDx.out H4.out).mono ?_
  rintro ev w7 ⟨rfl, hd7⟩
  have hb7 := Drawn0.below hd7
  clear hd7
  have HB7 := Aside0.mk (below_step HB6.out hb7)
  have HCp_7 := Aside0.mk (Kd.C_below HCp_6.out hb7)
  have HCq_7 := Aside0.mk (Kd.C_below HCq_6.out hb7)
  have HCx_7 := Aside0.mk (Kd.C_below HCx_6.out hb7)
  clear hb7 HB6 HCp_6 HCq_6 HCx_6
  go_wp2_with fail
  refine (tidingsref01_Same.calls 100000 _ _ lu _ _ lu true _ HCq_7.out HDq.out HCx_7.out HDx.out H4.out).mono ?_
  rintro ev w8 ⟨rfl, hd8⟩
  have hb8 := Drawn0.below hd8
  clear hd8
  have HB8 := Aside0.mk (below_step HB7.out hb8)
  have HCp_8 := Aside0.mk (Kd.C_below HCp_7.out hb8)
  have HCq_8 := Aside0.mk (Kd.C_below HCq_7.out hb8)
  have HCx_8 := Aside0.mk (Kd.C_below HCx_7.out hb8)
  clear hb8 HB7 HCp_7 HCq_7 HCx_7
  go_wp2_with fail
  go_ret
  exact ⟨rfl, HB8.out⟩
theorem unionF_comm (a b : List S65) : unionF b a = unionF a b := by
  unfold unionF
  rw [Bool.and_comm]
  cases ha : rightK a with
  | false => rfl
  | true =>
    cases hb : rightK b with
    | false => rfl
    | true =>
      simp only [Bool.and_self, if_true]
      obtain ⟨k1, k2⟩ := union_spec a b ((rightK_iff a).1 ha).1 ((rightK_iff b).1 hb).1
      obtain ⟨m1, m2⟩ := union_spec b a ((rightK_iff b).1 hb).1 ((rightK_iff a).1 ha).1
      rw [Canon_uniq _ _ m1 k1 (fun r n => by rw [m2, k2]; exact Or.comm)]
theorem KnowUnites_law (w : World) (x0 x1 : List S65) (o0 : ∀ z ∈ x0, Ok_Run z) (o1 : ∀ z ∈ x1, Ok_Run z) (hg : GT w) {A0 : Option Addr} {c0 : Nat} (g0 : Kd.C k65 w A0 x0.length x0) (l0 : x0.length ≤ c0) {A1 : Option Addr} {c1 : Nat} (g1 : Kd.C k65 w A1 x1.length x1) (l1 : x1.length ≤ c1) :
    Calls Tryd.prog 5 #[.slice A0 x0.length c0, .slice A1 x1.length c1] w fun e w' => e = .returned (.bool true) ∧ Below w.heap.size w w' := by
  by_cases h : x0.length ≤ 300
  · by_cases h' : x1.length ≤ 300
    · have q1 := unionF_len x0 x1
      exact KnowUnites_short x0 x1 (unionF x0 x1).1 (unionF x0 x1).2 (num (unionF x0 x1)).2 A0 A1 c0 c1 w hg g0 l0 g1 l1 h h'
        (UnionK_is x0 x1 (by omega) (by omega) o0 o1 _ (by omega)) ((UnionK_is x1 x0 (by omega) (by omega) o1 o0 _ (by omega)).trans (congrArg some (unionF_comm x0 x1))) (ref01_Union_is x0 x1 (by omega) (by omega) o0 o1 _ (by omega)) (Same01_is _ (by omega) _ (by omega)) (code_num _ (unionF_pos x0 x1))
    · exact KnowUnites_longb x0 x1 A0 A1 c0 c1 w h h'
  · exact KnowUnites_longa x0 x1 A0 A1 c0 c1 w h
end Go.Proofs.YtiminjibcafkaaaDoor.X
end
