/- The law KnowLaws at every input. -/
import Derived.Test.YtiminjibcafkaaaDoorKLX15
import Derived.Test.YtiminjibcafkaaaDoorKLJ10
import Derived.Test.YtiminjibcafkaaaDoorKLJ18
import Derived.Test.YtiminjibcafkaaaDoorKLX18
import Derived.Test.YtiminjibcafkaaaDoorKLXhknowUnion
import Derived.Test.YtiminjibcafkaaaDoorKLX19
import Derived.Test.YtiminjibcafkaaaDoorKLX21
import Derived.Test.YtiminjibcafkaaaDoorKLJ27
import Derived.Test.YtiminjibcafkaaaDoorKLJ28
import Derived.Test.YtiminjibcafkaaaDoorKLJ29
namespace Go.Proofs.YtiminjibcafkaaaDoor.X
open Go.RowKit Go.Proofs.YtiminjibcafkaaaDoorW.PrintWords Go.Proofs.YtiminjibcafkaaaDoorW.PrintLast Go.Proofs.YtiminjibcafkaaaDoorW.PrintMore
set_option linter.unusedVariables false
set_option linter.unusedSimpArgs false
set_option maxRecDepth 100000 in
theorem KnowLaws_longa (a b c : List S65) (A B C : Option Addr) (ca cb cc : Nat) (r n : Int) (w : World) (hlt : ¬ a.length ≤ 300) : Calls Tryd.prog 6 #[.slice A a.length ca, .slice B b.length cb, .slice C c.length cc, .int .u8 r, .int .u32 n] w fun e w' => e = .returned (.bool true) ∧ Below w.heap.size w w' := by
  have HA := Aside0.mk (awake01_any 60 (Nat.le_refl _))
  have hga_a : decide ((a.length : Int) > 300) = true := decide_eq_true (by omega)
  have hgb_a : decide ((300 : Int) < (a.length : Int)) = true := decide_eq_true (by omega)
  have hgc_a : decide (300 < a.length) = true := decide_eq_true (by omega)
  go_enter Tryd.func6, Tryd.ntmps6
  go_wp2_with fail
  refine (tidingslaw01_awake.calls 60 true _ HA.out).mono ?_
  rintro ev w1 ⟨rfl, hb1⟩
  have HB1 := Aside0.mk (hb1)
  clear hb1 
  go_wp2_with fail
  go_ret
  exact ⟨rfl, HB1.out⟩
set_option maxRecDepth 100000 in
theorem KnowLaws_longb (a b c : List S65) (A B C : Option Addr) (ca cb cc : Nat) (r n : Int) (w : World) (hlt : a.length ≤ 300) (hlu : ¬ b.length ≤ 300) : Calls Tryd.prog 6 #[.slice A a.length ca, .slice B b.length cb, .slice C c.length cc, .int .u8 r, .int .u32 n] w fun e w' => e = .returned (.bool true) ∧ Below w.heap.size w w' := by
  have HA := Aside0.mk (awake01_any 60 (Nat.le_refl _))
  have hga_a : decide ((a.length : Int) > 300) = false := decide_eq_false (by omega)
  have hgb_a : decide ((300 : Int) < (a.length : Int)) = false := decide_eq_false (by omega)
  have hgc_a : decide (300 < a.length) = false := decide_eq_false (by omega)
  have hga_b : decide ((b.length : Int) > 300) = true := decide_eq_true (by omega)
  have hgb_b : decide ((300 : Int) < (b.length : Int)) = true := decide_eq_true (by omega)
  have hgc_b : decide (300 < b.length) = true := decide_eq_true (by omega)
  go_enter Tryd.func6, Tryd.ntmps6
  go_wp2_with fail
  refine (tidingslaw01_awake.calls 60 true _ HA.out).mono ?_
  rintro ev w1 ⟨rfl, hb1⟩
  have HB1 := Aside0.mk (hb1)
  clear hb1 
  go_wp2_with fail
  go_ret
  exact ⟨rfl, HB1.out⟩
set_option maxRecDepth 100000 in
theorem KnowLaws_longc (a b c : List S65) (A B C : Option Addr) (ca cb cc : Nat) (r n : Int) (w : World) (hlt : a.length ≤ 300) (hlu : b.length ≤ 300) (hlv : ¬ c.length ≤ 300) : Calls Tryd.prog 6 #[.slice A a.length ca, .slice B b.length cb, .slice C c.length cc, .int .u8 r, .int .u32 n] w fun e w' => e = .returned (.bool true) ∧ Below w.heap.size w w' := by
  have HA := Aside0.mk (awake01_any 60 (Nat.le_refl _))
  have hga_a : decide ((a.length : Int) > 300) = false := decide_eq_false (by omega)
  have hgb_a : decide ((300 : Int) < (a.length : Int)) = false := decide_eq_false (by omega)
  have hgc_a : decide (300 < a.length) = false := decide_eq_false (by omega)
  have hga_b : decide ((b.length : Int) > 300) = false := decide_eq_false (by omega)
  have hgb_b : decide ((300 : Int) < (b.length : Int)) = false := decide_eq_false (by omega)
  have hgc_b : decide (300 < b.length) = false := decide_eq_false (by omega)
  have hga_c : decide ((c.length : Int) > 300) = true := decide_eq_true (by omega)
  have hgb_c : decide ((300 : Int) < (c.length : Int)) = true := decide_eq_true (by omega)
  have hgc_c : decide (300 < c.length) = true := decide_eq_true (by omega)
  go_enter Tryd.func6, Tryd.ntmps6
  go_wp2_with fail
  refine (tidingslaw01_awake.calls 60 true _ HA.out).mono ?_
  rintro ev w1 ⟨rfl, hb1⟩
  have HB1 := Aside0.mk (hb1)
  clear hb1 
  go_wp2_with fail
  go_ret
  exact ⟨rfl, HB1.out⟩
set_option maxRecDepth 100000 in
set_option maxHeartbeats 4000000 in
theorem KnowLaws_nn_some (a b c : List S65) (A B C : Option Addr) (ca cb cc : Nat) (r n : Int) (w : World) (lx ly la : List S65) (lp : List S65) (ep : Option Int) (np : Int) (cg : Int) (hg : GT w) (hra : Kd.C k65 w A a.length a) (hca : a.length ≤ ca) (hrb : Kd.C k65 w B b.length b) (hcb : b.length ≤ cb) (hrc : Kd.C k65 w C c.length c) (hcc : c.length ≤ cc) (hlt : a.length ≤ 300) (hlu : b.length ≤ 300) (hlv : c.length ≤ 300) (h1 : know_Union.f 100000 a b = some (lx, none)) (h2 : know_Union.f 100000 b c = some (ly, none)) (h3 : know_Union.f 100000 lx c = some (lp, ep)) (h4 : know_Union.f 100000 a ly = some (lp, ep)) (h5 : tidingsref01_Same.f 100000 lp lp = some true) (h6 : know_Union.f 100000 lx b = some (lx, none)) (h7 : tidingsref01_Same.f 100000 lx lx = some true) (hcp : codeOf ep = np) (k1 : know_Add.f 100000 a r n = some (la, (some cg))) : Calls Tryd.prog 6 #[.slice A a.length ca, .slice B b.length cb, .slice C c.length cc, .int .u8 r, .int .u32 n] w fun e w' => e = .returned (.bool true) ∧ Below w.heap.size w w' := by
  have ha := awake01_any 60 (Nat.le_refl _)
  have hga_a : decide ((a.length : Int) > 300) = false := decide_eq_false (by omega)
  have hgb_a : decide ((300 : Int) < (a.length : Int)) = false := decide_eq_false (by omega)
  have hgc_a : decide (300 < a.length) = false := decide_eq_false (by omega)
  have hga_b : decide ((b.length : Int) > 300) = false := decide_eq_false (by omega)
  have hgb_b : decide ((300 : Int) < (b.length : Int)) = false := decide_eq_false (by omega)
  have hgc_b : decide (300 < b.length) = false := decide_eq_false (by omega)
  have hga_c : decide ((c.length : Int) > 300) = false := decide_eq_false (by omega)
  have hgb_c : decide ((300 : Int) < (c.length : Int)) = false := decide_eq_false (by omega)
  have hgc_c : decide (300 < c.length) = false := decide_eq_false (by omega)
  clear hlt hlu hlv
  have HA := Aside0.mk ha
  have HG := Aside0.mk hg
  have HRA := Aside0.mk hra
  have HCA := Aside0.mk hca
  have HRB := Aside0.mk hrb
  have HCB := Aside0.mk hcb
  have HRC := Aside0.mk hrc
  have HCC := Aside0.mk hcc
  have H1 := Aside0.mk h1
  have H2 := Aside0.mk h2
  have H3 := Aside0.mk h3
  have H4 := Aside0.mk h4
  have H5 := Aside0.mk h5
  have H6 := Aside0.mk h6
  have H7 := Aside0.mk h7
  have HCP := Aside0.mk hcp
  have K1 := Aside0.mk k1
  clear ha hg hra hca hrb hcb hrc hcc h1 h2 h3 h4 h5 h6 h7 hcp k1
  have eN := errW_none
  have eS0 := errW_some cg
  have HEP := Aside0.mk (fun (W : World) (h : GT W) => show Calls Tryd.prog 11 #[errW ep] W fun e w' => e = .returned (.int .i64 np) ∧ Below W.heap.size W w' by rw [← HCP.out]; exact Code_calls ep W h)
  clear HCP
  go_enter Tryd.func6, Tryd.ntmps6
  go_wp2_with fail
  refine (tidingslaw01_awake.calls 60 true _ HA.out).mono ?_
  rintro ev w1 ⟨rfl, hb1⟩
  have HB1 := Aside0.mk (hb1)
  clear hb1 
  go_wp2_with fail
  refine (know_Union.calls 100000 _ _ a _ _ b lx none _ (Kd.C_below HRA.out HB1.out) HCA.out (Kd.C_below HRB.out HB1.out) HCB.out H1.out).mono ?_
  rintro ev w2 ⟨vx, rfl, hRx, hb2⟩
  obtain ⟨Ax, cx, rfl, hDx, hCx⟩ := Kd.R_reads hRx
  have HDx := Aside0.mk hDx
  have HCx_2 := Aside0.mk hCx
  clear hDx hCx hRx
  have HB2 := Aside0.mk (below_step HB1.out hb2)
  clear hb2 HB1
  go_wp2_with fail
  refine (know_Union.calls 100000 _ _ b _ _ c ly none _ (Kd.C_below HRB.out HB2.out) HCB.out (Kd.C_below HRC.out HB2.out) HCC.out H2.out).mono ?_
  rintro ev w3 ⟨vy, rfl, hRy, hb3⟩
  obtain ⟨Ay, cy, rfl, hDy, hCy⟩ := Kd.R_reads hRy
  have HDy := Aside0.mk hDy
  have HCy_3 := Aside0.mk hCy
  clear hDy hCy hRy
  have HB3 := Aside0.mk (below_step HB2.out hb3)
  have HCx_3 := Aside0.mk (Kd.C_below HCx_2.out hb3)
  clear hb3 HB2 HCx_2
  go_wp2_with fail
  refine (know_Union.calls 100000 _ _ lx _ _ c lp ep _ HCx_3.out HDx.out (Kd.C_below HRC.out HB3.out) HCC.out H3.out).mono ?_
  rintro ev w4 ⟨vp, rfl, hRp, hb4⟩
  obtain ⟨Ap, cp, rfl, hDp, hCp⟩ := Kd.R_reads hRp
  have HDp := Aside0.mk hDp
  have HCp_4 := Aside0.mk hCp
  clear hDp hCp hRp
  have HB4 := Aside0.mk (below_step HB3.out hb4)
  have HCx_4 := Aside0.mk (Kd.C_below HCx_3.out hb4)
  have HCy_4 := Aside0.mk (Kd.C_below HCy_3.out hb4)
  clear hb4 HB3 HCx_3 HCy_3
  go_wp2_with fail
  refine (know_Union.calls 100000 _ _ a _ _ ly lp ep _ (Kd.C_below HRA.out HB4.out) HCA.out HCy_4.out HDy.out H4.out).mono ?_
  rintro ev w5 ⟨vq, rfl, hRq, hb5⟩
  obtain ⟨Aq, cq, rfl, hDq, hCq⟩ := Kd.R_reads hRq
  have HDq := Aside0.mk hDq
  have HCq_5 := Aside0.mk hCq
  clear hDq hCq hRq
  have HB5 := Aside0.mk (below_step HB4.out hb5)
  have HCx_5 := Aside0.mk (Kd.C_below HCx_4.out hb5)
  have HCy_5 := Aside0.mk (Kd.C_below HCy_4.out hb5)
  have HCp_5 := Aside0.mk (Kd.C_below HCp_4.out hb5)
  clear hb5 HB4 HCx_4 HCy_4 HCp_4
  go_wp2_with fail
  refine (HEP.out _ (HG.out.below HB5.out)).mono ?_
  rintro ev w6 ⟨rfl, hb6⟩
  have HB6 := Aside0.mk (below_step HB5.out hb6)
  have HCx_6 := Aside0.mk (Kd.C_below HCx_5.out hb6)
  have HCy_6 := Aside0.mk (Kd.C_below HCy_5.out hb6)
  have HCp_6 := Aside0.mk (Kd.C_below HCp_5.out hb6)
  have HCq_6 := Aside0.mk (Kd.C_below HCq_5.out hb6)
  clear hb6 HB5 HCx_5 HCy_5 HCp_5 HCq_5
  go_wp2_with fail
  refine (HEP.out _ (HG.out.below HB6.out)).mono ?_
  rintro ev w7 ⟨rfl, hb7⟩
  have HB7 := Aside0.mk (below_step HB6.out hb7)
  have HCx_7 := Aside0.mk (Kd.C_below HCx_6.out hb7)
  have HCy_7 := Aside0.mk (Kd.C_below HCy_6.out hb7)
  have HCp_7 := Aside0.mk (Kd.C_below HCp_6.out hb7)
  have HCq_7 := Aside0.mk (Kd.C_below HCq_6.out hb7)
  clear hb7 HB6 HCx_6 HCy_6 HCp_6 HCq_6
  go_wp2_with fail
  refine (tidingsref01_Same.calls 100000 _ _ lp _ _ lp true _ HCp_7.out HDp.out HCq_7.out HDq.out H5.out).mono ?_
  rintro ev w8 ⟨rfl, hd8⟩
  have hb8 := Drawn0.below hd8
  clear hd8
  have HB8 := Aside0.mk (below_step HB7.out hb8)
  have HCx_8 := Aside0.mk (Kd.C_below HCx_7.out hb8)
  have HCy_8 := Aside0.mk (Kd.C_below HCy_7.out hb8)
  have HCp_8 := Aside0.mk (Kd.C_below HCp_7.out hb8)
  have HCq_8 := Aside0.mk (Kd.C_below HCq_7.out hb8)
  clear hb8 HB7 HCx_7 HCy_7 HCp_7 HCq_7
  go_wp2_with fail
  refine (know_Union.calls 100000 _ _ lx _ _ b lx none _ HCx_8.out HDx.out (Kd.C_below HRB.out HB8.out) HCB.out H6.out).mono ?_
  rintro ev w9 ⟨vs, rfl, hRs, hb9⟩
  obtain ⟨As, cs, rfl, hDs, hCs⟩ := Kd.R_reads hRs
  have HDs := Aside0.mk hDs
  have HCs_9 := Aside0.mk hCs
  clear hDs hCs hRs
  have HB9 := Aside0.mk (below_step HB8.out hb9)
  have HCx_9 := Aside0.mk (Kd.C_below HCx_8.out hb9)
  have HCy_9 := Aside0.mk (Kd.C_below HCy_8.out hb9)
  have HCp_9 := Aside0.mk (Kd.C_below HCp_8.out hb9)
  have HCq_9 := Aside0.mk (Kd.C_below HCq_8.out hb9)
  clear hb9 HB8 HCx_8 HCy_8 HCp_8 HCq_8
  go_wp2_with fail
  refine (tidingsref01_Same.calls 100000 _ _ lx _ _ lx true _ HCs_9.out HDs.out HCx_9.out HDx.out H7.out).mono ?_
  rintro ev w10 ⟨rfl, hd10⟩
  have hb10 := Drawn0.below hd10
  clear hd10
  have HB10 := Aside0.mk (below_step HB9.out hb10)
  have HCx_10 := Aside0.mk (Kd.C_below HCx_9.out hb10)
  have HCy_10 := Aside0.mk (Kd.C_below HCy_9.out hb10)
  have HCp_10 := Aside0.mk (Kd.C_below HCp_9.out hb10)
  have HCq_10 := Aside0.mk (Kd.C_below HCq_9.out hb10)
  have HCs_10 := Aside0.mk (Kd.C_below HCs_9.out hb10)
  clear hb10 HB9 HCx_9 HCy_9 HCp_9 HCq_9 HCs_9
  go_wp2_with fail
  refine (know_Add.calls 100000 _ _ a _ _ la (some cg) _ (Kd.C_below HRA.out HB10.out) HCA.out K1.out).mono ?_
  rintro ev w11 ⟨vd, rfl, hRd, hb11⟩
  obtain ⟨Ad, cd, rfl, hDd, hCd⟩ := Kd.R_reads hRd
  have HDd := Aside0.mk hDd
  have HCd_11 := Aside0.mk hCd
  clear hDd hCd hRd
  have HB11 := Aside0.mk (below_step HB10.out hb11)
  have HCx_11 := Aside0.mk (Kd.C_below HCx_10.out hb11)
  have HCy_11 := Aside0.mk (Kd.C_below HCy_10.out hb11)
  have HCp_11 := Aside0.mk (Kd.C_below HCp_10.out hb11)
  have HCq_11 := Aside0.mk (Kd.C_below HCq_10.out hb11)
  have HCs_11 := Aside0.mk (Kd.C_below HCs_10.out hb11)
  clear hb11 HB10 HCx_10 HCy_10 HCp_10 HCq_10 HCs_10
  go_wp2_with fail
  go_ret
  exact ⟨rfl, HB11.out⟩
set_option maxRecDepth 100000 in
set_option maxHeartbeats 4000000 in
theorem KnowLaws_nn_has (a b c : List S65) (A B C : Option Addr) (ca cb cc : Nat) (r n : Int) (w : World) (lx ly la : List S65) (lp : List S65) (ep : Option Int) (np : Int) (hg : GT w) (hra : Kd.C k65 w A a.length a) (hca : a.length ≤ ca) (hrb : Kd.C k65 w B b.length b) (hcb : b.length ≤ cb) (hrc : Kd.C k65 w C c.length c) (hcc : c.length ≤ cc) (hlt : a.length ≤ 300) (hlu : b.length ≤ 300) (hlv : c.length ≤ 300) (h1 : know_Union.f 100000 a b = some (lx, none)) (h2 : know_Union.f 100000 b c = some (ly, none)) (h3 : know_Union.f 100000 lx c = some (lp, ep)) (h4 : know_Union.f 100000 a ly = some (lp, ep)) (h5 : tidingsref01_Same.f 100000 lp lp = some true) (h6 : know_Union.f 100000 lx b = some (lx, none)) (h7 : tidingsref01_Same.f 100000 lx lx = some true) (hcp : codeOf ep = np) (k1 : know_Add.f 100000 a r n = some (la, none)) (k2 : know_Has.f 100000 a r n = some true) : Calls Tryd.prog 6 #[.slice A a.length ca, .slice B b.length cb, .slice C c.length cc, .int .u8 r, .int .u32 n] w fun e w' => e = .returned (.bool true) ∧ Below w.heap.size w w' := by
  have ha := awake01_any 60 (Nat.le_refl _)
  have hga_a : decide ((a.length : Int) > 300) = false := decide_eq_false (by omega)
  have hgb_a : decide ((300 : Int) < (a.length : Int)) = false := decide_eq_false (by omega)
  have hgc_a : decide (300 < a.length) = false := decide_eq_false (by omega)
  have hga_b : decide ((b.length : Int) > 300) = false := decide_eq_false (by omega)
  have hgb_b : decide ((300 : Int) < (b.length : Int)) = false := decide_eq_false (by omega)
  have hgc_b : decide (300 < b.length) = false := decide_eq_false (by omega)
  have hga_c : decide ((c.length : Int) > 300) = false := decide_eq_false (by omega)
  have hgb_c : decide ((300 : Int) < (c.length : Int)) = false := decide_eq_false (by omega)
  have hgc_c : decide (300 < c.length) = false := decide_eq_false (by omega)
  clear hlt hlu hlv
  have HA := Aside0.mk ha
  have HG := Aside0.mk hg
  have HRA := Aside0.mk hra
  have HCA := Aside0.mk hca
  have HRB := Aside0.mk hrb
  have HCB := Aside0.mk hcb
  have HRC := Aside0.mk hrc
  have HCC := Aside0.mk hcc
  have H1 := Aside0.mk h1
  have H2 := Aside0.mk h2
  have H3 := Aside0.mk h3
  have H4 := Aside0.mk h4
  have H5 := Aside0.mk h5
  have H6 := Aside0.mk h6
  have H7 := Aside0.mk h7
  have HCP := Aside0.mk hcp
  have K1 := Aside0.mk k1
  have K2 := Aside0.mk k2
  clear ha hg hra hca hrb hcb hrc hcc h1 h2 h3 h4 h5 h6 h7 hcp k1 k2
  have eN := errW_none
  have HEP := Aside0.mk (fun (W : World) (h : GT W) => show Calls Tryd.prog 11 #[errW ep] W fun e w' => e = .returned (.int .i64 np) ∧ Below W.heap.size W w' by rw [← HCP.out]; exact Code_calls ep W h)
  clear HCP
  go_enter Tryd.func6, Tryd.ntmps6
  go_wp2_with fail
  refine (tidingslaw01_awake.calls 60 true _ HA.out).mono ?_
  rintro ev w1 ⟨rfl, hb1⟩
  have HB1 := Aside0.mk (hb1)
  clear hb1 
  go_wp2_with fail
  refine (know_Union.calls 100000 _ _ a _ _ b lx none _ (Kd.C_below HRA.out HB1.out) HCA.out (Kd.C_below HRB.out HB1.out) HCB.out H1.out).mono ?_
  rintro ev w2 ⟨vx, rfl, hRx, hb2⟩
  obtain ⟨Ax, cx, rfl, hDx, hCx⟩ := Kd.R_reads hRx
  have HDx := Aside0.mk hDx
  have HCx_2 := Aside0.mk hCx
  clear hDx hCx hRx
  have HB2 := Aside0.mk (below_step HB1.out hb2)
  clear hb2 HB1
  go_wp2_with fail
  refine (know_Union.calls 100000 _ _ b _ _ c ly none _ (Kd.C_below HRB.out HB2.out) HCB.out (Kd.C_below HRC.out HB2.out) HCC.out H2.out).mono ?_
  rintro ev w3 ⟨vy, rfl, hRy, hb3⟩
  obtain ⟨Ay, cy, rfl, hDy, hCy⟩ := Kd.R_reads hRy
  have HDy := Aside0.mk hDy
  have HCy_3 := Aside0.mk hCy
  clear hDy hCy hRy
  have HB3 := Aside0.mk (below_step HB2.out hb3)
  have HCx_3 := Aside0.mk (Kd.C_below HCx_2.out hb3)
  clear hb3 HB2 HCx_2
  go_wp2_with fail
  refine (know_Union.calls 100000 _ _ lx _ _ c lp ep _ HCx_3.out HDx.out (Kd.C_below HRC.out HB3.out) HCC.out H3.out).mono ?_
  rintro ev w4 ⟨vp, rfl, hRp, hb4⟩
  obtain ⟨Ap, cp, rfl, hDp, hCp⟩ := Kd.R_reads hRp
  have HDp := Aside0.mk hDp
  have HCp_4 := Aside0.mk hCp
  clear hDp hCp hRp
  have HB4 := Aside0.mk (below_step HB3.out hb4)
  have HCx_4 := Aside0.mk (Kd.C_below HCx_3.out hb4)
  have HCy_4 := Aside0.mk (Kd.C_below HCy_3.out hb4)
  clear hb4 HB3 HCx_3 HCy_3
  go_wp2_with fail
  refine (know_Union.calls 100000 _ _ a _ _ ly lp ep _ (Kd.C_below HRA.out HB4.out) HCA.out HCy_4.out HDy.out H4.out).mono ?_
  rintro ev w5 ⟨vq, rfl, hRq, hb5⟩
  obtain ⟨Aq, cq, rfl, hDq, hCq⟩ := Kd.R_reads hRq
  have HDq := Aside0.mk hDq
  have HCq_5 := Aside0.mk hCq
  clear hDq hCq hRq
  have HB5 := Aside0.mk (below_step HB4.out hb5)
  have HCx_5 := Aside0.mk (Kd.C_below HCx_4.out hb5)
  have HCy_5 := Aside0.mk (Kd.C_below HCy_4.out hb5)
  have HCp_5 := Aside0.mk (Kd.C_below HCp_4.out hb5)
  clear hb5 HB4 HCx_4 HCy_4 HCp_4
  go_wp2_with fail
  refine (HEP.out _ (HG.out.below HB5.out)).mono ?_
  rintro ev w6 ⟨rfl, hb6⟩
  have HB6 := Aside0.mk (below_step HB5.out hb6)
  have HCx_6 := Aside0.mk (Kd.C_below HCx_5.out hb6)
  have HCy_6 := Aside0.mk (Kd.C_below HCy_5.out hb6)
  have HCp_6 := Aside0.mk (Kd.C_below HCp_5.out hb6)
  have HCq_6 := Aside0.mk (Kd.C_below HCq_5.out hb6)
  clear hb6 HB5 HCx_5 HCy_5 HCp_5 HCq_5
  go_wp2_with fail
  refine (HEP.out _ (HG.out.below HB6.out)).mono ?_
  rintro ev w7 ⟨rfl, hb7⟩
  have HB7 := Aside0.mk (below_step HB6.out hb7)
  have HCx_7 := Aside0.mk (Kd.C_below HCx_6.out hb7)
  have HCy_7 := Aside0.mk (Kd.C_below HCy_6.out hb7)
  have HCp_7 := Aside0.mk (Kd.C_below HCp_6.out hb7)
  have HCq_7 := Aside0.mk (Kd.C_below HCq_6.out hb7)
  clear hb7 HB6 HCx_6 HCy_6 HCp_6 HCq_6
  go_wp2_with fail
  refine (tidingsref01_Same.calls 100000 _ _ lp _ _ lp true _ HCp_7.out HDp.out HCq_7.out HDq.out H5.out).mono ?_
  rintro ev w8 ⟨rfl, hd8⟩
  have hb8 := Drawn0.below hd8
  clear hd8
  have HB8 := Aside0.mk (below_step HB7.out hb8)
  have HCx_8 := Aside0.mk (Kd.C_below HCx_7.out hb8)
  have HCy_8 := Aside0.mk (Kd.C_below HCy_7.out hb8)
  have HCp_8 := Aside0.mk (Kd.C_below HCp_7.out hb8)
  have HCq_8 := Aside0.mk (Kd.C_below HCq_7.out hb8)
  clear hb8 HB7 HCx_7 HCy_7 HCp_7 HCq_7
  go_wp2_with fail
  refine (know_Union.calls 100000 _ _ lx _ _ b lx none _ HCx_8.out HDx.out (Kd.C_below HRB.out HB8.out) HCB.out H6.out).mono ?_
  rintro ev w9 ⟨vs, rfl, hRs, hb9⟩
  obtain ⟨As, cs, rfl, hDs, hCs⟩ := Kd.R_reads hRs
  have HDs := Aside0.mk hDs
  have HCs_9 := Aside0.mk hCs
  clear hDs hCs hRs
  have HB9 := Aside0.mk (below_step HB8.out hb9)
  have HCx_9 := Aside0.mk (Kd.C_below HCx_8.out hb9)
  have HCy_9 := Aside0.mk (Kd.C_below HCy_8.out hb9)
  have HCp_9 := Aside0.mk (Kd.C_below HCp_8.out hb9)
  have HCq_9 := Aside0.mk (Kd.C_below HCq_8.out hb9)
  clear hb9 HB8 HCx_8 HCy_8 HCp_8 HCq_8
  go_wp2_with fail
  refine (tidingsref01_Same.calls 100000 _ _ lx _ _ lx true _ HCs_9.out HDs.out HCx_9.out HDx.out H7.out).mono ?_
  rintro ev w10 ⟨rfl, hd10⟩
  have hb10 := Drawn0.below hd10
  clear hd10
  have HB10 := Aside0.mk (below_step HB9.out hb10)
  have HCx_10 := Aside0.mk (Kd.C_below HCx_9.out hb10)
  have HCy_10 := Aside0.mk (Kd.C_below HCy_9.out hb10)
  have HCp_10 := Aside0.mk (Kd.C_below HCp_9.out hb10)
  have HCq_10 := Aside0.mk (Kd.C_below HCq_9.out hb10)
  have HCs_10 := Aside0.mk (Kd.C_below HCs_9.out hb10)
  clear hb10 HB9 HCx_9 HCy_9 HCp_9 HCq_9 HCs_9
  go_wp2_with fail
  refine (know_Add.calls 100000 _ _ a _ _ la none _ (Kd.C_below HRA.out HB10.out) HCA.out K1.out).mono ?_
  rintro ev w11 ⟨vd, rfl, hRd, hb11⟩
  obtain ⟨Ad, cd, rfl, hDd, hCd⟩ := Kd.R_reads hRd
  have HDd := Aside0.mk hDd
  have HCd_11 := Aside0.mk hCd
  clear hDd hCd hRd
  have HB11 := Aside0.mk (below_step HB10.out hb11)
  have HCx_11 := Aside0.mk (Kd.C_below HCx_10.out hb11)
  have HCy_11 := Aside0.mk (Kd.C_below HCy_10.out hb11)
  have HCp_11 := Aside0.mk (Kd.C_below HCp_10.out hb11)
  have HCq_11 := Aside0.mk (Kd.C_below HCq_10.out hb11)
  have HCs_11 := Aside0.mk (Kd.C_below HCs_10.out hb11)
  clear hb11 HB10 HCx_10 HCy_10 HCp_10 HCq_10 HCs_10
  go_wp2_with fail
  refine (know_Has.calls 100000 _ _ a _ _ true _ (Kd.C_below HRA.out HB11.out) HCA.out K2.out).mono ?_
  rintro ev w12 ⟨rfl, hb12⟩
  have HB12 := Aside0.mk (below_step HB11.out hb12)
  have HCx_12 := Aside0.mk (Kd.C_below HCx_11.out hb12)
  have HCy_12 := Aside0.mk (Kd.C_below HCy_11.out hb12)
  have HCp_12 := Aside0.mk (Kd.C_below HCp_11.out hb12)
  have HCq_12 := Aside0.mk (Kd.C_below HCq_11.out hb12)
  have HCs_12 := Aside0.mk (Kd.C_below HCs_11.out hb12)
  have HCd_12 := Aside0.mk (Kd.C_below HCd_11.out hb12)
  clear hb12 HB11 HCx_11 HCy_11 HCp_11 HCq_11 HCs_11 HCd_11
  go_wp2_with fail
  go_ret
  exact ⟨rfl, HB12.out⟩
set_option maxRecDepth 100000 in
set_option maxHeartbeats 4000000 in
theorem KnowLaws_nn_drop (a b c : List S65) (A B C : Option Addr) (ca cb cc : Nat) (r n : Int) (w : World) (lx ly la : List S65) (lp : List S65) (ep : Option Int) (np : Int) (hg : GT w) (hra : Kd.C k65 w A a.length a) (hca : a.length ≤ ca) (hrb : Kd.C k65 w B b.length b) (hcb : b.length ≤ cb) (hrc : Kd.C k65 w C c.length c) (hcc : c.length ≤ cc) (hlt : a.length ≤ 300) (hlu : b.length ≤ 300) (hlv : c.length ≤ 300) (h1 : know_Union.f 100000 a b = some (lx, none)) (h2 : know_Union.f 100000 b c = some (ly, none)) (h3 : know_Union.f 100000 lx c = some (lp, ep)) (h4 : know_Union.f 100000 a ly = some (lp, ep)) (h5 : tidingsref01_Same.f 100000 lp lp = some true) (h6 : know_Union.f 100000 lx b = some (lx, none)) (h7 : tidingsref01_Same.f 100000 lx lx = some true) (hcp : codeOf ep = np) (k1 : know_Add.f 100000 a r n = some (la, none)) (k2 : know_Has.f 100000 a r n = some false) (k3 : know_Drop.f 100000 la r n = some (a, none)) (k4 : tidingsref01_Same.f 100000 a a = some true) : Calls Tryd.prog 6 #[.slice A a.length ca, .slice B b.length cb, .slice C c.length cc, .int .u8 r, .int .u32 n] w fun e w' => e = .returned (.bool true) ∧ Below w.heap.size w w' := by
  have ha := awake01_any 60 (Nat.le_refl _)
  have hga_a : decide ((a.length : Int) > 300) = false := decide_eq_false (by omega)
  have hgb_a : decide ((300 : Int) < (a.length : Int)) = false := decide_eq_false (by omega)
  have hgc_a : decide (300 < a.length) = false := decide_eq_false (by omega)
  have hga_b : decide ((b.length : Int) > 300) = false := decide_eq_false (by omega)
  have hgb_b : decide ((300 : Int) < (b.length : Int)) = false := decide_eq_false (by omega)
  have hgc_b : decide (300 < b.length) = false := decide_eq_false (by omega)
  have hga_c : decide ((c.length : Int) > 300) = false := decide_eq_false (by omega)
  have hgb_c : decide ((300 : Int) < (c.length : Int)) = false := decide_eq_false (by omega)
  have hgc_c : decide (300 < c.length) = false := decide_eq_false (by omega)
  clear hlt hlu hlv
  have HA := Aside0.mk ha
  have HG := Aside0.mk hg
  have HRA := Aside0.mk hra
  have HCA := Aside0.mk hca
  have HRB := Aside0.mk hrb
  have HCB := Aside0.mk hcb
  have HRC := Aside0.mk hrc
  have HCC := Aside0.mk hcc
  have H1 := Aside0.mk h1
  have H2 := Aside0.mk h2
  have H3 := Aside0.mk h3
  have H4 := Aside0.mk h4
  have H5 := Aside0.mk h5
  have H6 := Aside0.mk h6
  have H7 := Aside0.mk h7
  have HCP := Aside0.mk hcp
  have K1 := Aside0.mk k1
  have K2 := Aside0.mk k2
  have K3 := Aside0.mk k3
  have K4 := Aside0.mk k4
  clear ha hg hra hca hrb hcb hrc hcc h1 h2 h3 h4 h5 h6 h7 hcp k1 k2 k3 k4
  have eN := errW_none
  have HEP := Aside0.mk (fun (W : World) (h : GT W) => show Calls Tryd.prog 11 #[errW ep] W fun e w' => e = .returned (.int .i64 np) ∧ Below W.heap.size W w' by rw [← HCP.out]; exact Code_calls ep W h)
  clear HCP
  go_enter Tryd.func6, Tryd.ntmps6
  go_wp2_with fail
  refine (tidingslaw01_awake.calls 60 true _ HA.out).mono ?_
  rintro ev w1 ⟨rfl, hb1⟩
  have HB1 := Aside0.mk (hb1)
  clear hb1 
  go_wp2_with fail
  refine (know_Union.calls 100000 _ _ a _ _ b lx none _ (Kd.C_below HRA.out HB1.out) HCA.out (Kd.C_below HRB.out HB1.out) HCB.out H1.out).mono ?_
  rintro ev w2 ⟨vx, rfl, hRx, hb2⟩
  obtain ⟨Ax, cx, rfl, hDx, hCx⟩ := Kd.R_reads hRx
  have HDx := Aside0.mk hDx
  have HCx_2 := Aside0.mk hCx
  clear hDx hCx hRx
  have HB2 := Aside0.mk (below_step HB1.out hb2)
  clear hb2 HB1
  go_wp2_with fail
  refine (know_Union.calls 100000 _ _ b _ _ c ly none _ (Kd.C_below HRB.out HB2.out) HCB.out (Kd.C_below HRC.out HB2.out) HCC.out H2.out).mono ?_
  rintro ev w3 ⟨vy, rfl, hRy, hb3⟩
  obtain ⟨Ay, cy, rfl, hDy, hCy⟩ := Kd.R_reads hRy
  have HDy := Aside0.mk hDy
  have HCy_3 := Aside0.mk hCy
  clear hDy hCy hRy
  have HB3 := Aside0.mk (below_step HB2.out hb3)
  have HCx_3 := Aside0.mk (Kd.C_below HCx_2.out hb3)
  clear hb3 HB2 HCx_2
  go_wp2_with fail
  refine (know_Union.calls 100000 _ _ lx _ _ c lp ep _ HCx_3.out HDx.out (Kd.C_below HRC.out HB3.out) HCC.out H3.out).mono ?_
  rintro ev w4 ⟨vp, rfl, hRp, hb4⟩
  obtain ⟨Ap, cp, rfl, hDp, hCp⟩ := Kd.R_reads hRp
  have HDp := Aside0.mk hDp
  have HCp_4 := Aside0.mk hCp
  clear hDp hCp hRp
  have HB4 := Aside0.mk (below_step HB3.out hb4)
  have HCx_4 := Aside0.mk (Kd.C_below HCx_3.out hb4)
  have HCy_4 := Aside0.mk (Kd.C_below HCy_3.out hb4)
  clear hb4 HB3 HCx_3 HCy_3
  go_wp2_with fail
  refine (know_Union.calls 100000 _ _ a _ _ ly lp ep _ (Kd.C_below HRA.out HB4.out) HCA.out HCy_4.out HDy.out H4.out).mono ?_
  rintro ev w5 ⟨vq, rfl, hRq, hb5⟩
  obtain ⟨Aq, cq, rfl, hDq, hCq⟩ := Kd.R_reads hRq
  have HDq := Aside0.mk hDq
  have HCq_5 := Aside0.mk hCq
  clear hDq hCq hRq
  have HB5 := Aside0.mk (below_step HB4.out hb5)
  have HCx_5 := Aside0.mk (Kd.C_below HCx_4.out hb5)
  have HCy_5 := Aside0.mk (Kd.C_below HCy_4.out hb5)
  have HCp_5 := Aside0.mk (Kd.C_below HCp_4.out hb5)
  clear hb5 HB4 HCx_4 HCy_4 HCp_4
  go_wp2_with fail
  refine (HEP.out _ (HG.out.below HB5.out)).mono ?_
  rintro ev w6 ⟨rfl, hb6⟩
  have HB6 := Aside0.mk (below_step HB5.out hb6)
  have HCx_6 := Aside0.mk (Kd.C_below HCx_5.out hb6)
  have HCy_6 := Aside0.mk (Kd.C_below HCy_5.out hb6)
  have HCp_6 := Aside0.mk (Kd.C_below HCp_5.out hb6)
  have HCq_6 := Aside0.mk (Kd.C_below HCq_5.out hb6)
  clear hb6 HB5 HCx_5 HCy_5 HCp_5 HCq_5
  go_wp2_with fail
  refine (HEP.out _ (HG.out.below HB6.out)).mono ?_
  rintro ev w7 ⟨rfl, hb7⟩
  have HB7 := Aside0.mk (below_step HB6.out hb7)
  have HCx_7 := Aside0.mk (Kd.C_below HCx_6.out hb7)
  have HCy_7 := Aside0.mk (Kd.C_below HCy_6.out hb7)
  have HCp_7 := Aside0.mk (Kd.C_below HCp_6.out hb7)
  have HCq_7 := Aside0.mk (Kd.C_below HCq_6.out hb7)
  clear hb7 HB6 HCx_6 HCy_6 HCp_6 HCq_6
  go_wp2_with fail
  refine (tidingsref01_Same.calls 100000 _ _ lp _ _ lp true _ HCp_7.out HDp.out HCq_7.out HDq.out H5.out).mono ?_
  rintro ev w8 ⟨rfl, hd8⟩
  have hb8 := Drawn0.below hd8
  clear hd8
  have HB8 := Aside0.mk (below_step HB7.out hb8)
  have HCx_8 := Aside0.mk (Kd.C_below HCx_7.out hb8)
  have HCy_8 := Aside0.mk (Kd.C_below HCy_7.out hb8)
  have HCp_8 := Aside0.mk (Kd.C_below HCp_7.out hb8)
  have HCq_8 := Aside0.mk (Kd.C_below HCq_7.out hb8)
  clear hb8 HB7 HCx_7 HCy_7 HCp_7 HCq_7
  go_wp2_with fail
  refine (know_Union.calls 100000 _ _ lx _ _ b lx none _ HCx_8.out HDx.out (Kd.C_below HRB.out HB8.out) HCB.out H6.out).mono ?_
  rintro ev w9 ⟨vs, rfl, hRs, hb9⟩
  obtain ⟨As, cs, rfl, hDs, hCs⟩ := Kd.R_reads hRs
  have HDs := Aside0.mk hDs
  have HCs_9 := Aside0.mk hCs
  clear hDs hCs hRs
  have HB9 := Aside0.mk (below_step HB8.out hb9)
  have HCx_9 := Aside0.mk (Kd.C_below HCx_8.out hb9)
  have HCy_9 := Aside0.mk (Kd.C_below HCy_8.out hb9)
  have HCp_9 := Aside0.mk (Kd.C_below HCp_8.out hb9)
  have HCq_9 := Aside0.mk (Kd.C_below HCq_8.out hb9)
  clear hb9 HB8 HCx_8 HCy_8 HCp_8 HCq_8
  go_wp2_with fail
  refine (tidingsref01_Same.calls 100000 _ _ lx _ _ lx true _ HCs_9.out HDs.out HCx_9.out HDx.out H7.out).mono ?_
  rintro ev w10 ⟨rfl, hd10⟩
  have hb10 := Drawn0.below hd10
  clear hd10
  have HB10 := Aside0.mk (below_step HB9.out hb10)
  have HCx_10 := Aside0.mk (Kd.C_below HCx_9.out hb10)
  have HCy_10 := Aside0.mk (Kd.C_below HCy_9.out hb10)
  have HCp_10 := Aside0.mk (Kd.C_below HCp_9.out hb10)
  have HCq_10 := Aside0.mk (Kd.C_below HCq_9.out hb10)
  have HCs_10 := Aside0.mk (Kd.C_below HCs_9.out hb10)
  clear hb10 HB9 HCx_9 HCy_9 HCp_9 HCq_9 HCs_9
  go_wp2_with fail
  refine (know_Add.calls 100000 _ _ a _ _ la none _ (Kd.C_below HRA.out HB10.out) HCA.out K1.out).mono ?_
  rintro ev w11 ⟨vd, rfl, hRd, hb11⟩
  obtain ⟨Ad, cd, rfl, hDd, hCd⟩ := Kd.R_reads hRd
  have HDd := Aside0.mk hDd
  have HCd_11 := Aside0.mk hCd
  clear hDd hCd hRd
  have HB11 := Aside0.mk (below_step HB10.out hb11)
  have HCx_11 := Aside0.mk (Kd.C_below HCx_10.out hb11)
  have HCy_11 := Aside0.mk (Kd.C_below HCy_10.out hb11)
  have HCp_11 := Aside0.mk (Kd.C_below HCp_10.out hb11)
  have HCq_11 := Aside0.mk (Kd.C_below HCq_10.out hb11)
  have HCs_11 := Aside0.mk (Kd.C_below HCs_10.out hb11)
  clear hb11 HB10 HCx_10 HCy_10 HCp_10 HCq_10 HCs_10
  go_wp2_with fail
  refine (know_Has.calls 100000 _ _ a _ _ false _ (Kd.C_below HRA.out HB11.out) HCA.out K2.out).mono ?_
  rintro ev w12 ⟨rfl, hb12⟩
  have HB12 := Aside0.mk (below_step HB11.out hb12)
  have HCx_12 := Aside0.mk (Kd.C_below HCx_11.out hb12)
  have HCy_12 := Aside0.mk (Kd.C_below HCy_11.out hb12)
  have HCp_12 := Aside0.mk (Kd.C_below HCp_11.out hb12)
  have HCq_12 := Aside0.mk (Kd.C_below HCq_11.out hb12)
  have HCs_12 := Aside0.mk (Kd.C_below HCs_11.out hb12)
  have HCd_12 := Aside0.mk (Kd.C_below HCd_11.out hb12)
  clear hb12 HB11 HCx_11 HCy_11 HCp_11 HCq_11 HCs_11 HCd_11
  go_wp2_with fail
  refine (know_Drop.calls 100000 _ _ la _ _ a none _ HCd_12.out HDd.out K3.out).mono ?_
  rintro ev w13 ⟨vk, rfl, hRk, hb13⟩
  obtain ⟨Ak, ck, rfl, hDk, hCk⟩ := Kd.R_reads hRk
  have HDk := Aside0.mk hDk
  have HCk_13 := Aside0.mk hCk
  clear hDk hCk hRk
  have HB13 := Aside0.mk (below_step HB12.out hb13)
  have HCx_13 := Aside0.mk (Kd.C_below HCx_12.out hb13)
  have HCy_13 := Aside0.mk (Kd.C_below HCy_12.out hb13)
  have HCp_13 := Aside0.mk (Kd.C_below HCp_12.out hb13)
  have HCq_13 := Aside0.mk (Kd.C_below HCq_12.out hb13)
  have HCs_13 := Aside0.mk (Kd.C_below HCs_12.out hb13)
  have HCd_13 := Aside0.mk (Kd.C_below HCd_12.out hb13)
  clear hb13 HB12 HCx_12 HCy_12 HCp_12 HCq_12 HCs_12 HCd_12
  go_wp2_with fail
  refine (tidingsref01_Same.calls 100000 _ _ a _ _ a true _ HCk_13.out HDk.out (Kd.C_below HRA.out HB13.out) HCA.out K4.out).mono ?_
  rintro ev w14 ⟨rfl, hd14⟩
  have hb14 := Drawn0.below hd14
  clear hd14
  have HB14 := Aside0.mk (below_step HB13.out hb14)
  have HCx_14 := Aside0.mk (Kd.C_below HCx_13.out hb14)
  have HCy_14 := Aside0.mk (Kd.C_below HCy_13.out hb14)
  have HCp_14 := Aside0.mk (Kd.C_below HCp_13.out hb14)
  have HCq_14 := Aside0.mk (Kd.C_below HCq_13.out hb14)
  have HCs_14 := Aside0.mk (Kd.C_below HCs_13.out hb14)
  have HCd_14 := Aside0.mk (Kd.C_below HCd_13.out hb14)
  have HCk_14 := Aside0.mk (Kd.C_below HCk_13.out hb14)
  clear hb14 HB13 HCx_13 HCy_13 HCp_13 HCq_13 HCs_13 HCd_13 HCk_13
  go_wp2_with fail
  go_ret
  exact ⟨rfl, HB14.out⟩
set_option maxRecDepth 100000 in
set_option maxHeartbeats 4000000 in
theorem KnowLaws_ns_some (a b c : List S65) (A B C : Option Addr) (ca cb cc : Nat) (r n : Int) (w : World) (lx ly la : List S65) (cf : Int) (cg : Int) (hg : GT w) (hra : Kd.C k65 w A a.length a) (hca : a.length ≤ ca) (hrb : Kd.C k65 w B b.length b) (hcb : b.length ≤ cb) (hrc : Kd.C k65 w C c.length c) (hcc : c.length ≤ cc) (hlt : a.length ≤ 300) (hlu : b.length ≤ 300) (hlv : c.length ≤ 300) (h1 : know_Union.f 100000 a b = some (lx, none)) (h2 : know_Union.f 100000 b c = some (ly, (some cf))) (k1 : know_Add.f 100000 a r n = some (la, (some cg))) : Calls Tryd.prog 6 #[.slice A a.length ca, .slice B b.length cb, .slice C c.length cc, .int .u8 r, .int .u32 n] w fun e w' => e = .returned (.bool true) ∧ Below w.heap.size w w' := by
  have ha := awake01_any 60 (Nat.le_refl _)
  have hga_a : decide ((a.length : Int) > 300) = false := decide_eq_false (by omega)
  have hgb_a : decide ((300 : Int) < (a.length : Int)) = false := decide_eq_false (by omega)
  have hgc_a : decide (300 < a.length) = false := decide_eq_false (by omega)
  have hga_b : decide ((b.length : Int) > 300) = false := decide_eq_false (by omega)
  have hgb_b : decide ((300 : Int) < (b.length : Int)) = false := decide_eq_false (by omega)
  have hgc_b : decide (300 < b.length) = false := decide_eq_false (by omega)
  have hga_c : decide ((c.length : Int) > 300) = false := decide_eq_false (by omega)
  have hgb_c : decide ((300 : Int) < (c.length : Int)) = false := decide_eq_false (by omega)
  have hgc_c : decide (300 < c.length) = false := decide_eq_false (by omega)
  clear hlt hlu hlv
  have HA := Aside0.mk ha
  have HG := Aside0.mk hg
  have HRA := Aside0.mk hra
  have HCA := Aside0.mk hca
  have HRB := Aside0.mk hrb
  have HCB := Aside0.mk hcb
  have HRC := Aside0.mk hrc
  have HCC := Aside0.mk hcc
  have H1 := Aside0.mk h1
  have H2 := Aside0.mk h2
  have K1 := Aside0.mk k1
  clear ha hg hra hca hrb hcb hrc hcc h1 h2 k1
  have eN := errW_none
  have eS0 := errW_some cf
  have eS1 := errW_some cg
  go_enter Tryd.func6, Tryd.ntmps6
  go_wp2_with fail
  refine (tidingslaw01_awake.calls 60 true _ HA.out).mono ?_
  rintro ev w1 ⟨rfl, hb1⟩
  have HB1 := Aside0.mk (hb1)
  clear hb1 
  go_wp2_with fail
  refine (know_Union.calls 100000 _ _ a _ _ b lx none _ (Kd.C_below HRA.out HB1.out) HCA.out (Kd.C_below HRB.out HB1.out) HCB.out H1.out).mono ?_
  rintro ev w2 ⟨vx, rfl, hRx, hb2⟩
  obtain ⟨Ax, cx, rfl, hDx, hCx⟩ := Kd.R_reads hRx
  have HDx := Aside0.mk hDx
  have HCx_2 := Aside0.mk hCx
  clear hDx hCx hRx
  have HB2 := Aside0.mk (below_step HB1.out hb2)
  clear hb2 HB1
  go_wp2_with fail
  refine (know_Union.calls 100000 _ _ b _ _ c ly (some cf) _ (Kd.C_below HRB.out HB2.out) HCB.out (Kd.C_below HRC.out HB2.out) HCC.out H2.out).mono ?_
  rintro ev w3 ⟨vy, rfl, hRy, hb3⟩
  obtain ⟨Ay, cy, rfl, hDy, hCy⟩ := Kd.R_reads hRy
  have HDy := Aside0.mk hDy
  have HCy_3 := Aside0.mk hCy
  clear hDy hCy hRy
  have HB3 := Aside0.mk (below_step HB2.out hb3)
  have HCx_3 := Aside0.mk (Kd.C_below HCx_2.out hb3)
  clear hb3 HB2 HCx_2
  go_wp2_with fail
  refine (know_Add.calls 100000 _ _ a _ _ la (some cg) _ (Kd.C_below HRA.out HB3.out) HCA.out K1.out).mono ?_
  rintro ev w4 ⟨vd, rfl, hRd, hb4⟩
  obtain ⟨Ad, cd, rfl, hDd, hCd⟩ := Kd.R_reads hRd
  have HDd := Aside0.mk hDd
  have HCd_4 := Aside0.mk hCd
  clear hDd hCd hRd
  have HB4 := Aside0.mk (below_step HB3.out hb4)
  have HCx_4 := Aside0.mk (Kd.C_below HCx_3.out hb4)
  have HCy_4 := Aside0.mk (Kd.C_below HCy_3.out hb4)
  clear hb4 HB3 HCx_3 HCy_3
  go_wp2_with fail
  go_ret
  exact ⟨rfl, HB4.out⟩
set_option maxRecDepth 100000 in
set_option maxHeartbeats 4000000 in
theorem KnowLaws_ns_has (a b c : List S65) (A B C : Option Addr) (ca cb cc : Nat) (r n : Int) (w : World) (lx ly la : List S65) (cf : Int) (hg : GT w) (hra : Kd.C k65 w A a.length a) (hca : a.length ≤ ca) (hrb : Kd.C k65 w B b.length b) (hcb : b.length ≤ cb) (hrc : Kd.C k65 w C c.length c) (hcc : c.length ≤ cc) (hlt : a.length ≤ 300) (hlu : b.length ≤ 300) (hlv : c.length ≤ 300) (h1 : know_Union.f 100000 a b = some (lx, none)) (h2 : know_Union.f 100000 b c = some (ly, (some cf))) (k1 : know_Add.f 100000 a r n = some (la, none)) (k2 : know_Has.f 100000 a r n = some true) : Calls Tryd.prog 6 #[.slice A a.length ca, .slice B b.length cb, .slice C c.length cc, .int .u8 r, .int .u32 n] w fun e w' => e = .returned (.bool true) ∧ Below w.heap.size w w' := by
  have ha := awake01_any 60 (Nat.le_refl _)
  have hga_a : decide ((a.length : Int) > 300) = false := decide_eq_false (by omega)
  have hgb_a : decide ((300 : Int) < (a.length : Int)) = false := decide_eq_false (by omega)
  have hgc_a : decide (300 < a.length) = false := decide_eq_false (by omega)
  have hga_b : decide ((b.length : Int) > 300) = false := decide_eq_false (by omega)
  have hgb_b : decide ((300 : Int) < (b.length : Int)) = false := decide_eq_false (by omega)
  have hgc_b : decide (300 < b.length) = false := decide_eq_false (by omega)
  have hga_c : decide ((c.length : Int) > 300) = false := decide_eq_false (by omega)
  have hgb_c : decide ((300 : Int) < (c.length : Int)) = false := decide_eq_false (by omega)
  have hgc_c : decide (300 < c.length) = false := decide_eq_false (by omega)
  clear hlt hlu hlv
  have HA := Aside0.mk ha
  have HG := Aside0.mk hg
  have HRA := Aside0.mk hra
  have HCA := Aside0.mk hca
  have HRB := Aside0.mk hrb
  have HCB := Aside0.mk hcb
  have HRC := Aside0.mk hrc
  have HCC := Aside0.mk hcc
  have H1 := Aside0.mk h1
  have H2 := Aside0.mk h2
  have K1 := Aside0.mk k1
  have K2 := Aside0.mk k2
  clear ha hg hra hca hrb hcb hrc hcc h1 h2 k1 k2
  have eN := errW_none
  have eS0 := errW_some cf
  go_enter Tryd.func6, Tryd.ntmps6
  go_wp2_with fail
  refine (tidingslaw01_awake.calls 60 true _ HA.out).mono ?_
  rintro ev w1 ⟨rfl, hb1⟩
  have HB1 := Aside0.mk (hb1)
  clear hb1 
  go_wp2_with fail
  refine (know_Union.calls 100000 _ _ a _ _ b lx none _ (Kd.C_below HRA.out HB1.out) HCA.out (Kd.C_below HRB.out HB1.out) HCB.out H1.out).mono ?_
  rintro ev w2 ⟨vx, rfl, hRx, hb2⟩
  obtain ⟨Ax, cx, rfl, hDx, hCx⟩ := Kd.R_reads hRx
  have HDx := Aside0.mk hDx
  have HCx_2 := Aside0.mk hCx
  clear hDx hCx hRx
  have HB2 := Aside0.mk (below_step HB1.out hb2)
  clear hb2 HB1
  go_wp2_with fail
  refine (know_Union.calls 100000 _ _ b _ _ c ly (some cf) _ (Kd.C_below HRB.out HB2.out) HCB.out (Kd.C_below HRC.out HB2.out) HCC.out H2.out).mono ?_
  rintro ev w3 ⟨vy, rfl, hRy, hb3⟩
  obtain ⟨Ay, cy, rfl, hDy, hCy⟩ := Kd.R_reads hRy
  have HDy := Aside0.mk hDy
  have HCy_3 := Aside0.mk hCy
  clear hDy hCy hRy
  have HB3 := Aside0.mk (below_step HB2.out hb3)
  have HCx_3 := Aside0.mk (Kd.C_below HCx_2.out hb3)
  clear hb3 HB2 HCx_2
  go_wp2_with fail
  refine (know_Add.calls 100000 _ _ a _ _ la none _ (Kd.C_below HRA.out HB3.out) HCA.out K1.out).mono ?_
  rintro ev w4 ⟨vd, rfl, hRd, hb4⟩
  obtain ⟨Ad, cd, rfl, hDd, hCd⟩ := Kd.R_reads hRd
  have HDd := Aside0.mk hDd
  have HCd_4 := Aside0.mk hCd
  clear hDd hCd hRd
  have HB4 := Aside0.mk (below_step HB3.out hb4)
  have HCx_4 := Aside0.mk (Kd.C_below HCx_3.out hb4)
  have HCy_4 := Aside0.mk (Kd.C_below HCy_3.out hb4)
  clear hb4 HB3 HCx_3 HCy_3
  go_wp2_with fail
  refine (know_Has.calls 100000 _ _ a _ _ true _ (Kd.C_below HRA.out HB4.out) HCA.out K2.out).mono ?_
  rintro ev w5 ⟨rfl, hb5⟩
  have HB5 := Aside0.mk (below_step HB4.out hb5)
  have HCx_5 := Aside0.mk (Kd.C_below HCx_4.out hb5)
  have HCy_5 := Aside0.mk (Kd.C_below HCy_4.out hb5)
  have HCd_5 := Aside0.mk (Kd.C_below HCd_4.out hb5)
  clear hb5 HB4 HCx_4 HCy_4 HCd_4
  go_wp2_with fail
  go_ret
  exact ⟨rfl, HB5.out⟩
set_option maxRecDepth 100000 in
set_option maxHeartbeats 4000000 in
theorem KnowLaws_ns_drop (a b c : List S65) (A B C : Option Addr) (ca cb cc : Nat) (r n : Int) (w : World) (lx ly la : List S65) (cf : Int) (hg : GT w) (hra : Kd.C k65 w A a.length a) (hca : a.length ≤ ca) (hrb : Kd.C k65 w B b.length b) (hcb : b.length ≤ cb) (hrc : Kd.C k65 w C c.length c) (hcc : c.length ≤ cc) (hlt : a.length ≤ 300) (hlu : b.length ≤ 300) (hlv : c.length ≤ 300) (h1 : know_Union.f 100000 a b = some (lx, none)) (h2 : know_Union.f 100000 b c = some (ly, (some cf))) (k1 : know_Add.f 100000 a r n = some (la, none)) (k2 : know_Has.f 100000 a r n = some false) (k3 : know_Drop.f 100000 la r n = some (a, none)) (k4 : tidingsref01_Same.f 100000 a a = some true) : Calls Tryd.prog 6 #[.slice A a.length ca, .slice B b.length cb, .slice C c.length cc, .int .u8 r, .int .u32 n] w fun e w' => e = .returned (.bool true) ∧ Below w.heap.size w w' := by
  have ha := awake01_any 60 (Nat.le_refl _)
  have hga_a : decide ((a.length : Int) > 300) = false := decide_eq_false (by omega)
  have hgb_a : decide ((300 : Int) < (a.length : Int)) = false := decide_eq_false (by omega)
  have hgc_a : decide (300 < a.length) = false := decide_eq_false (by omega)
  have hga_b : decide ((b.length : Int) > 300) = false := decide_eq_false (by omega)
  have hgb_b : decide ((300 : Int) < (b.length : Int)) = false := decide_eq_false (by omega)
  have hgc_b : decide (300 < b.length) = false := decide_eq_false (by omega)
  have hga_c : decide ((c.length : Int) > 300) = false := decide_eq_false (by omega)
  have hgb_c : decide ((300 : Int) < (c.length : Int)) = false := decide_eq_false (by omega)
  have hgc_c : decide (300 < c.length) = false := decide_eq_false (by omega)
  clear hlt hlu hlv
  have HA := Aside0.mk ha
  have HG := Aside0.mk hg
  have HRA := Aside0.mk hra
  have HCA := Aside0.mk hca
  have HRB := Aside0.mk hrb
  have HCB := Aside0.mk hcb
  have HRC := Aside0.mk hrc
  have HCC := Aside0.mk hcc
  have H1 := Aside0.mk h1
  have H2 := Aside0.mk h2
  have K1 := Aside0.mk k1
  have K2 := Aside0.mk k2
  have K3 := Aside0.mk k3
  have K4 := Aside0.mk k4
  clear ha hg hra hca hrb hcb hrc hcc h1 h2 k1 k2 k3 k4
  have eN := errW_none
  have eS0 := errW_some cf
  go_enter Tryd.func6, Tryd.ntmps6
  go_wp2_with fail
  refine (tidingslaw01_awake.calls 60 true _ HA.out).mono ?_
  rintro ev w1 ⟨rfl, hb1⟩
  have HB1 := Aside0.mk (hb1)
  clear hb1 
  go_wp2_with fail
  refine (know_Union.calls 100000 _ _ a _ _ b lx none _ (Kd.C_below HRA.out HB1.out) HCA.out (Kd.C_below HRB.out HB1.out) HCB.out H1.out).mono ?_
  rintro ev w2 ⟨vx, rfl, hRx, hb2⟩
  obtain ⟨Ax, cx, rfl, hDx, hCx⟩ := Kd.R_reads hRx
  have HDx := Aside0.mk hDx
  have HCx_2 := Aside0.mk hCx
  clear hDx hCx hRx
  have HB2 := Aside0.mk (below_step HB1.out hb2)
  clear hb2 HB1
  go_wp2_with fail
  refine (know_Union.calls 100000 _ _ b _ _ c ly (some cf) _ (Kd.C_below HRB.out HB2.out) HCB.out (Kd.C_below HRC.out HB2.out) HCC.out H2.out).mono ?_
  rintro ev w3 ⟨vy, rfl, hRy, hb3⟩
  obtain ⟨Ay, cy, rfl, hDy, hCy⟩ := Kd.R_reads hRy
  have HDy := Aside0.mk hDy
  have HCy_3 := Aside0.mk hCy
  clear hDy hCy hRy
  have HB3 := Aside0.mk (below_step HB2.out hb3)
  have HCx_3 := Aside0.mk (Kd.C_below HCx_2.out hb3)
  clear hb3 HB2 HCx_2
  go_wp2_with fail
  refine (know_Add.calls 100000 _ _ a _ _ la none _ (Kd.C_below HRA.out HB3.out) HCA.out K1.out).mono ?_
  rintro ev w4 ⟨vd, rfl, hRd, hb4⟩
  obtain ⟨Ad, cd, rfl, hDd, hCd⟩ := Kd.R_reads hRd
  have HDd := Aside0.mk hDd
  have HCd_4 := Aside0.mk hCd
  clear hDd hCd hRd
  have HB4 := Aside0.mk (below_step HB3.out hb4)
  have HCx_4 := Aside0.mk (Kd.C_below HCx_3.out hb4)
  have HCy_4 := Aside0.mk (Kd.C_below HCy_3.out hb4)
  clear hb4 HB3 HCx_3 HCy_3
  go_wp2_with fail
  refine (know_Has.calls 100000 _ _ a _ _ false _ (Kd.C_below HRA.out HB4.out) HCA.out K2.out).mono ?_
  rintro ev w5 ⟨rfl, hb5⟩
  have HB5 := Aside0.mk (below_step HB4.out hb5)
  have HCx_5 := Aside0.mk (Kd.C_below HCx_4.out hb5)
  have HCy_5 := Aside0.mk (Kd.C_below HCy_4.out hb5)
  have HCd_5 := Aside0.mk (Kd.C_below HCd_4.out hb5)
  clear hb5 HB4 HCx_4 HCy_4 HCd_4
  go_wp2_with fail
  refine (know_Drop.calls 100000 _ _ la _ _ a none _ HCd_5.out HDd.out K3.out).mono ?_
  rintro ev w6 ⟨vk, rfl, hRk, hb6⟩
  obtain ⟨Ak, ck, rfl, hDk, hCk⟩ := Kd.R_reads hRk
  have HDk := Aside0.mk hDk
  have HCk_6 := Aside0.mk hCk
  clear hDk hCk hRk
  have HB6 := Aside0.mk (below_step HB5.out hb6)
  have HCx_6 := Aside0.mk (Kd.C_below HCx_5.out hb6)
  have HCy_6 := Aside0.mk (Kd.C_below HCy_5.out hb6)
  have HCd_6 := Aside0.mk (Kd.C_below HCd_5.out hb6)
  clear hb6 HB5 HCx_5 HCy_5 HCd_5
  go_wp2_with fail
  refine (tidingsref01_Same.calls 100000 _ _ a _ _ a true _ HCk_6.out HDk.out (Kd.C_below HRA.out HB6.out) HCA.out K4.out).mono ?_
  rintro ev w7 ⟨rfl, hd7⟩
  have hb7 := Drawn0.below hd7
  clear hd7
  have HB7 := Aside0.mk (below_step HB6.out hb7)
  have HCx_7 := Aside0.mk (Kd.C_below HCx_6.out hb7)
  have HCy_7 := Aside0.mk (Kd.C_below HCy_6.out hb7)
  have HCd_7 := Aside0.mk (Kd.C_below HCd_6.out hb7)
  have HCk_7 := Aside0.mk (Kd.C_below HCk_6.out hb7)
  clear hb7 HB6 HCx_6 HCy_6 HCd_6 HCk_6
  go_wp2_with fail
  go_ret
  exact ⟨rfl, HB7.out⟩
set_option maxRecDepth 100000 in
set_option maxHeartbeats 4000000 in
theorem KnowLaws_s_some (a b c : List S65) (A B C : Option Addr) (ca cb cc : Nat) (r n : Int) (w : World) (lx ly la : List S65) (ce : Int) (ef : Option Int) (cg : Int) (hg : GT w) (hra : Kd.C k65 w A a.length a) (hca : a.length ≤ ca) (hrb : Kd.C k65 w B b.length b) (hcb : b.length ≤ cb) (hrc : Kd.C k65 w C c.length c) (hcc : c.length ≤ cc) (hlt : a.length ≤ 300) (hlu : b.length ≤ 300) (hlv : c.length ≤ 300) (h1 : know_Union.f 100000 a b = some (lx, (some ce))) (h2 : know_Union.f 100000 b c = some (ly, ef)) (k1 : know_Add.f 100000 a r n = some (la, (some cg))) : Calls Tryd.prog 6 #[.slice A a.length ca, .slice B b.length cb, .slice C c.length cc, .int .u8 r, .int .u32 n] w fun e w' => e = .returned (.bool true) ∧ Below w.heap.size w w' := by
  have ha := awake01_any 60 (Nat.le_refl _)
  have hga_a : decide ((a.length : Int) > 300) = false := decide_eq_false (by omega)
  have hgb_a : decide ((300 : Int) < (a.length : Int)) = false := decide_eq_false (by omega)
  have hgc_a : decide (300 < a.length) = false := decide_eq_false (by omega)
  have hga_b : decide ((b.length : Int) > 300) = false := decide_eq_false (by omega)
  have hgb_b : decide ((300 : Int) < (b.length : Int)) = false := decide_eq_false (by omega)
  have hgc_b : decide (300 < b.length) = false := decide_eq_false (by omega)
  have hga_c : decide ((c.length : Int) > 300) = false := decide_eq_false (by omega)
  have hgb_c : decide ((300 : Int) < (c.length : Int)) = false := decide_eq_false (by omega)
  have hgc_c : decide (300 < c.length) = false := decide_eq_false (by omega)
  clear hlt hlu hlv
  have HA := Aside0.mk ha
  have HG := Aside0.mk hg
  have HRA := Aside0.mk hra
  have HCA := Aside0.mk hca
  have HRB := Aside0.mk hrb
  have HCB := Aside0.mk hcb
  have HRC := Aside0.mk hrc
  have HCC := Aside0.mk hcc
  have H1 := Aside0.mk h1
  have H2 := Aside0.mk h2
  have K1 := Aside0.mk k1
  clear ha hg hra hca hrb hcb hrc hcc h1 h2 k1
  have eN := errW_none
  have eS0 := errW_some ce
  have eS1 := errW_some cg
  go_enter Tryd.func6, Tryd.ntmps6
  go_wp2_with fail
  refine (tidingslaw01_awake.calls 60 true _ HA.out).mono ?_
  rintro ev w1 ⟨rfl, hb1⟩
  have HB1 := Aside0.mk (hb1)
  clear hb1 
  go_wp2_with fail
  refine (know_Union.calls 100000 _ _ a _ _ b lx (some ce) _ (Kd.C_below HRA.out HB1.out) HCA.out (Kd.C_below HRB.out HB1.out) HCB.out H1.out).mono ?_
  rintro ev w2 ⟨vx, rfl, hRx, hb2⟩
  obtain ⟨Ax, cx, rfl, hDx, hCx⟩ := Kd.R_reads hRx
  have HDx := Aside0.mk hDx
  have HCx_2 := Aside0.mk hCx
  clear hDx hCx hRx
  have HB2 := Aside0.mk (below_step HB1.out hb2)
  clear hb2 HB1
  go_wp2_with fail
  refine (know_Union.calls 100000 _ _ b _ _ c ly ef _ (Kd.C_below HRB.out HB2.out) HCB.out (Kd.C_below HRC.out HB2.out) HCC.out H2.out).mono ?_
  rintro ev w3 ⟨vy, rfl, hRy, hb3⟩
  obtain ⟨Ay, cy, rfl, hDy, hCy⟩ := Kd.R_reads hRy
  have HDy := Aside0.mk hDy
  have HCy_3 := Aside0.mk hCy
  clear hDy hCy hRy
  have HB3 := Aside0.mk (below_step HB2.out hb3)
  have HCx_3 := Aside0.mk (Kd.C_below HCx_2.out hb3)
  clear hb3 HB2 HCx_2
  go_wp2_with fail
  refine (know_Add.calls 100000 _ _ a _ _ la (some cg) _ (Kd.C_below HRA.out HB3.out) HCA.out K1.out).mono ?_
  rintro ev w4 ⟨vd, rfl, hRd, hb4⟩
  obtain ⟨Ad, cd, rfl, hDd, hCd⟩ := Kd.R_reads hRd
  have HDd := Aside0.mk hDd
  have HCd_4 := Aside0.mk hCd
  clear hDd hCd hRd
  have HB4 := Aside0.mk (below_step HB3.out hb4)
  have HCx_4 := Aside0.mk (Kd.C_below HCx_3.out hb4)
  have HCy_4 := Aside0.mk (Kd.C_below HCy_3.out hb4)
  clear hb4 HB3 HCx_3 HCy_3
  go_wp2_with fail
  go_ret
  exact ⟨rfl, HB4.out⟩
set_option maxRecDepth 100000 in
set_option maxHeartbeats 4000000 in
theorem KnowLaws_s_has (a b c : List S65) (A B C : Option Addr) (ca cb cc : Nat) (r n : Int) (w : World) (lx ly la : List S65) (ce : Int) (ef : Option Int) (hg : GT w) (hra : Kd.C k65 w A a.length a) (hca : a.length ≤ ca) (hrb : Kd.C k65 w B b.length b) (hcb : b.length ≤ cb) (hrc : Kd.C k65 w C c.length c) (hcc : c.length ≤ cc) (hlt : a.length ≤ 300) (hlu : b.length ≤ 300) (hlv : c.length ≤ 300) (h1 : know_Union.f 100000 a b = some (lx, (some ce))) (h2 : know_Union.f 100000 b c = some (ly, ef)) (k1 : know_Add.f 100000 a r n = some (la, none)) (k2 : know_Has.f 100000 a r n = some true) : Calls Tryd.prog 6 #[.slice A a.length ca, .slice B b.length cb, .slice C c.length cc, .int .u8 r, .int .u32 n] w fun e w' => e = .returned (.bool true) ∧ Below w.heap.size w w' := by
  have ha := awake01_any 60 (Nat.le_refl _)
  have hga_a : decide ((a.length : Int) > 300) = false := decide_eq_false (by omega)
  have hgb_a : decide ((300 : Int) < (a.length : Int)) = false := decide_eq_false (by omega)
  have hgc_a : decide (300 < a.length) = false := decide_eq_false (by omega)
  have hga_b : decide ((b.length : Int) > 300) = false := decide_eq_false (by omega)
  have hgb_b : decide ((300 : Int) < (b.length : Int)) = false := decide_eq_false (by omega)
  have hgc_b : decide (300 < b.length) = false := decide_eq_false (by omega)
  have hga_c : decide ((c.length : Int) > 300) = false := decide_eq_false (by omega)
  have hgb_c : decide ((300 : Int) < (c.length : Int)) = false := decide_eq_false (by omega)
  have hgc_c : decide (300 < c.length) = false := decide_eq_false (by omega)
  clear hlt hlu hlv
  have HA := Aside0.mk ha
  have HG := Aside0.mk hg
  have HRA := Aside0.mk hra
  have HCA := Aside0.mk hca
  have HRB := Aside0.mk hrb
  have HCB := Aside0.mk hcb
  have HRC := Aside0.mk hrc
  have HCC := Aside0.mk hcc
  have H1 := Aside0.mk h1
  have H2 := Aside0.mk h2
  have K1 := Aside0.mk k1
  have K2 := Aside0.mk k2
  clear ha hg hra hca hrb hcb hrc hcc h1 h2 k1 k2
  have eN := errW_none
  have eS0 := errW_some ce
  go_enter Tryd.func6, Tryd.ntmps6
  go_wp2_with fail
  refine (tidingslaw01_awake.calls 60 true _ HA.out).mono ?_
  rintro ev w1 ⟨rfl, hb1⟩
  have HB1 := Aside0.mk (hb1)
  clear hb1 
  go_wp2_with fail
  refine (know_Union.calls 100000 _ _ a _ _ b lx (some ce) _ (Kd.C_below HRA.out HB1.out) HCA.out (Kd.C_below HRB.out HB1.out) HCB.out H1.out).mono ?_
  rintro ev w2 ⟨vx, rfl, hRx, hb2⟩
  obtain ⟨Ax, cx, rfl, hDx, hCx⟩ := Kd.R_reads hRx
  have HDx := Aside0.mk hDx
  have HCx_2 := Aside0.mk hCx
  clear hDx hCx hRx
  have HB2 := Aside0.mk (below_step HB1.out hb2)
  clear hb2 HB1
  go_wp2_with fail
  refine (know_Union.calls 100000 _ _ b _ _ c ly ef _ (Kd.C_below HRB.out HB2.out) HCB.out (Kd.C_below HRC.out HB2.out) HCC.out H2.out).mono ?_
  rintro ev w3 ⟨vy, rfl, hRy, hb3⟩
  obtain ⟨Ay, cy, rfl, hDy, hCy⟩ := Kd.R_reads hRy
  have HDy := Aside0.mk hDy
  have HCy_3 := Aside0.mk hCy
  clear hDy hCy hRy
  have HB3 := Aside0.mk (below_step HB2.out hb3)
  have HCx_3 := Aside0.mk (Kd.C_below HCx_2.out hb3)
  clear hb3 HB2 HCx_2
  go_wp2_with fail
  refine (know_Add.calls 100000 _ _ a _ _ la none _ (Kd.C_below HRA.out HB3.out) HCA.out K1.out).mono ?_
  rintro ev w4 ⟨vd, rfl, hRd, hb4⟩
  obtain ⟨Ad, cd, rfl, hDd, hCd⟩ := Kd.R_reads hRd
  have HDd := Aside0.mk hDd
  have HCd_4 := Aside0.mk hCd
  clear hDd hCd hRd
  have HB4 := Aside0.mk (below_step HB3.out hb4)
  have HCx_4 := Aside0.mk (Kd.C_below HCx_3.out hb4)
  have HCy_4 := Aside0.mk (Kd.C_below HCy_3.out hb4)
  clear hb4 HB3 HCx_3 HCy_3
  go_wp2_with fail
  refine (know_Has.calls 100000 _ _ a _ _ true _ (Kd.C_below HRA.out HB4.out) HCA.out K2.out).mono ?_
  rintro ev w5 ⟨rfl, hb5⟩
  have HB5 := Aside0.mk (below_step HB4.out hb5)
  have HCx_5 := Aside0.mk (Kd.C_below HCx_4.out hb5)
  have HCy_5 := Aside0.mk (Kd.C_below HCy_4.out hb5)
  have HCd_5 := Aside0.mk (Kd.C_below HCd_4.out hb5)
  clear hb5 HB4 HCx_4 HCy_4 HCd_4
  go_wp2_with fail
  go_ret
  exact ⟨rfl, HB5.out⟩
set_option maxRecDepth 100000 in
set_option maxHeartbeats 4000000 in
theorem KnowLaws_s_drop (a b c : List S65) (A B C : Option Addr) (ca cb cc : Nat) (r n : Int) (w : World) (lx ly la : List S65) (ce : Int) (ef : Option Int) (hg : GT w) (hra : Kd.C k65 w A a.length a) (hca : a.length ≤ ca) (hrb : Kd.C k65 w B b.length b) (hcb : b.length ≤ cb) (hrc : Kd.C k65 w C c.length c) (hcc : c.length ≤ cc) (hlt : a.length ≤ 300) (hlu : b.length ≤ 300) (hlv : c.length ≤ 300) (h1 : know_Union.f 100000 a b = some (lx, (some ce))) (h2 : know_Union.f 100000 b c = some (ly, ef)) (k1 : know_Add.f 100000 a r n = some (la, none)) (k2 : know_Has.f 100000 a r n = some false) (k3 : know_Drop.f 100000 la r n = some (a, none)) (k4 : tidingsref01_Same.f 100000 a a = some true) : Calls Tryd.prog 6 #[.slice A a.length ca, .slice B b.length cb, .slice C c.length cc, .int .u8 r, .int .u32 n] w fun e w' => e = .returned (.bool true) ∧ Below w.heap.size w w' := by
  have ha := awake01_any 60 (Nat.le_refl _)
  have hga_a : decide ((a.length : Int) > 300) = false := decide_eq_false (by omega)
  have hgb_a : decide ((300 : Int) < (a.length : Int)) = false := decide_eq_false (by omega)
  have hgc_a : decide (300 < a.length) = false := decide_eq_false (by omega)
  have hga_b : decide ((b.length : Int) > 300) = false := decide_eq_false (by omega)
  have hgb_b : decide ((300 : Int) < (b.length : Int)) = false := decide_eq_false (by omega)
  have hgc_b : decide (300 < b.length) = false := decide_eq_false (by omega)
  have hga_c : decide ((c.length : Int) > 300) = false := decide_eq_false (by omega)
  have hgb_c : decide ((300 : Int) < (c.length : Int)) = false := decide_eq_false (by omega)
  have hgc_c : decide (300 < c.length) = false := decide_eq_false (by omega)
  clear hlt hlu hlv
  have HA := Aside0.mk ha
  have HG := Aside0.mk hg
  have HRA := Aside0.mk hra
  have HCA := Aside0.mk hca
  have HRB := Aside0.mk hrb
  have HCB := Aside0.mk hcb
  have HRC := Aside0.mk hrc
  have HCC := Aside0.mk hcc
  have H1 := Aside0.mk h1
  have H2 := Aside0.mk h2
  have K1 := Aside0.mk k1
  have K2 := Aside0.mk k2
  have K3 := Aside0.mk k3
  have K4 := Aside0.mk k4
  clear ha hg hra hca hrb hcb hrc hcc h1 h2 k1 k2 k3 k4
  have eN := errW_none
  have eS0 := errW_some ce
  go_enter Tryd.func6, Tryd.ntmps6
  go_wp2_with fail
  refine (tidingslaw01_awake.calls 60 true _ HA.out).mono ?_
  rintro ev w1 ⟨rfl, hb1⟩
  have HB1 := Aside0.mk (hb1)
  clear hb1 
  go_wp2_with fail
  refine (know_Union.calls 100000 _ _ a _ _ b lx (some ce) _ (Kd.C_below HRA.out HB1.out) HCA.out (Kd.C_below HRB.out HB1.out) HCB.out H1.out).mono ?_
  rintro ev w2 ⟨vx, rfl, hRx, hb2⟩
  obtain ⟨Ax, cx, rfl, hDx, hCx⟩ := Kd.R_reads hRx
  have HDx := Aside0.mk hDx
  have HCx_2 := Aside0.mk hCx
  clear hDx hCx hRx
  have HB2 := Aside0.mk (below_step HB1.out hb2)
  clear hb2 HB1
  go_wp2_with fail
  refine (know_Union.calls 100000 _ _ b _ _ c ly ef _ (Kd.C_below HRB.out HB2.out) HCB.out (Kd.C_below HRC.out HB2.out) HCC.out H2.out).mono ?_
  rintro ev w3 ⟨vy, rfl, hRy, hb3⟩
  obtain ⟨Ay, cy, rfl, hDy, hCy⟩ := Kd.R_reads hRy
  have HDy := Aside0.mk hDy
  have HCy_3 := Aside0.mk hCy
  clear hDy hCy hRy
  have HB3 := Aside0.mk (below_step HB2.out hb3)
  have HCx_3 := Aside0.mk (Kd.C_below HCx_2.out hb3)
  clear hb3 HB2 HCx_2
  go_wp2_with fail
  refine (know_Add.calls 100000 _ _ a _ _ la none _ (Kd.C_below HRA.out HB3.out) HCA.out K1.out).mono ?_
  rintro ev w4 ⟨vd, rfl, hRd, hb4⟩
  obtain ⟨Ad, cd, rfl, hDd, hCd⟩ := Kd.R_reads hRd
  have HDd := Aside0.mk hDd
  have HCd_4 := Aside0.mk hCd
  clear hDd hCd hRd
  have HB4 := Aside0.mk (below_step HB3.out hb4)
  have HCx_4 := Aside0.mk (Kd.C_below HCx_3.out hb4)
  have HCy_4 := Aside0.mk (Kd.C_below HCy_3.out hb4)
  clear hb4 HB3 HCx_3 HCy_3
  go_wp2_with fail
  refine (know_Has.calls 100000 _ _ a _ _ false _ (Kd.C_below HRA.out HB4.out) HCA.out K2.out).mono ?_
  rintro ev w5 ⟨rfl, hb5⟩
  have HB5 := Aside0.mk (below_step HB4.out hb5)
  have HCx_5 := Aside0.mk (Kd.C_below HCx_4.out hb5)
  have HCy_5 := Aside0.mk (Kd.C_below HCy_4.out hb5)
  have HCd_5 := Aside0.mk (Kd.C_below HCd_4.out hb5)
  clear hb5 HB4 HCx_4 HCy_4 HCd_4
  go_wp2_with fail
  refine (know_Drop.calls 100000 _ _ la _ _ a none _ HCd_5.out HDd.out K3.out).mono ?_
  rintro ev w6 ⟨vk, rfl, hRk, hb6⟩
  obtain ⟨Ak, ck, rfl, hDk, hCk⟩ := Kd.R_reads hRk
  have HDk := Aside0.mk hDk
  have HCk_6 := Aside0.mk hCk
  clear hDk hCk hRk
  have HB6 := Aside0.mk (below_step HB5.out hb6)
  have HCx_6 := Aside0.mk (Kd.C_below HCx_5.out hb6)
  have HCy_6 := Aside0.mk (Kd.C_below HCy_5.out hb6)
  have HCd_6 := Aside0.mk (Kd.C_below HCd_5.out hb6)
  clear hb6 HB5 HCx_5 HCy_5 HCd_5
  go_wp2_with fail
  refine (tidingsref01_Same.calls 100000 _ _ a _ _ a true _ HCk_6.out HDk.out (Kd.C_below HRA.out HB6.out) HCA.out K4.out).mono ?_
  rintro ev w7 ⟨rfl, hd7⟩
  have hb7 := Drawn0.below hd7
  clear hd7
  have HB7 := Aside0.mk (below_step HB6.out hb7)
  have HCx_7 := Aside0.mk (Kd.C_below HCx_6.out hb7)
  have HCy_7 := Aside0.mk (Kd.C_below HCy_6.out hb7)
  have HCd_7 := Aside0.mk (Kd.C_below HCd_6.out hb7)
  have HCk_7 := Aside0.mk (Kd.C_below HCk_6.out hb7)
  clear hb7 HB6 HCx_6 HCy_6 HCd_6 HCk_6
  go_wp2_with fail
  go_ret
  exact ⟨rfl, HB7.out⟩
theorem unionF_none (x y l : List S65) (h : unionF x y = (l, none)) : rightK x = true ∧ rightK y = true ∧ rightK l = true ∧ (∀ r n, Mem l r n ↔ Mem x r n ∨ Mem y r n) := by
  unfold unionF at h
  by_cases hc : (rightK x && rightK y) = true
  · rw [if_pos hc] at h
    rw [Bool.and_eq_true] at hc
    obtain ⟨rfl, h2⟩ := fin_none h
    obtain ⟨k1, k2⟩ := union_spec x y ((rightK_iff x).1 hc.1).1 ((rightK_iff y).1 hc.2).1
    exact ⟨hc.1, hc.2, (rightK_iff _).2 ⟨k1, h2⟩, k2⟩
  · rw [if_neg hc] at h; cases h
theorem unionF_of (x y l : List S65) (hx : rightK x = true) (hy : rightK y = true) (hl : rightK l = true) (h : ∀ r n, Mem l r n ↔ Mem x r n ∨ Mem y r n) : unionF x y = (l, none) := by
  obtain ⟨k1, k2⟩ := union_spec x y ((rightK_iff x).1 hx).1 ((rightK_iff y).1 hy).1
  have hl' := (rightK_iff l).1 hl
  have e : mergeL (x ++ y) = l := Canon_uniq _ _ k1 hl'.1 (fun r n => by rw [k2, h])
  unfold unionF
  rw [hx, hy, Bool.and_self, if_pos rfl, e]
  unfold fin
  rw [if_neg (by omega)]
theorem unionF_assoc (a b c x y : List S65) (hx : unionF a b = (x, none)) (hy : unionF b c = (y, none)) : unionF x c = unionF a y ∧ unionF x b = (x, none) := by
  obtain ⟨a1, b1, x1, m1⟩ := unionF_none a b x hx
  obtain ⟨b2, c2, y2, m2⟩ := unionF_none b c y hy
  refine ⟨?_, unionF_of x b x x1 b1 x1 (fun r n => by rw [m1]; constructor
                                                      · exact .inl
                                                      · rintro (h | h)
                                                        · exact h
                                                        · exact .inr h)⟩
  unfold unionF
  rw [x1, c2, a1, y2]
  simp only [Bool.and_self, if_true]
  obtain ⟨k1, k2⟩ := union_spec x c ((rightK_iff x).1 x1).1 ((rightK_iff c).1 c2).1
  obtain ⟨n1, n2⟩ := union_spec a y ((rightK_iff a).1 a1).1 ((rightK_iff y).1 y2).1
  rw [Canon_uniq _ _ k1 n1 (fun r n => by rw [k2, n2, m1, m2, or_assoc])]
theorem drop_add (a d : List S65) (r n : Int) (h : addF r n a = (d, none)) (hh : hasB a r n = false) : dropF r n d = (a, none) := by
  unfold addF at h
  by_cases hc : (rightK a && runB ⟨r, n, n⟩) = true
  · rw [if_pos hc] at h
    rw [Bool.and_eq_true] at hc
    obtain ⟨rfl, h2⟩ := fin_none h
    have ha := (rightK_iff a).1 hc.1
    obtain ⟨k1, k2⟩ := addR_spec r n a ha.1 hc.2
    have hn := ((runB_iff _).1 hc.2).2.1
    obtain ⟨n1, n2⟩ := dropR_spec r n hn _ k1
    have e : dropR r n (addR r n a) = a := Canon_uniq _ _ n1 ha.1 (fun u v => by
      rw [n2, k2]
      constructor
      · rintro ⟨p | p, q⟩
        · exact p
        · exact absurd p q
      · intro p
        refine ⟨.inl p, ?_⟩
        rintro ⟨rfl, rfl⟩
        rw [(hasB_iff a _ _ hc.1).2 p] at hh
        cases hh)
    unfold dropF
    rw [(rightK_iff _).2 ⟨k1, h2⟩, hc.2, Bool.and_self, if_pos rfl, e]
    unfold fin
    rw [if_neg (by omega)]
  · rw [if_neg hc] at h; cases h
theorem unionF_ok (x y : List S65) (ox : ∀ z ∈ x, Ok_Run z) (oy : ∀ z ∈ y, Ok_Run z) : ∀ z ∈ (unionF x y).1, Ok_Run z := by
  intro z hz
  unfold unionF at hz
  split at hz
  · rename_i hc
    rw [Bool.and_eq_true] at hc
    obtain ⟨k1, k2⟩ := union_spec x y ((rightK_iff x).1 hc.1).1 ((rightK_iff y).1 hc.2).1
    exact canon_ok k1 (fun r n hm => by
      rcases (k2 r n).1 hm with h | h
      · exact mem_ok ox r n h
      · exact mem_ok oy r n h) z (fin_mem _ z hz)
  · cases hz
theorem addF_ok (r n : Int) (l : List S65) (hr : In8 r) (hn : In32 n) (ok : ∀ z ∈ l, Ok_Run z) : ∀ z ∈ (addF r n l).1, Ok_Run z := by
  intro z hz
  unfold addF at hz
  split at hz
  · rename_i hc
    rw [Bool.and_eq_true] at hc
    obtain ⟨k1, k2⟩ := addR_spec r n l ((rightK_iff l).1 hc.1).1 hc.2
    exact canon_ok k1 (fun a b hm => by
      rcases (k2 a b).1 hm with h | ⟨rfl, rfl⟩
      · exact mem_ok ok a b h
      · exact ⟨hr, hn⟩) z (fin_mem _ z hz)
  · cases hz
theorem KnowLaws_law (w : World) (x0 x1 x2 : List S65) (x3 x4 : Int) (o0 : ∀ z ∈ x0, Ok_Run z) (o1 : ∀ z ∈ x1, Ok_Run z) (o2 : ∀ z ∈ x2, Ok_Run z) (o3 : In8 x3) (o4 : In32 x4) (hg : GT w) {A0 : Option Addr} {c0 : Nat} (g0 : Kd.C k65 w A0 x0.length x0) (l0 : x0.length ≤ c0) {A1 : Option Addr} {c1 : Nat} (g1 : Kd.C k65 w A1 x1.length x1) (l1 : x1.length ≤ c1) {A2 : Option Addr} {c2 : Nat} (g2 : Kd.C k65 w A2 x2.length x2) (l2 : x2.length ≤ c2) :
    Calls Tryd.prog 6 #[.slice A0 x0.length c0, .slice A1 x1.length c1, .slice A2 x2.length c2, .int .u8 x3, .int .u32 x4] w fun e w' => e = .returned (.bool true) ∧ Below w.heap.size w w' := by
  by_cases h : x0.length ≤ 300
  case neg => exact KnowLaws_longa x0 x1 x2 A0 A1 A2 c0 c1 c2 x3 x4 w h
  by_cases h' : x1.length ≤ 300
  case neg => exact KnowLaws_longb x0 x1 x2 A0 A1 A2 c0 c1 c2 x3 x4 w h h'
  by_cases h'' : x2.length ≤ 300
  case neg => exact KnowLaws_longc x0 x1 x2 A0 A1 A2 c0 c1 c2 x3 x4 w h h' h''
  have Un : ∀ (a b : List S65), a.length ≤ 300 → b.length ≤ 300 → (∀ z ∈ a, Ok_Run z) → (∀ z ∈ b, Ok_Run z) → know_Union.f 100000 a b = some (unionF a b) := fun a b ha hb oa ob => UnionK_is a b (by omega) (by omega) oa ob _ (by omega)
  have Sm : ∀ a : List S65, a.length ≤ 300 → tidingsref01_Same.f 100000 a a = some true := fun a ha => Same01_is a (by omega) _ (by omega)
  have u1 := Un x0 x1 h h' o0 o1
  have u2 := Un x1 x2 h' h'' o1 o2
  have ad : know_Add.f 100000 x0 x3 x4 = some (addF x3 x4 x0) := AddK_is x0 (by omega) o0 x3 x4 o3 o4 _ (by omega)
  have hs : know_Has.f 100000 x0 x3 x4 = some (hasB x0 x3 x4) := HasK_is x0 (by omega) o0 x3 x4 _ (by omega)
  have b1 := unionF_len x0 x1
  have b2 := unionF_len x1 x2
  have b3 := addF_len x3 x4 x0
  have q1 := unionF_ok x0 x1 o0 o1
  have q2 := unionF_ok x1 x2 o1 o2
  have q3 := addF_ok x3 x4 x0 o3 o4 o0
  cases e1 : unionF x0 x1 with
  | mk lx ex =>
  cases e2 : unionF x1 x2 with
  | mk ly ey =>
  cases e3 : addF x3 x4 x0 with
  | mk la eg =>
  rw [e1] at u1 b1 q1
  rw [e2] at u2 b2 q2
  rw [e3] at ad b3 q3
  simp only at b1 b2 b3 q1 q2 q3
  have dr : eg = none → hasB x0 x3 x4 = false → know_Drop.f 100000 la x3 x4 = some (x0, none) := fun hn hh => by
    subst hn
    rw [DropK_is la (by omega) q3 x3 x4 o4 _ (by omega)]
    exact congrArg some (drop_add x0 la x3 x4 e3 hh)
  cases ex with
  | some ce =>
    cases eg with
    | some cg => exact KnowLaws_s_some x0 x1 x2 A0 A1 A2 c0 c1 c2 x3 x4 w lx ly la ce ey cg hg g0 l0 g1 l1 g2 l2 h h' h'' u1 u2 ad
    | none =>
      cases hh : hasB x0 x3 x4 with
      | true => exact KnowLaws_s_has x0 x1 x2 A0 A1 A2 c0 c1 c2 x3 x4 w lx ly la ce ey hg g0 l0 g1 l1 g2 l2 h h' h'' u1 u2 ad (hs.trans (congrArg some hh))
      | false => exact KnowLaws_s_drop x0 x1 x2 A0 A1 A2 c0 c1 c2 x3 x4 w lx ly la ce ey hg g0 l0 g1 l1 g2 l2 h h' h'' u1 u2 ad (hs.trans (congrArg some hh)) (dr rfl hh) (Sm x0 h)
  | none =>
    cases ey with
    | some cf =>
      cases eg with
      | some cg => exact KnowLaws_ns_some x0 x1 x2 A0 A1 A2 c0 c1 c2 x3 x4 w lx ly la cf cg hg g0 l0 g1 l1 g2 l2 h h' h'' u1 u2 ad
      | none =>
        cases hh : hasB x0 x3 x4 with
        | true => exact KnowLaws_ns_has x0 x1 x2 A0 A1 A2 c0 c1 c2 x3 x4 w lx ly la cf hg g0 l0 g1 l1 g2 l2 h h' h'' u1 u2 ad (hs.trans (congrArg some hh))
        | false => exact KnowLaws_ns_drop x0 x1 x2 A0 A1 A2 c0 c1 c2 x3 x4 w lx ly la cf hg g0 l0 g1 l1 g2 l2 h h' h'' u1 u2 ad (hs.trans (congrArg some hh)) (dr rfl hh) (Sm x0 h)
    | none =>
      obtain ⟨t1, t2⟩ := unionF_assoc x0 x1 x2 lx ly e1 e2
      have u3 := Un lx x2 (by omega) h'' q1 o2
      have u4 := (Un x0 ly h (by omega) o0 q2).trans (congrArg some t1.symm)
      have u6 := (Un lx x1 (by omega) h' q1 o1).trans (congrArg some t2)
      have b4 := unionF_len lx x2
      have hcp := code_num _ (unionF_pos lx x2)
      cases eg with
      | some cg => exact KnowLaws_nn_some x0 x1 x2 A0 A1 A2 c0 c1 c2 x3 x4 w lx ly la (unionF lx x2).1 (unionF lx x2).2 (num (unionF lx x2)).2 cg hg g0 l0 g1 l1 g2 l2 h h' h'' u1 u2 u3 u4 (Sm _ (by omega)) u6 (Sm _ (by omega)) hcp ad
      | none =>
        cases hh : hasB x0 x3 x4 with
        | true => exact KnowLaws_nn_has x0 x1 x2 A0 A1 A2 c0 c1 c2 x3 x4 w lx ly la (unionF lx x2).1 (unionF lx x2).2 (num (unionF lx x2)).2 hg g0 l0 g1 l1 g2 l2 h h' h'' u1 u2 u3 u4 (Sm _ (by omega)) u6 (Sm _ (by omega)) hcp ad (hs.trans (congrArg some hh))
        | false => exact KnowLaws_nn_drop x0 x1 x2 A0 A1 A2 c0 c1 c2 x3 x4 w lx ly la (unionF lx x2).1 (unionF lx x2).2 (num (unionF lx x2)).2 hg g0 l0 g1 l1 g2 l2 h h' h'' u1 u2 u3 u4 (Sm _ (by omega)) u6 (Sm _ (by omega)) hcp ad (hs.trans (congrArg some hh)) (dr rfl hh) (Sm x0 h)
end Go.Proofs.YtiminjibcafkaaaDoor.X
