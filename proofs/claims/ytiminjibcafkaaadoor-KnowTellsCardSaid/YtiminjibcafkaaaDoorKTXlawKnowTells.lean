/- The law KnowTells at every input. -/
import Derived.Test.YtiminjibcafkaaaDoorKTX15
import Derived.Test.YtiminjibcafkaaaDoorKTJ10
import Derived.Test.YtiminjibcafkaaaDoorKTJ15
import Derived.Test.YtiminjibcafkaaaDoorKTX18
import Derived.Test.YtiminjibcafkaaaDoorKTXhknowUnion
import Derived.Test.YtiminjibcafkaaaDoorKTX19
import Derived.Test.YtiminjibcafkaaaDoorKTX21
import Derived.Test.YtiminjibcafkaaaDoorKTJ24
import Derived.Test.YtiminjibcafkaaaDoorKTJ25
namespace Go.Proofs.YtiminjibcafkaaaDoor.X
open Go.RowKit Go.Proofs.YtiminjibcafkaaaDoorW.PrintWords Go.Proofs.YtiminjibcafkaaaDoorW.PrintLast Go.Proofs.YtiminjibcafkaaaDoorW.PrintMore
set_option linter.unusedVariables false
set_option linter.unusedSimpArgs false
set_option maxRecDepth 100000 in
theorem KnowTells_long (l : List S65) (A : Option Addr) (c : Nat) (r n : Int) (w : World) (hlt : ¬ l.length ≤ 300) : Calls Tryd.prog 4 #[.slice A l.length c, .int .u8 r, .int .u32 n] w fun e w' => e = .returned (.bool true) ∧ Below w.heap.size w w' := by
  have HA := Aside0.mk (awake01_any 60 (Nat.le_refl _))
  have hga_l : decide ((l.length : Int) > 300) = true := decide_eq_true (by omega)
  have hgb_l : decide ((300 : Int) < (l.length : Int)) = true := decide_eq_true (by omega)
  have hgc_l : decide (300 < l.length) = true := decide_eq_true (by omega)
  go_enter Tryd.func4, Tryd.ntmps4
  go_wp2_with fail
  refine (tidingslaw01_awake.calls 60 true _ HA.out).mono ?_
  rintro ev w1 ⟨rfl, hb1⟩
  have HB1 := Aside0.mk (hb1)
  clear hb1 
  go_wp2_with fail
  go_ret
  exact ⟨rfl, HB1.out⟩
set_option maxRecDepth 100000 in
set_option maxHeartbeats 4000000 in
theorem KnowTells_short (l la ld : List S65) (ea ed : Option Int) (na nd : Int) (bR bH : Bool) (A : Option Addr) (c : Nat) (r n : Int) (w : World) (hg : GT w) (hr : Kd.C k65 w A l.length l) (hc : l.length ≤ c) (hlt : l.length ≤ 300)
    (h1 : know_Add.f 100000 l r n = some (la, ea)) (h2 : know_Drop.f 100000 l r n = some (ld, ed)) (h3 : tidingsref01_Add.f 100000 l r n = some (la, na)) (h4 : tidingsref01_Drop.f 100000 l r n = some (ld, nd))
    (h5 : know_Right.f 100000 l = some bR) (h6 : tidingsref01_Right.f 100000 l = some bR) (h7 : know_Has.f 100000 l r n = some bH) (h8 : tidingsref01_Has.f 100000 l r n = some bH)
    (h9 : tidingsref01_Same.f 100000 la la = some true) (hs : tidingsref01_Same.f 100000 ld ld = some true) (hca : codeOf ea = na) (hcd : codeOf ed = nd) : Calls Tryd.prog 4 #[.slice A l.length c, .int .u8 r, .int .u32 n] w fun e w' => e = .returned (.bool true) ∧ Below w.heap.size w w' := by
  have ha := awake01_any 60 (Nat.le_refl _)
  have hga_l : decide ((l.length : Int) > 300) = false := decide_eq_false (by omega)
  have hgb_l : decide ((300 : Int) < (l.length : Int)) = false := decide_eq_false (by omega)
  have hgc_l : decide (300 < l.length) = false := decide_eq_false (by omega)
  clear hlt
  have HA := Aside0.mk ha
  have HG := Aside0.mk hg
  have HR := Aside0.mk hr
  have HC := Aside0.mk hc
  have H1 := Aside0.mk h1
  have H2 := Aside0.mk h2
  have H3 := Aside0.mk h3
  have H4 := Aside0.mk h4
  have H5 := Aside0.mk h5
  have H6 := Aside0.mk h6
  have H7 := Aside0.mk h7
  have H8 := Aside0.mk h8
  have H9 := Aside0.mk h9
  have HS := Aside0.mk hs
  have HCA := Aside0.mk hca
  have HCD := Aside0.mk hcd
  clear ha hg hr hc h1 h2 h3 h4 h5 h6 h7 h8 h9 hs hca hcd
  have HEA := Aside0.mk (fun (W : World) (h : GT W) => show Calls Tryd.prog 11 #[errW ea] W fun e w' => e = .returned (.int .i64 na) ∧ Below W.heap.size W w' by rw [← HCA.out]; exact Code_calls ea W h)
  have HED := Aside0.mk (fun (W : World) (h : GT W) => show Calls Tryd.prog 11 #[errW ed] W fun e w' => e = .returned (.int .i64 nd) ∧ Below W.heap.size W w' by rw [← HCD.out]; exact Code_calls ed W h)
  clear HCA HCD
  go_enter Tryd.func4, Tryd.ntmps4
  go_wp2_with fail
  refine (tidingslaw01_awake.calls 60 true _ HA.out).mono ?_
  rintro ev w1 ⟨rfl, hb1⟩
  have HB1 := Aside0.mk (hb1)
  clear hb1 
  go_wp2_with fail
  refine (know_Add.calls 100000 _ _ l _ _ la ea _ (Kd.C_below HR.out HB1.out) HC.out H1.out).mono ?_
  rintro ev w2 ⟨va, rfl, hRa, hb2⟩
  obtain ⟨Aa, ca, rfl, hDa, hCa⟩ := Kd.R_reads hRa
  have HDa := Aside0.mk hDa
  have HCa_2 := Aside0.mk hCa
  clear hDa hCa hRa
  have HB2 := Aside0.mk (below_step HB1.out hb2)
  clear hb2 HB1
  go_wp2_with fail
  refine (know_Drop.calls 100000 _ _ l _ _ ld ed _ (Kd.C_below HR.out HB2.out) HC.out H2.out).mono ?_
  rintro ev w3 ⟨vd, rfl, hRd, hb3⟩
  obtain ⟨Ad, cd, rfl, hDd, hCd⟩ := Kd.R_reads hRd
  have HDd := Aside0.mk hDd
  have HCd_3 := Aside0.mk hCd
  clear hDd hCd hRd
  have HB3 := Aside0.mk (below_step HB2.out hb3)
  have HCa_3 := Aside0.mk (Kd.C_below HCa_2.out hb3)
  clear hb3 HB2 HCa_2
  go_wp2_with fail
  refine (tidingsref01_Add.calls 100000 _ _ l _ _ la na _ (Kd.C_below HR.out HB3.out) HC.out H3.out).mono ?_
  rintro ev w4 ⟨vx, rfl, hRx, hb4⟩
  obtain ⟨Ax, cx, rfl, hDx, hCx⟩ := Kd.R_reads hRx
  have HDx := Aside0.mk hDx
  have HCx_4 := Aside0.mk hCx
  clear hDx hCx hRx
  have HB4 := Aside0.mk (below_step HB3.out hb4)
  have HCa_4 := Aside0.mk (Kd.C_below HCa_3.out hb4)
  have HCd_4 := Aside0.mk (Kd.C_below HCd_3.out hb4)
  clear hb4 HB3 HCa_3 HCd_3
  go_wp2_with fail
  refine (tidingsref01_Drop.calls 100000 _ _ l _ _ ld nd _ (Kd.C_below HR.out HB4.out) HC.out H4.out).mono ?_
  rintro ev w5 ⟨vy, rfl, hRy, hb5⟩
  obtain ⟨Ay, cy, rfl, hDy, hCy⟩ := Kd.R_reads hRy
  have HDy := Aside0.mk hDy
  have HCy_5 := Aside0.mk hCy
  clear hDy hCy hRy
  have HB5 := Aside0.mk (below_step HB4.out hb5)
  have HCa_5 := Aside0.mk (Kd.C_below HCa_4.out hb5)
  have HCd_5 := Aside0.mk (Kd.C_below HCd_4.out hb5)
  have HCx_5 := Aside0.mk (Kd.C_below HCx_4.out hb5)
  clear hb5 HB4 HCa_4 HCd_4 HCx_4
  go_wp2_with fail
  refine (know_Right.calls 100000 _ _ l bR _ (Kd.C_below HR.out HB5.out) HC.out H5.out).mono ?_
  rintro ev w6 ⟨rfl, hb6⟩
  have HB6 := Aside0.mk (below_step HB5.out hb6)
  have HCa_6 := Aside0.mk (Kd.C_below HCa_5.out hb6)
  have HCd_6 := Aside0.mk (Kd.C_below HCd_5.out hb6)
  have HCx_6 := Aside0.mk (Kd.C_below HCx_5.out hb6)
  have HCy_6 := Aside0.mk (Kd.C_below HCy_5.out hb6)
  clear hb6 HB5 HCa_5 HCd_5 HCx_5 HCy_5
  go_wp2_with fail
  refine (tidingsref01_Right.calls 100000 _ _ l bR _ (Kd.C_below HR.out HB6.out) HC.out H6.out).mono ?_
  rintro ev w7 ⟨rfl, hd7⟩
  have hb7 := Drawn0.below hd7
  clear hd7
  have HB7 := Aside0.mk (below_step HB6.out hb7)
  have HCa_7 := Aside0.mk (Kd.C_below HCa_6.out hb7)
  have HCd_7 := Aside0.mk (Kd.C_below HCd_6.out hb7)
  have HCx_7 := Aside0.mk (Kd.C_below HCx_6.out hb7)
  have HCy_7 := Aside0.mk (Kd.C_below HCy_6.out hb7)
  clear hb7 HB6 HCa_6 HCd_6 HCx_6 HCy_6
  go_wp2_with fail
  refine (know_Has.calls 100000 _ _ l _ _ bH _ (Kd.C_below HR.out HB7.out) HC.out H7.out).mono ?_
  rintro ev w8 ⟨rfl, hb8⟩
  have HB8 := Aside0.mk (below_step HB7.out hb8)
  have HCa_8 := Aside0.mk (Kd.C_below HCa_7.out hb8)
  have HCd_8 := Aside0.mk (Kd.C_below HCd_7.out hb8)
  have HCx_8 := Aside0.mk (Kd.C_below HCx_7.out hb8)
  have HCy_8 := Aside0.mk (Kd.C_below HCy_7.out hb8)
  clear hb8 HB7 HCa_7 HCd_7 HCx_7 HCy_7
  go_wp2_with fail
  refine (tidingsref01_Has.calls 100000 _ _ l _ _ bH _ (Kd.C_below HR.out HB8.out) HC.out H8.out).mono ?_
  rintro ev w9 ⟨rfl, hd9⟩
  have hb9 := Drawn0.below hd9
  clear hd9
  have HB9 := Aside0.mk (below_step HB8.out hb9)
  have HCa_9 := Aside0.mk (Kd.C_below HCa_8.out hb9)
  have HCd_9 := Aside0.mk (Kd.C_below HCd_8.out hb9)
  have HCx_9 := Aside0.mk (Kd.C_below HCx_8.out hb9)
  have HCy_9 := Aside0.mk (Kd.C_below HCy_8.out hb9)
  clear hb9 HB8 HCa_8 HCd_8 HCx_8 HCy_8
  go_wp2_with fail
  refine (HEA.out _ (HG.out.below HB9.out)).mono ?_
  rintro ev w10 ⟨rfl, hb10⟩
  have HB10 := Aside0.mk (below_step HB9.out hb10)
  have HCa_10 := Aside0.mk (Kd.C_below HCa_9.out hb10)
  have HCd_10 := Aside0.mk (Kd.C_below HCd_9.out hb10)
  have HCx_10 := Aside0.mk (Kd.C_below HCx_9.out hb10)
  have HCy_10 := Aside0.mk (Kd.C_below HCy_9.out hb10)
  clear hb10 HB9 HCa_9 HCd_9 HCx_9 HCy_9
  go_wp2_with fail
  refine (HED.out _ (HG.out.below HB10.out)).mono ?_
  rintro ev w11 ⟨rfl, hb11⟩
  have HB11 := Aside0.mk (below_step HB10.out hb11)
  have HCa_11 := Aside0.mk (Kd.C_below HCa_10.out hb11)
  have HCd_11 := Aside0.mk (Kd.C_below HCd_10.out hb11)
  have HCx_11 := Aside0.mk (Kd.C_below HCx_10.out hb11)
  have HCy_11 := Aside0.mk (Kd.C_below HCy_10.out hb11)
  clear hb11 HB10 HCa_10 HCd_10 HCx_10 HCy_10
  go_wp2_with fail
  refine (tidingsref01_Same.calls 100000 _ _ la _ _ la true _ HCa_11.out HDa.out HCx_11.out HDx.out H9.out).mono ?_
  rintro ev w12 ⟨rfl, hd12⟩
  have hb12 := Drawn0.below hd12
  clear hd12
  have HB12 := Aside0.mk (below_step HB11.out hb12)
  have HCa_12 := Aside0.mk (Kd.C_below HCa_11.out hb12)
  have HCd_12 := Aside0.mk (Kd.C_below HCd_11.out hb12)
  have HCx_12 := Aside0.mk (Kd.C_below HCx_11.out hb12)
  have HCy_12 := Aside0.mk (Kd.C_below HCy_11.out hb12)
  clear hb12 HB11 HCa_11 HCd_11 HCx_11 HCy_11
  go_wp2_with fail
  refine (tidingsref01_Same.calls 100000 _ _ ld _ _ ld true _ HCd_12.out HDd.out HCy_12.out HDy.out HS.out).mono ?_
  rintro ev w13 ⟨rfl, hd13⟩
  have hb13 := Drawn0.below hd13
  clear hd13
  have HB13 := Aside0.mk (below_step HB12.out hb13)
  have HCa_13 := Aside0.mk (Kd.C_below HCa_12.out hb13)
  have HCd_13 := Aside0.mk (Kd.C_below HCd_12.out hb13)
  have HCx_13 := Aside0.mk (Kd.C_below HCx_12.out hb13)
  have HCy_13 := Aside0.mk (Kd.C_below HCy_12.out hb13)
  clear hb13 HB12 HCa_12 HCd_12 HCx_12 HCy_12
  go_wp2_with fail
  go_ret
  exact ⟨rfl, HB13.out⟩
theorem code_num (p : List S65 × Option Int) (h : ∀ c, p.2 = some c → c > 0) : codeOf p.2 = (num p).2 := by
  unfold num codeOf
  cases hp : p.2 with
  | none => rfl
  | some c =>
    show (if c > 0 then c else -1) = c
    rw [if_pos (h c hp)]
theorem fin_pos (l : List S65) (c : Int) (h : (fin l).2 = some c) : c > 0 := by
  unfold fin at h
  split at h
  · cases h; decide
  · cases h
theorem addF_pos (r n : Int) (l : List S65) (c : Int) (h : (addF r n l).2 = some c) : c > 0 := by
  unfold addF at h
  split at h
  · exact fin_pos _ c h
  · cases h; decide
theorem dropF_pos (r n : Int) (l : List S65) (c : Int) (h : (dropF r n l).2 = some c) : c > 0 := by
  unfold dropF at h
  split at h
  · exact fin_pos _ c h
  · cases h; decide
theorem addF_len (r n : Int) (l : List S65) : (addF r n l).1.length ≤ 64 := by
  unfold addF
  split
  · exact fin_length _
  · simp
theorem dropF_len (r n : Int) (l : List S65) : (dropF r n l).1.length ≤ 64 := by
  unfold dropF
  split
  · exact fin_length _
  · simp
theorem KnowTells_law (w : World) (x0 : List S65) (x1 x2 : Int) (o0 : ∀ z ∈ x0, Ok_Run z) (o1 : In8 x1) (o2 : In32 x2) (hg : GT w) {A0 : Option Addr} {c0 : Nat} (g0 : Kd.C k65 w A0 x0.length x0) (l0 : x0.length ≤ c0) :
    Calls Tryd.prog 4 #[.slice A0 x0.length c0, .int .u8 x1, .int .u32 x2] w fun e w' => e = .returned (.bool true) ∧ Below w.heap.size w w' := by
  by_cases h : x0.length ≤ 300
  · have q1 := addF_len x1 x2 x0
    have q2 := dropF_len x1 x2 x0
    exact KnowTells_short x0 (addF x1 x2 x0).1 (dropF x1 x2 x0).1 (addF x1 x2 x0).2 (dropF x1 x2 x0).2 (num (addF x1 x2 x0)).2 (num (dropF x1 x2 x0)).2 (rightK x0) (hasB x0 x1 x2) A0 c0 x1 x2 w hg g0 l0 h
      (AddK_is x0 (by omega) o0 x1 x2 o1 o2 _ (by omega)) (DropK_is x0 (by omega) o0 x1 x2 o2 _ (by omega)) (ref01_Add_is x0 (by omega) o0 x1 x2 o1 o2 _ (by omega)) (ref01_Drop_is x0 (by omega) o0 x1 x2 o1 o2 _ (by omega))
      (RightK_is x0 (by omega) o0 _ (by omega)) (ref01_Right_is x0 (by omega) o0 _ (by omega)) (HasK_is x0 (by omega) o0 x1 x2 _ (by omega)) (ref01_Has_is x0 (by omega) o0 x1 x2 _ (by omega))
      (Same01_is _ (by omega) _ (by omega)) (Same01_is _ (by omega) _ (by omega)) (code_num _ (addF_pos x1 x2 x0)) (code_num _ (dropF_pos x1 x2 x0))
  · exact KnowTells_long x0 A0 c0 x1 x2 w h
end Go.Proofs.YtiminjibcafkaaaDoor.X
