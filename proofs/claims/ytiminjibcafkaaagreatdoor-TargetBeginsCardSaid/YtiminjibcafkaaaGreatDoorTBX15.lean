-- MADE BY wip/prx.py (the kit's printer, with contracts proved by hand). Not trusted: Lean checks it.
import Derived.Test.YtiminjibcafkaaaGreatDoorTBJ5
import Derived.Test.YtiminjibcafkaaaGreatDoorTBJ4
import Derived.Test.YtiminjibcafkaaaGreatDoorTBJ13
import Derived.Test.YtiminjibcafkaaaGreatDoorTBJ7
namespace Go.Proofs.YtiminjibcafkaaaGreatDoor.X
open Go.RowKit Go.Proofs.YtiminjibcafkaaaGreatDoorW.PrintWords Go.Proofs.YtiminjibcafkaaaGreatDoorW.PrintLast Go.Proofs.YtiminjibcafkaaaGreatDoorW.PrintMore
attribute [local go_sem] max2_int min2_int max_two min_two max_three min_three max_four min_four   -- for this text's walks alone
set_option linter.unusedVariables false
set_option linter.unusedSimpArgs false
/-! ### know_merged: function 78 -/
mutual
def know_merged.l0 : Nat → List (S67) → List (S67) → Int → Int → Option ((List (S67)) × Option Int)
 | 0,_,_,_,_=>none
 | k + 1,x4,x12,x13,x14=>if x14 < x13 then (if 0 ≤ x14 then (if x14 < (x12.length : Int) then (if (wrap64 ((x4.length : Int) - 1)) ≥ 0 then (if 0 ≤ (wrap64 ((x4.length : Int) - 1)) then (if (wrap64 ((x4.length : Int) - 1)) < (x4.length : Int) then ((know_apart.f ((rd_T67 x4 (wrap64 ((x4.length : Int) - 1))).f0) ((rd_T67 x4 (wrap64 ((x4.length : Int) - 1))).f1) ((rd_T67 x4 (wrap64 ((x4.length : Int) - 1))).f2) ((rd_T67 x12 x14).f0) ((rd_T67 x12 x14).f1) ((rd_T67 x12 x14).f2)).bind fun t188=>(know_merged.j1 k x4 (wrap64 ((x4.length : Int) - 1)) x12 x13 x14 (!t188) ((rd_T67 x12 x14).f0) ((rd_T67 x12 x14).f1) ((rd_T67 x12 x14).f2))) else (none)) else (none)) else (know_merged.j1 k x4 (wrap64 ((x4.length : Int) - 1)) x12 x13 x14 false ((rd_T67 x12 x14).f0) ((rd_T67 x12 x14).f1) ((rd_T67 x12 x14).f2))) else (none)) else (none)) else (if (x4.length : Int) > 64 then (some (([] : List (S67)),some 5)) else (some (x4,none)))
def know_merged.j1 : Nat → List (S67) → Int → List (S67) → Int → Int → Bool → Int → Int → Int → Option ((List (S67)) × Option Int)
 | 0,_,_,_,_,_,_,_,_,_=>none
 | k + 1,x4,x7,x12,x13,x14,x21,x187000,x187001,x187002=>if x21 = true then (if 0 ≤ x7 then (if x7 < (x4.length : Int) then (if x187002 ≤ ((rd_T67 x4 x7).f2) then (know_merged.l0 k x4 x12 x13 (wrap64 (x14 + 1))) else (if x7 ≤ (x4.length : Int) then ((some (x4.take (x7 : Int).toNat : List (S67))).bind fun y191=>(if y191.length < 11728124029610 then (know_merged.l0 k (y191 ++ [(⟨x187000,(rd_T67 x4 x7).f1,x187002⟩ : S67)]) x12 x13 (wrap64 (x14 + 1))) else (none))) else (none))) else (none)) else (none)) else (if x4.length < 11728124029610 then (know_merged.l0 k (x4 ++ [(⟨x187000,x187001,x187002⟩ : S67)]) x12 x13 (wrap64 (x14 + 1))) else (none))
end
def know_merged.f (k : Nat) (l0 : List (S67)) : Option ((List (S67)) × Option Int):=(slices_Clone_Run.f l0).bind fun t181=>((slices_SortFunc_Run.f t181).bind fun t184=>(know_merged.l0 k ([] : List (S67)) t184 (t181.length : Int) 0))
def know_merged.T8 : Bool × List (List Nat × List Nat):=(true,[([],[]),([0],[0]),([1],[1]),([2],[2]),([2],[2]),([3,4,2],[2,3,4]),([5,2],[2,5]),([2],[2]),([6,7,2,2],[2,6,7]),([8,2],[2,8]),([2,9],[2,9]),([10,8],[10])])
def know_merged.B8 : List Nat:=[0,1,3,7,7,31,63,7,255,511,1023,2047]
theorem know_merged.tab8 : rtab .any (opsOf Tryz.f78 8) = know_merged.T8:=by kernel_rfl
theorem know_merged.bits8 : waitsOk know_merged.T8.2 know_merged.B8 = true:=by kernel_rfl
def know_merged.T9 : Bool × List (List Nat × List Nat):=(true,[([],[]),([0],[0]),([],[]),([],[]),([2,3],[2,3]),([4],[4]),([5],[5]),([1,6],[1,6])])
def know_merged.B9 : List Nat:=[0,1,0,0,12,28,60,127]
theorem know_merged.tab9 : rtab .any (opsOf Tryz.f78 9) = know_merged.T9:=by kernel_rfl
theorem know_merged.bits9 : waitsOk know_merged.T9.2 know_merged.B9 = true:=by kernel_rfl
set_option maxHeartbeats 8000000 in
set_option maxRecDepth 100000 in
theorem know_merged.calls (k : Nat) (A0 : Option Addr) (c0 : Nat) (l0 : List (S67)) (r1 : List (S67)) (r2 : Option Int) (w : World) (hr0 : Kd.C k67 w A0 l0.length l0) (hc0 : l0.length ≤ c0) (h : know_merged.f k l0 = some (r1,r2)) :
 Calls Tryz.prog 78 #[.slice A0 l0.length c0] w fun e w'=>∃ v0_ : Value,e = .returned (.tuple #[v0_,errW r2]) ∧ Kd.R k67 67 w' w.heap.size (fun _=>True) v0_ r1 ∧ Below w.heap.size w w':=by
 have hu67:=Tryz.underlying67
 have hu35:=Tryz.underlying35
 have hu70:=Tryz.underlying70
 have HR0:=Aside0.mk hr0
 have HC0:=Aside0.mk hc0
 clear hr0 hc0
 have HB:=Aside0.mk (Below.refl w.heap.size w)
 have H : ((slices_Clone_Run.f l0).bind fun t181=>((slices_SortFunc_Run.f t181).bind fun t184=>(know_merged.l0 k ([] : List (S67)) t184 (t181.length : Int) 0))) = some (r1,r2):=h
 clear h
 replace H:=Option.bind_eq_some_iff.mp H
 obtain ⟨t181,A20,H⟩:=H
 have A2:=Aside0.mk A20
 clear A20
 replace H:=Option.bind_eq_some_iff.mp H
 obtain ⟨t184,A30,H⟩:=H
 have A3:=Aside0.mk A30
 clear A30
 have H':=Aside0.mk H
 clear H
 go_enter Tryz.func78,Tryz.ntmps78
 go_wp2_with (first | ((with_reducible refine gate_callee (f:=36) rfl ?_);refine goesL_ (some 9) rfl rfl Tryz.func36 (by kernel_rfl) rfl #[.slice A0 l0.length c0] rfl (by (try simp only [List.map_toArray,List.map_cons,List.map_nil]);first | rfl) ?_;(with_reducible refine (slices_Clone_Run.calls _ _ l0 t181 _ ?side1 ?side2 A2.out).mono ?_);(case side1=>repeat (first | exact HR0.out));(case side2=>exact HC0.out);rintro e w4 ⟨v182,rfl,ho0,hb⟩;refine ⟨_,rfl,?_⟩;have n0_:=Aside0.mk (Kd.R_lower ho0 (below_size (by repeat ((with_reducible first | exact HB.out)))));have n1_:=Aside0.mk (below_step (by repeat ((with_reducible first | exact HB.out))) hb);clear HB;have HO183:=n0_;have HB:=n1_;clear n0_ n1_;(try clear hb);(try clear ho0);obtain ⟨Ao5,co5,eo5⟩:=Kd.R_slice HO183.out;subst eo5) | ((with_reducible refine gate_callee (f:=104) rfl ?_);refine goesL_ (some 11) rfl rfl Tryz.func104 (by kernel_rfl) rfl #[.slice Ao5 t181.length co5,.func (.func 105) #[] #[]] rfl (by (try simp only [List.map_toArray,List.map_cons,List.map_nil]);first | rfl) ?_;(with_reducible refine (slices_SortFunc_Run.calls (fun k_=>some k_ = (.slice Ao5 t181.length co5 : Value).ownBlock) (.slice Ao5 t181.length co5) t181  t184 w _ ?side1 ?side2 A3.out).mono ?_);(case side1=>repeat ((with_reducible first | exact HB.out)));(case side2=>exact Kd.R_tight rfl HO183.out);rintro e w6 ⟨rfl,hy0,hb,hkp⟩;refine ⟨_,rfl,?_⟩;replace HO183:=Aside0.mk (Kd.R_reok rfl hy0 (fun k_ e_=>HO183.out.1 k_ e_));replace HB:=Aside0.mk (hb);(try clear hb);(try clear hkp);(try clear hy0)))
 go_loopg [4,14] k (fun kq v4 v14 w'=>∃ (x4_1 : List (S67)) (x14_1 : Int),v14 = .int .i64 x14_1 ∧ Aside0 (know_merged.l0 kq x4_1 t184 (t181.length : Int) x14_1 = some (r1,r2)) ∧ Aside0 (kq ≤ k) ∧ Aside0 (Kd.R k67 67 w' w.heap.size (fun k_=>some k_ ≠ ((.slice Ao5 t181.length co5) : Value).ownBlock) v4 x4_1) ∧ Aside0 (Kd.R k67 67 w' w.heap.size (fun k_=>some k_ ≠ (v4 : Value).ownBlock) (.slice Ao5 t181.length co5) t184) ∧ Aside0 (Below w.heap.size w w'))
 case atStart=>exact ⟨(([] : List (S67))),(0),(by first | rfl),H',⟨Nat.le_refl _⟩,⟨by first | exact Kd.R_nil _ _ _ _ _⟩,⟨by (with_reducible skip);exact Kd.R_mono HO183.out (fun _ hk=>(by simp [Value.ownBlock]))⟩,⟨by repeat ((with_reducible first | exact HB.out))⟩⟩
 case round =>
  clear H'
  obtain ⟨x4_1,x14_1,rfl,HA,HK1,HO_4,HO_12,HB⟩:=hrel
  have hl12_1:=(Kd.R_reads' HO_12.out).1
  rw [hl12_1] at HO_12
  (try simp only [hl12_1])
  (try simp only [hl12_1] at HO_4)
  cases gk with
  | zero=>exact absurd HA.out (by simp [know_merged.l0])
  | succ k1 =>
   have H:=HA.out
   clear HA
   simp only [know_merged.l0] at H
   by_cases c7 : x14_1 < (t181.length : Int)
   ·rw [if_pos c7] at H
    have c7b0 : decide (x14_1 < (t181.length : Int)) = true:=decide_eq_true c7
    clear c7
    by_cases c8 : 0 ≤ x14_1
    ·rw [if_pos c8] at H
     have c8b0 : decide (0 ≤ x14_1) = true:=decide_eq_true c8
     clear c8
     by_cases c9 : x14_1 < (t184.length : Int)
     ·rw [if_pos c9] at H
      have c9b0 : decide (x14_1 < (t184.length : Int)) = true:=decide_eq_true c9
      clear c9
      have HC10:=Aside0.mk H
      clear H
      have p185 : 0 ≤ (x14_1 : Int):=of_decide_eq_true (by (with_reducible assumption))
      have q185 : x14_1 < (t184.length : Int):=of_decide_eq_true (by (with_reducible assumption))
      obtain ⟨ad185,e185,hx185_0,hx185_1,hx185_2⟩:=at_T67 (Kd.R_reads' HO_12.out).2.2 x14_1 p185 q185
      cases e185
      replace p185:=eq_true p185
      replace q185:=eq_true q185
      go_upto_region 8 with (((with_reducible refine gate_dst (N:=6) rfl ?_);refine box_event ?hg (N:=6) ?hd (cs:=#[.int .u8 0,.int .u32 0,.int .u32 0]) (t:=67) ?hr ?_;(case hd=>rfl);(case hg=>rfl);(case hr=>(go_simp;done));intro gb186 hg w11 hbox hb;have n0_:=Aside0.mk (Kd.R_below (Kd.R_elderB HO_4.out gb186 (Nat.le_of_eq hg.symm)) hb);have n1_:=Aside0.mk (Kd.R_below (Kd.R_elderB HO_12.out gb186 (Nat.le_of_eq hg.symm)) hb);have n2_:=Aside0.mk (below_step (by repeat ((with_reducible first | exact HB.out))) hb);have n3_:=Aside0.mk (hbox);have n4_:=Aside0.mk ((by rw [hg];exact (below_size (by repeat ((with_reducible first | exact HB.out)))) : w.heap.size ≤ gb186));have n5_:=Aside0.mk ((by rw [hg];exact (below_size (by repeat ((with_reducible first | exact HB.out)))) : w.heap.size ≤ gb186));clear HO_4 HO_12 HB;have HO_4:=n0_;have HO_12:=n1_;have HB:=n2_;have BK186:=n3_;have GW186:=n4_;have GE186:=n5_;clear n0_ n1_ n2_ n3_ n4_ n5_ hb hbox hg;obtain ⟨hcz12_0,hcz12_1,hcz12_2⟩:=cells3 BK186.out;obtain ⟨hfz12_0,hfz12_1,hfz12_2,_,_,_,_,_,_,_,_,_,_⟩:=frz13 BK186.out;obtain ⟨Ao13,co13,eo13⟩:=Kd.R_slice HO_4.out;subst eo13))
      go_cut [21] (fun v21 wc=>∃ (kq : Nat) (x21_9 : Bool),v21 = .bool x21_9 ∧ Aside0 (know_merged.j1 kq x4_1 (wrap64 ((x4_1.length : Int) - 1)) t184 (t181.length : Int) x14_1 x21_9 ((rd_T67 t184 x14_1).f0) ((rd_T67 t184 x14_1).f1) ((rd_T67 t184 x14_1).f2) = some (r1,r2)) ∧ Aside0 (kq ≤ k1) ∧ Aside0 (Kd.R k67 67 wc w.heap.size (fun k_=>some k_ ≠ ((.slice (some ad185) t184.length co5) : Value).ownBlock ∧ k_ ≠ gb186) (.slice Ao13 x4_1.length co13) x4_1) ∧ Aside0 (Kd.R k67 67 wc w.heap.size (fun k_=>some k_ ≠ ((.slice Ao13 x4_1.length co13) : Value).ownBlock ∧ k_ ≠ gb186) (.slice (some ad185) t184.length co5) t184) ∧ Aside0 (wc.heap[gb186]? = some (.cells #[.int .u8 ((rd_T67 t184 x14_1).f0),.int .u32 ((rd_T67 t184 x14_1).f1),.int .u32 ((rd_T67 t184 x14_1).f2)] 67 (0,0))) ∧ Aside0 (Below w.heap.size w wc))
      case first =>
       have H:=HC10.out
       clear HC10
       by_cases c14 : (wrap64 ((x4_1.length : Int) - 1)) ≥ 0
       ·rw [if_pos c14] at H
        have c14b0 : decide (0 ≤ (wrap64 ((x4_1.length : Int) - 1))) = true:=decide_eq_true c14
        clear c14
        (first | skip)
        obtain ⟨ji15,hji15⟩ : ∃ j_ : Int,(wrap64 ((x4_1.length : Int) - 1)) = j_:=⟨_,rfl⟩
        replace H : (if 0 ≤ (ji15) then (if (ji15) < (x4_1.length : Int) then ((know_apart.f ((rd_T67 x4_1 (ji15)).f0) ((rd_T67 x4_1 (ji15)).f1) ((rd_T67 x4_1 (ji15)).f2) ((rd_T67 t184 x14_1).f0) ((rd_T67 t184 x14_1).f1) ((rd_T67 t184 x14_1).f2)).bind fun t188=>(know_merged.j1 k1 x4_1 ji15 t184 (t181.length : Int) x14_1 (!t188) ((rd_T67 t184 x14_1).f0) ((rd_T67 t184 x14_1).f1) ((rd_T67 t184 x14_1).f2))) else (none)) else (none)) = some (r1,r2):=by (rw [hji15] at H;exact H)
        (try rw [hji15] at c14b0)
        have hji15w : (IntKind.i64.wrap ((x4_1.length : Int) - 1)) = ji15:=(i64_w _).trans hji15
        by_cases c16 : 0 ≤ (ji15)
        ·rw [if_pos c16] at H
         have c16b0 : decide (0 ≤ (ji15)) = true:=decide_eq_true c16
         clear c16
         by_cases c17 : (ji15) < (x4_1.length : Int)
         ·rw [if_pos c17] at H
          have c17b0 : decide ((ji15) < (x4_1.length : Int)) = true:=decide_eq_true c17
          clear c17
          replace H:=Option.bind_eq_some_iff.mp H
          obtain ⟨t188,A180,H⟩:=H
          have A18:=Aside0.mk A180
          clear A180
          have H':=Aside0.mk H
          clear H
          try go_wp2
          have n0_ : Aside0 (Kd.R k67 67 (((w11.setCell ⟨gb186,0,none⟩ (.int .u8 ((rd_T67 t184 x14_1).f0))).setCell ⟨gb186,1,none⟩ (.int .u32 ((rd_T67 t184 x14_1).f1))).setCell ⟨gb186,2,none⟩ (.int .u32 ((rd_T67 t184 x14_1).f2))) w.heap.size (fun k_=>some k_ ≠ (.slice (some ad185) t184.length co5 : Value).ownBlock ∧ k_ ≠ gb186) (.slice Ao13 x4_1.length co13) x4_1):=⟨by (with_reducible skip);exact Kd.R_mono (Kd.R_far (p:=⟨gb186,2,none⟩) (Kd.R_far (p:=⟨gb186,1,none⟩) (Kd.R_far (p:=⟨gb186,0,none⟩) (Kd.R_mono HO_4.out (fun k_ hk=>(⟨hk,hk.2⟩ : _ ∧ k_ ≠ gb186))) (fun _ hk=>hk.2) (.int .u8 ((rd_T67 t184 x14_1).f0))) (fun _ hk=>hk.2) (.int .u32 ((rd_T67 t184 x14_1).f1))) (fun _ hk=>hk.2) (.int .u32 ((rd_T67 t184 x14_1).f2))) (fun _ hk=>⟨hk.1.1,hk.1.2⟩)⟩
          have n1_ : Aside0 (Kd.R k67 67 (((w11.setCell ⟨gb186,0,none⟩ (.int .u8 ((rd_T67 t184 x14_1).f0))).setCell ⟨gb186,1,none⟩ (.int .u32 ((rd_T67 t184 x14_1).f1))).setCell ⟨gb186,2,none⟩ (.int .u32 ((rd_T67 t184 x14_1).f2))) w.heap.size (fun k_=>some k_ ≠ (.slice Ao13 x4_1.length co13 : Value).ownBlock ∧ k_ ≠ gb186) (.slice (some ad185) t184.length co5) t184):=⟨by (with_reducible skip);exact Kd.R_mono (Kd.R_far (p:=⟨gb186,2,none⟩) (Kd.R_far (p:=⟨gb186,1,none⟩) (Kd.R_far (p:=⟨gb186,0,none⟩) (Kd.R_mono HO_12.out (fun k_ hk=>(⟨hk,hk.2⟩ : _ ∧ k_ ≠ gb186))) (fun _ hk=>hk.2) (.int .u8 ((rd_T67 t184 x14_1).f0))) (fun _ hk=>hk.2) (.int .u32 ((rd_T67 t184 x14_1).f1))) (fun _ hk=>hk.2) (.int .u32 ((rd_T67 t184 x14_1).f2))) (fun _ hk=>⟨hk.1.1,hk.1.2⟩)⟩
          have n2_ : Aside0 ((((w11.setCell ⟨gb186,0,none⟩ (.int .u8 ((rd_T67 t184 x14_1).f0))).setCell ⟨gb186,1,none⟩ (.int .u32 ((rd_T67 t184 x14_1).f1))).setCell ⟨gb186,2,none⟩ (.int .u32 ((rd_T67 t184 x14_1).f2))).heap[gb186]? = some (.cells #[.int .u8 ((rd_T67 t184 x14_1).f0),.int .u32 ((rd_T67 t184 x14_1).f1),.int .u32 ((rd_T67 t184 x14_1).f2)] 67 (0,0))):=⟨by (with_reducible skip);refine blk_put (cs:=#[.int .u8 ((rd_T67 t184 x14_1).f0),.int .u32 ((rd_T67 t184 x14_1).f1),.int .u32 0]) ?_ 2 _ rfl;(with_reducible skip);refine blk_put (cs:=#[.int .u8 ((rd_T67 t184 x14_1).f0),.int .u32 0,.int .u32 0]) ?_ 1 _ rfl;(with_reducible skip);refine blk_put (cs:=#[.int .u8 0,.int .u32 0,.int .u32 0]) ?_ 0 _ rfl;(with_reducible skip);exact BK186.out⟩
          have n3_ : Aside0 (Below w.heap.size w (((w11.setCell ⟨gb186,0,none⟩ (.int .u8 ((rd_T67 t184 x14_1).f0))).setCell ⟨gb186,1,none⟩ (.int .u32 ((rd_T67 t184 x14_1).f1))).setCell ⟨gb186,2,none⟩ (.int .u32 ((rd_T67 t184 x14_1).f2)))):=⟨by repeat ((with_reducible first | exact HB.out | refine below_set ?_ GE186.out))⟩
          (try clear HO_4)
          (try clear HO_12)
          (try clear BK186)
          (try clear HB)
          generalize (((w11.setCell ⟨gb186,0,none⟩ (.int .u8 ((rd_T67 t184 x14_1).f0))).setCell ⟨gb186,1,none⟩ (.int .u32 ((rd_T67 t184 x14_1).f1))).setCell ⟨gb186,2,none⟩ (.int .u32 ((rd_T67 t184 x14_1).f2))) = w19 at n0_ n1_ n2_ n3_ ⊢
          have HO_4:=n0_
          have HO_12:=n1_
          have BK186:=n2_
          have HB:=n3_
          clear n0_ n1_ n2_ n3_
          replace HO_4:=Aside0.mk (Kd.R_drew HO_4.out)
          replace HO_12:=Aside0.mk (Kd.R_drew HO_12.out)
          replace BK186:=Aside0.mk (blk_drew BK186.out)
          replace HB:=Aside0.mk (below_drew1 HB.out)
          have p187 : 0 ≤ ((ji15) : Int):=of_decide_eq_true (by (with_reducible assumption))
          have q187 : (ji15) < (x4_1.length : Int):=of_decide_eq_true (by (with_reducible assumption))
          obtain ⟨ad187,e187,hx187_0,hx187_1,hx187_2⟩:=at_T67 (Kd.R_reads' HO_4.out).2.2 (ji15) p187 q187
          cases e187
          replace p187:=eq_true p187
          replace q187:=eq_true q187
          refine start_ (n:=12) (S:=fun w'=>w'.cell? ⟨gb186,0,none⟩ = some (.int .u8 ((rd_T67 t184 x14_1).f0)) ∧ w'.cell? ⟨gb186,1,none⟩ = some (.int .u32 ((rd_T67 t184 x14_1).f1)) ∧ w'.cell? ⟨gb186,2,none⟩ = some (.int .u32 ((rd_T67 t184 x14_1).f2)) ∧ w'.cell? (ad187.add (((ji15)).toNat * 3)) = some (.int .u8 ((rd_T67 x4_1 (ji15)).f0)) ∧ w'.cell? ⟨(ad187.add (((ji15)).toNat * 3)).block,(ad187.add (((ji15)).toNat * 3)).off + 1,none⟩ = some (.int .u32 ((rd_T67 x4_1 (ji15)).f1)) ∧ w'.cell? ⟨(ad187.add (((ji15)).toNat * 3)).block,(ad187.add (((ji15)).toNat * 3)).off + 2,none⟩ = some (.int .u32 ((rd_T67 x4_1 (ji15)).f2))) (ds:=[]) #[false,false,false,false,false,false,false,false,false,false,false,false] (by kernel_rfl) rfl rfl ⟨(blk_cell BK186.out 0).trans rfl,(blk_cell BK186.out 1).trans rfl,(blk_cell BK186.out 2).trans rfl,hx187_0,hx187_1,hx187_2⟩ (fun hHeld=>?_);refine with_tabW know_merged.tab8 know_merged.bits8 (fun HT_ HW_=>?_)
          generalize w19.drew = w20 at HO_4 HO_12 BK186 HB hx187_0 hx187_1 hx187_2 hHeld ⊢
          refine pu 0 (some 22) HT_ rfl rfl ?_
          refine pu 1 (some 23) HT_ rfl rfl ?_
          refine pu 2 (some 24) HT_ rfl rfl ?_
          refine pu 3 (some 25) HT_ rfl rfl ?_
          refine pu 4 (some 26) HT_ rfl rfl ?_
          refine pu 5 (some 27) HT_ rfl rfl ?_
          refine ta 6 (some 28) HT_ HW_ hHeld rfl rfl (by rintro w' ⟨s0,s1,s2,s3,s4,s5⟩;go_simp;with_reducible rfl) ?_
          refine ta 7 (some 29) HT_ HW_ hHeld rfl rfl (by rintro w' ⟨s0,s1,s2,s3,s4,s5⟩;go_simp;with_reducible rfl) ?_
          refine one_ (i:=8) (N:=some 30) #[true,true,true,true,true,true,true,true,true,false,false,false] rfl rfl (one_of HT_.out (by kernel_rfl)) (by decide) (fun K hK=>?_)
          refine goes_ Tryz.func85 (by kernel_rfl) rfl #[.agg #[.int .u8 ((rd_T67 x4_1 (ji15)).f0),.int .u32 ((rd_T67 x4_1 (ji15)).f1),.int .u32 ((rd_T67 x4_1 (ji15)).f2)],.agg #[.int .u8 ((rd_T67 t184 x14_1).f0),.int .u32 ((rd_T67 t184 x14_1).f1),.int .u32 ((rd_T67 t184 x14_1).f2)]] (by rfl) rfl rfl (by (try simp only [List.map_toArray,List.map_cons,List.map_nil]);(simp only [hji15];rfl)) ?_
          with_reducible refine (know_apart.calls ((rd_T67 x4_1 (ji15)).f0) ((rd_T67 x4_1 (ji15)).f1) ((rd_T67 x4_1 (ji15)).f2) ((rd_T67 t184 x14_1).f0) ((rd_T67 t184 x14_1).f1) ((rd_T67 t184 x14_1).f2) t188 _ A18.out).mono ?_
          rintro e w21 ⟨rfl,hb⟩
          have HS3_:=(hb.cell (World.block_lt_of_cell? _ _ (hHeld.2.2.2.1))).trans (hHeld.2.2.2.1)
          have HS4_:=(hb.cell (World.block_lt_of_cell? _ _ (hHeld.2.2.2.2.1))).trans (hHeld.2.2.2.2.1)
          have HS5_:=(hb.cell (World.block_lt_of_cell? _ _ (hHeld.2.2.2.2.2))).trans (hHeld.2.2.2.2.2)
          refine ⟨_,rfl,?_⟩
          replace HO_4:=Aside0.mk (Kd.R_below HO_4.out hb)
          replace HO_12:=Aside0.mk (Kd.R_below HO_12.out hb)
          replace BK186:=Aside0.mk (blk_below BK186.out hb)
          replace HB:=Aside0.mk (below_step (by repeat ((with_reducible first | exact HB.out))) hb)
          (try clear hb)
          refine hK.out _ _ ⟨(blk_cell BK186.out 0).trans rfl,(blk_cell BK186.out 1).trans rfl,(blk_cell BK186.out 2).trans rfl,HS3_,HS4_,HS5_⟩ (fun hHeld=>?_)
          clear hK K
          refine no_ (some 30) ?_
          refine pu 9 (some 31) HT_ rfl rfl ?_
          refine pu 10 (some 32) HT_ rfl rfl ?_
          refine pu 11 (some 21) HT_ rfl rfl ?_
          refine done_ (done_of HT_.out (by kernel_rfl)) ?_
          try go_wp2
          go_meet
          case rel=>exact ⟨_,(!t188),(by first | rfl),(by (rw [hji15];exact H')),⟨by have:=HK1.out;first | omega⟩,⟨HO_4.out⟩,⟨HO_12.out⟩,⟨BK186.out⟩,⟨by repeat ((with_reducible first | exact HB.out))⟩⟩
         ·rw [if_neg c17] at H
          exact absurd H (by simp)
        ·rw [if_neg c16] at H
         exact absurd H (by simp)
       ·rw [if_neg c14] at H
        have c14b0 : decide (0 ≤ (wrap64 ((x4_1.length : Int) - 1))) = false:=decide_eq_false c14
        clear c14
        (first | skip)
        have H':=Aside0.mk H
        clear H
        try go_wp2
        have n0_ : Aside0 (Kd.R k67 67 (((w11.setCell ⟨gb186,0,none⟩ (.int .u8 ((rd_T67 t184 x14_1).f0))).setCell ⟨gb186,1,none⟩ (.int .u32 ((rd_T67 t184 x14_1).f1))).setCell ⟨gb186,2,none⟩ (.int .u32 ((rd_T67 t184 x14_1).f2))) w.heap.size (fun k_=>some k_ ≠ (.slice (some ad185) t184.length co5 : Value).ownBlock ∧ k_ ≠ gb186) (.slice Ao13 x4_1.length co13) x4_1):=⟨by (with_reducible skip);exact Kd.R_mono (Kd.R_far (p:=⟨gb186,2,none⟩) (Kd.R_far (p:=⟨gb186,1,none⟩) (Kd.R_far (p:=⟨gb186,0,none⟩) (Kd.R_mono HO_4.out (fun k_ hk=>(⟨hk,hk.2⟩ : _ ∧ k_ ≠ gb186))) (fun _ hk=>hk.2) (.int .u8 ((rd_T67 t184 x14_1).f0))) (fun _ hk=>hk.2) (.int .u32 ((rd_T67 t184 x14_1).f1))) (fun _ hk=>hk.2) (.int .u32 ((rd_T67 t184 x14_1).f2))) (fun _ hk=>⟨hk.1.1,hk.1.2⟩)⟩
        have n1_ : Aside0 (Kd.R k67 67 (((w11.setCell ⟨gb186,0,none⟩ (.int .u8 ((rd_T67 t184 x14_1).f0))).setCell ⟨gb186,1,none⟩ (.int .u32 ((rd_T67 t184 x14_1).f1))).setCell ⟨gb186,2,none⟩ (.int .u32 ((rd_T67 t184 x14_1).f2))) w.heap.size (fun k_=>some k_ ≠ (.slice Ao13 x4_1.length co13 : Value).ownBlock ∧ k_ ≠ gb186) (.slice (some ad185) t184.length co5) t184):=⟨by (with_reducible skip);exact Kd.R_mono (Kd.R_far (p:=⟨gb186,2,none⟩) (Kd.R_far (p:=⟨gb186,1,none⟩) (Kd.R_far (p:=⟨gb186,0,none⟩) (Kd.R_mono HO_12.out (fun k_ hk=>(⟨hk,hk.2⟩ : _ ∧ k_ ≠ gb186))) (fun _ hk=>hk.2) (.int .u8 ((rd_T67 t184 x14_1).f0))) (fun _ hk=>hk.2) (.int .u32 ((rd_T67 t184 x14_1).f1))) (fun _ hk=>hk.2) (.int .u32 ((rd_T67 t184 x14_1).f2))) (fun _ hk=>⟨hk.1.1,hk.1.2⟩)⟩
        have n2_ : Aside0 ((((w11.setCell ⟨gb186,0,none⟩ (.int .u8 ((rd_T67 t184 x14_1).f0))).setCell ⟨gb186,1,none⟩ (.int .u32 ((rd_T67 t184 x14_1).f1))).setCell ⟨gb186,2,none⟩ (.int .u32 ((rd_T67 t184 x14_1).f2))).heap[gb186]? = some (.cells #[.int .u8 ((rd_T67 t184 x14_1).f0),.int .u32 ((rd_T67 t184 x14_1).f1),.int .u32 ((rd_T67 t184 x14_1).f2)] 67 (0,0))):=⟨by (with_reducible skip);refine blk_put (cs:=#[.int .u8 ((rd_T67 t184 x14_1).f0),.int .u32 ((rd_T67 t184 x14_1).f1),.int .u32 0]) ?_ 2 _ rfl;(with_reducible skip);refine blk_put (cs:=#[.int .u8 ((rd_T67 t184 x14_1).f0),.int .u32 0,.int .u32 0]) ?_ 1 _ rfl;(with_reducible skip);refine blk_put (cs:=#[.int .u8 0,.int .u32 0,.int .u32 0]) ?_ 0 _ rfl;(with_reducible skip);exact BK186.out⟩
        have n3_ : Aside0 (Below w.heap.size w (((w11.setCell ⟨gb186,0,none⟩ (.int .u8 ((rd_T67 t184 x14_1).f0))).setCell ⟨gb186,1,none⟩ (.int .u32 ((rd_T67 t184 x14_1).f1))).setCell ⟨gb186,2,none⟩ (.int .u32 ((rd_T67 t184 x14_1).f2)))):=⟨by repeat ((with_reducible first | exact HB.out | refine below_set ?_ GE186.out))⟩
        (try clear HO_4)
        (try clear HO_12)
        (try clear BK186)
        (try clear HB)
        generalize (((w11.setCell ⟨gb186,0,none⟩ (.int .u8 ((rd_T67 t184 x14_1).f0))).setCell ⟨gb186,1,none⟩ (.int .u32 ((rd_T67 t184 x14_1).f1))).setCell ⟨gb186,2,none⟩ (.int .u32 ((rd_T67 t184 x14_1).f2))) = w22 at n0_ n1_ n2_ n3_ ⊢
        have HO_4:=n0_
        have HO_12:=n1_
        have BK186:=n2_
        have HB:=n3_
        clear n0_ n1_ n2_ n3_
        replace HO_4:=Aside0.mk (Kd.R_drew HO_4.out)
        replace HO_12:=Aside0.mk (Kd.R_drew HO_12.out)
        replace BK186:=Aside0.mk (blk_drew BK186.out)
        replace HB:=Aside0.mk (below_drew1 HB.out)
        refine start_ (n:=12) (S:=fun w'=>True) (ds:=[]) #[false,false,false,false,false,false,false,false,false,false,false,false] (by kernel_rfl) rfl rfl trivial (fun hHeld=>?_);refine with_tabW know_merged.tab8 know_merged.bits8 (fun HT_ HW_=>?_)
        generalize w22.drew = w23 at HO_4 HO_12 BK186 HB hHeld ⊢
        refine pu 0 (some 22) HT_ rfl rfl ?_
        refine pu 1 (some 23) HT_ rfl rfl ?_
        refine pu 2 (some 24) HT_ rfl rfl ?_
        refine sk 3 (some 25) HT_ rfl rfl ?_
        refine sk 4 (some 26) HT_ rfl rfl ?_
        refine sk 5 (some 27) HT_ rfl rfl ?_
        refine sk 6 (some 28) HT_ rfl rfl ?_
        refine sk 7 (some 29) HT_ rfl rfl ?_
        refine sk 8 (some 30) HT_ rfl rfl ?_
        refine sk 9 (some 31) HT_ rfl rfl ?_
        refine pu 10 (some 32) HT_ rfl rfl ?_
        refine pu 11 (some 21) HT_ rfl rfl ?_
        refine done_ (done_of HT_.out (by kernel_rfl)) ?_
        try go_wp2
        go_meet
        case rel=>exact ⟨_,(false),(by first | rfl),H',⟨by have:=HK1.out;first | omega⟩,⟨HO_4.out⟩,⟨HO_12.out⟩,⟨BK186.out⟩,⟨by repeat ((with_reducible first | exact HB.out))⟩⟩
      case rest =>
       clear HC10
       clear c7b0 c8b0 c9b0 hcz12_0 hcz12_1 hcz12_2 hfz12_0 hfz12_1 hfz12_2 hx185_0 hx185_1 hx185_2 p185 q185
       obtain ⟨kq,x21_9,rfl,HA,HJ9,HO_4,HO_12,BK186,HB⟩:=hcut
       cases kq with
       | zero=>exact absurd HA.out (by simp [know_merged.j1])
       | succ kj9 =>
        have H:=HA.out
        clear HA
        simp only [know_merged.j1] at H
        by_cases c24 : x21_9 = true
        ·subst c24
         rw [if_pos rfl] at H
         obtain ⟨ji25,hji25⟩ : ∃ j_ : Int,(wrap64 ((x4_1.length : Int) - 1)) = j_:=⟨_,rfl⟩
         replace H : (if 0 ≤ (ji25) then (if (ji25) < (x4_1.length : Int) then (if ((rd_T67 t184 x14_1).f2) ≤ ((rd_T67 x4_1 (ji25)).f2) then (know_merged.l0 kj9 x4_1 t184 (t181.length : Int) (wrap64 (x14_1 + 1))) else (if (ji25) ≤ (x4_1.length : Int) then ((some (x4_1.take ((ji25) : Int).toNat : List (S67))).bind fun y191=>(if y191.length < 11728124029610 then (know_merged.l0 kj9 (y191 ++ [(⟨((rd_T67 t184 x14_1).f0),(rd_T67 x4_1 (ji25)).f1,((rd_T67 t184 x14_1).f2)⟩ : S67)]) t184 (t181.length : Int) (wrap64 (x14_1 + 1))) else (none))) else (none))) else (none)) else (none)) = some (r1,r2):=by (rw [hji25] at H;exact H)
         have hji25w : (IntKind.i64.wrap ((x4_1.length : Int) - 1)) = ji25:=(i64_w _).trans hji25
         by_cases c26 : 0 ≤ (ji25)
         ·rw [if_pos c26] at H
          have c26b0 : decide (0 ≤ (ji25)) = true:=decide_eq_true c26
          clear c26
          by_cases c27 : (ji25) < (x4_1.length : Int)
          ·rw [if_pos c27] at H
           have c27b0 : decide ((ji25) < (x4_1.length : Int)) = true:=decide_eq_true c27
           clear c27
           by_cases c28 : ((rd_T67 t184 x14_1).f2) ≤ ((rd_T67 x4_1 (ji25)).f2)
           ·rw [if_pos c28] at H
            have c28b0 : decide (((rd_T67 t184 x14_1).f2) ≤ ((rd_T67 x4_1 (ji25)).f2)) = true:=decide_eq_true c28
            clear c28
            have H':=Aside0.mk H
            clear H
            try go_wp2
            replace HO_4:=Aside0.mk (Kd.R_drew HO_4.out)
            replace HO_12:=Aside0.mk (Kd.R_drew HO_12.out)
            replace BK186:=Aside0.mk (blk_drew BK186.out)
            replace HB:=Aside0.mk (below_drew1 HB.out)
            have p189 : 0 ≤ ((ji25) : Int):=of_decide_eq_true (by (with_reducible assumption))
            have q189 : (ji25) < (x4_1.length : Int):=of_decide_eq_true (by (with_reducible assumption))
            obtain ⟨ad189,e189,hx189_0,hx189_1,hx189_2⟩:=at_T67 (Kd.R_reads' HO_4.out).2.2 (ji25) p189 q189
            cases e189
            replace p189:=eq_true p189
            replace q189:=eq_true q189
            refine start_ (n:=8) (S:=fun w'=>w'.cell? ⟨gb186,0,none⟩ = some (.int .u8 ((rd_T67 t184 x14_1).f0)) ∧ w'.cell? ⟨gb186,1,none⟩ = some (.int .u32 ((rd_T67 t184 x14_1).f1)) ∧ w'.cell? ⟨gb186,2,none⟩ = some (.int .u32 ((rd_T67 t184 x14_1).f2)) ∧ w'.cell? (ad189.add (((ji25)).toNat * 3)) = some (.int .u8 ((rd_T67 x4_1 (ji25)).f0)) ∧ w'.cell? ⟨(ad189.add (((ji25)).toNat * 3)).block,(ad189.add (((ji25)).toNat * 3)).off + 1,none⟩ = some (.int .u32 ((rd_T67 x4_1 (ji25)).f1)) ∧ w'.cell? ⟨(ad189.add (((ji25)).toNat * 3)).block,(ad189.add (((ji25)).toNat * 3)).off + 2,none⟩ = some (.int .u32 ((rd_T67 x4_1 (ji25)).f2))) (ds:=[]) #[false,false,false,false,false,false,false,false] (by kernel_rfl) rfl rfl ⟨(blk_cell BK186.out 0).trans rfl,(blk_cell BK186.out 1).trans rfl,(blk_cell BK186.out 2).trans rfl,hx189_0,hx189_1,hx189_2⟩ (fun hHeld=>?_);refine with_tabW know_merged.tab9 know_merged.bits9 (fun HT_ HW_=>?_)
            generalize wc.drew = w29 at HO_4 HO_12 BK186 HB hx189_0 hx189_1 hx189_2 hHeld ⊢
            refine pu 0 (some 33) HT_ rfl rfl ?_
            refine pu 2 (some 35) HT_ rfl rfl ?_
            refine pu 3 (some 36) HT_ rfl rfl ?_
            refine pu 4 (some 37) HT_ rfl rfl ?_
            refine pu 5 (some 38) HT_ rfl rfl ?_
            refine ta 1 (some 34) HT_ HW_ hHeld rfl rfl (by rintro w' ⟨s0,s1,s2,s3,s4,s5⟩;go_simp;with_reducible rfl) ?_
            refine ta 6 (some 39) HT_ HW_ hHeld rfl rfl (by rintro w' ⟨s0,s1,s2,s3,s4,s5⟩;go_simp;with_reducible rfl) ?_
            refine pu 7 (some 40) HT_ rfl rfl ?_
            refine done_ (done_of HT_.out (by kernel_rfl)) ?_
            try go_wp2
            (try simp only [← hl12_1])
            go_roundg kj9
            case measure=>have:=HK1.out;have:=HJ9.out;omega
            case rel=>exact ⟨(x4_1),(wrap64 (x14_1 + 1)),(by first | rfl),H',⟨by have:=HK1.out;have:=HJ9.out;omega⟩,⟨by (try simp only [hl12_1]);(with_reducible skip);exact Kd.R_mono HO_4.out (fun _ hk=>hk.1)⟩,⟨by (try simp only [hl12_1]);(with_reducible skip);exact Kd.R_mono HO_12.out (fun _ hk=>hk.1)⟩,⟨by repeat ((with_reducible first | exact HB.out))⟩⟩
           ·rw [if_neg c28] at H
            have c28b0 : decide (((rd_T67 t184 x14_1).f2) ≤ ((rd_T67 x4_1 (ji25)).f2)) = false:=decide_eq_false c28
            clear c28
            by_cases c30 : (ji25) ≤ (x4_1.length : Int)
            ·rw [if_pos c30] at H
             have c30b0:=eq_true c30
             have c30b1 : decide ((ji25) ≤ (x4_1.length : Int)) = true:=decide_eq_true c30
             clear c30
             obtain ⟨y191,hy191⟩ : ∃ y_ : List (S67),y_ = (x4_1.take ((ji25) : Int).toNat):=⟨_,rfl⟩
             replace H : (if y191.length < 11728124029610 then (know_merged.l0 kj9 (y191 ++ [(⟨((rd_T67 t184 x14_1).f0),(rd_T67 x4_1 (ji25)).f1,((rd_T67 t184 x14_1).f2)⟩ : S67)]) t184 (t181.length : Int) (wrap64 (x14_1 + 1))) else (none)) = some (r1,r2):=by (have H2_:=(Option.bind_some _ _).symm.trans H;rw [hy191];with_reducible exact H2_)
             have Ny191:=Aside0.mk hy191
             clear hy191
             by_cases c31 : y191.length < 11728124029610
             ·rw [if_pos c31] at H
              have LMc31:=Aside0.mk c31
              clear c31
              obtain ⟨y194,hy194⟩ : ∃ y_ : List (S67),y_ = (y191 ++ [(⟨((rd_T67 t184 x14_1).f0),(rd_T67 x4_1 (ji25)).f1,((rd_T67 t184 x14_1).f2)⟩ : S67)]):=⟨_,rfl⟩
              replace H : (know_merged.l0 kj9 y194 t184 (t181.length : Int) (wrap64 (x14_1 + 1))) = some (r1,r2):=by (rw [hy194];with_reducible exact H)
              have Ny194:=Aside0.mk hy194
              clear hy194
              have H':=Aside0.mk H
              clear H
              try go_wp2
              replace HO_4:=Aside0.mk (Kd.R_drew HO_4.out)
              replace HO_12:=Aside0.mk (Kd.R_drew HO_12.out)
              replace BK186:=Aside0.mk (blk_drew BK186.out)
              replace HB:=Aside0.mk (below_drew1 HB.out)
              have p189 : 0 ≤ ((ji25) : Int):=of_decide_eq_true (by (with_reducible assumption))
              have q189 : (ji25) < (x4_1.length : Int):=of_decide_eq_true (by (with_reducible assumption))
              obtain ⟨ad189,e189,hx189_0,hx189_1,hx189_2⟩:=at_T67 (Kd.R_reads' HO_4.out).2.2 (ji25) p189 q189
              cases e189
              replace p189:=eq_true p189
              replace q189:=eq_true q189
              refine start_ (n:=8) (S:=fun w'=>w'.cell? ⟨gb186,0,none⟩ = some (.int .u8 ((rd_T67 t184 x14_1).f0)) ∧ w'.cell? ⟨gb186,1,none⟩ = some (.int .u32 ((rd_T67 t184 x14_1).f1)) ∧ w'.cell? ⟨gb186,2,none⟩ = some (.int .u32 ((rd_T67 t184 x14_1).f2)) ∧ w'.cell? (ad189.add (((ji25)).toNat * 3)) = some (.int .u8 ((rd_T67 x4_1 (ji25)).f0)) ∧ w'.cell? ⟨(ad189.add (((ji25)).toNat * 3)).block,(ad189.add (((ji25)).toNat * 3)).off + 1,none⟩ = some (.int .u32 ((rd_T67 x4_1 (ji25)).f1)) ∧ w'.cell? ⟨(ad189.add (((ji25)).toNat * 3)).block,(ad189.add (((ji25)).toNat * 3)).off + 2,none⟩ = some (.int .u32 ((rd_T67 x4_1 (ji25)).f2))) (ds:=[]) #[false,false,false,false,false,false,false,false] (by kernel_rfl) rfl rfl ⟨(blk_cell BK186.out 0).trans rfl,(blk_cell BK186.out 1).trans rfl,(blk_cell BK186.out 2).trans rfl,hx189_0,hx189_1,hx189_2⟩ (fun hHeld=>?_);refine with_tabW know_merged.tab9 know_merged.bits9 (fun HT_ HW_=>?_)
              generalize wc.drew = w32 at HO_4 HO_12 BK186 HB hx189_0 hx189_1 hx189_2 hHeld ⊢
              refine pu 0 (some 33) HT_ rfl rfl ?_
              refine pu 2 (some 35) HT_ rfl rfl ?_
              refine pu 3 (some 36) HT_ rfl rfl ?_
              refine pu 4 (some 37) HT_ rfl rfl ?_
              refine pu 5 (some 38) HT_ rfl rfl ?_
              refine ta 1 (some 34) HT_ HW_ hHeld rfl rfl (by rintro w' ⟨s0,s1,s2,s3,s4,s5⟩;go_simp;with_reducible rfl) ?_
              refine ta 6 (some 39) HT_ HW_ hHeld rfl rfl (by rintro w' ⟨s0,s1,s2,s3,s4,s5⟩;go_simp;with_reducible rfl) ?_
              refine pu 7 (some 40) HT_ rfl rfl ?_
              refine done_ (done_of HT_.out (by kernel_rfl)) ?_
              have p190 : 0 ≤ ((ji25) : Int):=of_decide_eq_true (by (with_reducible assumption))
              have q190 : (ji25) < (x4_1.length : Int):=of_decide_eq_true (by (with_reducible assumption))
              obtain ⟨ad190,e190,hx190_0,hx190_1,hx190_2⟩:=at_T67 (Kd.R_reads' HO_4.out).2.2 (ji25) p190 q190
              obtain rfl : ad189 = ad190:=(by injection e190)
              replace p190:=eq_true p190
              replace q190:=eq_true q190
              obtain ⟨hcz33_0,hcz33_1,hcz33_2⟩:=cells3 BK186.out
              obtain ⟨hfz33_0,hfz33_1,hfz33_2,_,_,_,_,_,_,_,_,_,_⟩:=frz13 BK186.out
              try go_wp2_with (first | ((with_reducible refine gate_store (t:=22) (p:=46) rfl ?_);refine store_event (t:=22) (p:=46) (v:=?vo_w34) (w1:=(w32.setCell ⟨gb186,1,none⟩ (.int .u32 ((rd_T67 x4_1 (ji25)).f1)))) ?hg ?ho ?hn ?hr ?_;(case ho=>rfl);(case hg=>rfl);(case hn=>rfl);(case hr=>(go_simp;done));intro w34 hw;have n0_ : Aside0 (Kd.R k67 67 w34 w.heap.size (fun k_=>some k_ ≠ (.slice (some ad185) t184.length co5 : Value).ownBlock ∧ k_ ≠ gb186) (.slice (some ad189) x4_1.length co13) x4_1):=⟨(by rw [hw];exact (by (with_reducible skip);exact Kd.R_mono (Kd.R_far (p:=⟨gb186,1,none⟩) (Kd.R_mono HO_4.out (fun k_ hk=>(⟨hk,hk.2⟩ : _ ∧ k_ ≠ gb186))) (fun _ hk=>hk.2) (.int .u32 ((rd_T67 x4_1 (ji25)).f1))) (fun _ hk=>⟨hk.1.1,hk.1.2⟩)))⟩;have n1_ : Aside0 (Kd.R k67 67 w34 w.heap.size (fun k_=>some k_ ≠ (.slice (some ad189) x4_1.length co13 : Value).ownBlock ∧ k_ ≠ gb186) (.slice (some ad185) t184.length co5) t184):=⟨(by rw [hw];exact (by (with_reducible skip);exact Kd.R_mono (Kd.R_far (p:=⟨gb186,1,none⟩) (Kd.R_mono HO_12.out (fun k_ hk=>(⟨hk,hk.2⟩ : _ ∧ k_ ≠ gb186))) (fun _ hk=>hk.2) (.int .u32 ((rd_T67 x4_1 (ji25)).f1))) (fun _ hk=>⟨hk.1.1,hk.1.2⟩)))⟩;have n2_ : Aside0 (w34.heap[gb186]? = some (.cells #[.int .u8 ((rd_T67 t184 x14_1).f0),.int .u32 ((rd_T67 x4_1 (ji25)).f1),.int .u32 ((rd_T67 t184 x14_1).f2)] 67 (0,0))):=⟨(by rw [hw];exact (by (with_reducible skip);refine blk_put (cs:=#[.int .u8 ((rd_T67 t184 x14_1).f0),.int .u32 ((rd_T67 t184 x14_1).f1),.int .u32 ((rd_T67 t184 x14_1).f2)]) ?_ 1 _ rfl;(with_reducible skip);exact BK186.out))⟩;have n3_ : Aside0 (Below w.heap.size w w34):=⟨(by rw [hw];exact (by repeat ((with_reducible first | exact HB.out | refine below_set ?_ GE186.out))))⟩;clear hw HO_4 HO_12 BK186 HB;have HO_4:=n0_;have HO_12:=n1_;have BK186:=n2_;have HB:=n3_;clear n0_ n1_ n2_ n3_;have q35 : ((ji25) : Int) ≤ ((x4_1.length : Int) : Int):=of_decide_eq_true (by (with_reducible assumption));obtain ⟨i035,hi035,_,hsz35,_⟩:=info_parts info67;have hcut35:=cut_to (P:=Tryz.prog) 23 67 .i64 Tryz.underlying23 hi035 (some ad189) x4_1.length co13 (ji25) (of_decide_eq_true (by (with_reducible assumption))) q35 (Kd.R_reads' HO_4.out).2.1;have hr35:=Kd.R_take (m:=((ji25) : Int).toNat) HO_4.out (by omega);have hy35 : y191.length = ((ji25) : Int).toNat:=(by rw [Ny191.out,List.length_take];omega);rw [← Ny191.out] at hr35;rw [← hy35] at hr35 hcut35;clear hy35 hi035 hsz35 HO_4;have HO193:=Aside0.mk hr35;clear hr35;replace q35:=eq_true q35;obtain ⟨hcz36_0,hcz36_1,hcz36_2⟩:=cells3 BK186.out;obtain ⟨hfz36_0,hfz36_1,hfz36_2,_,_,_,_,_,_,_,_,_,_⟩:=frz13 BK186.out) | ((with_reducible refine gate_builtin (b:=.append) (xs:=#[.tmp 50,.tmp 52]) rfl ?_);at_builtin;refine Kd.R_append k67 (w0:=w) w.heap.size rfl (.tmp 50) (.tmp 52) 23 67 (.agg #[(.int .u8 0),(.int .u32 0),(.int .u32 0)]) 12 rfl Tryz.underlying23 info67 rfl (by decide) (by omega) (.slice (some ad189) y191.length co13) y191 (⟨((rd_T67 t184 x14_1).f0),(rd_T67 x4_1 (ji25)).f1,((rd_T67 t184 x14_1).f2)⟩ : S67) [.int .u8 ((rd_T67 t184 x14_1).f0),.int .u32 ((rd_T67 x4_1 (ji25)).f1),.int .u32 ((rd_T67 t184 x14_1).f2)] (fun k_=>some k_ ≠ (.slice (some ad185) t184.length co5 : Value).ownBlock ∧ k_ ≠ gb186) (fun _=>False) rfl rfl ?aP (fun _ hk=>hk.elim) ?aF ?aO ?aB ?aS ?aL ?_;(case aP=>exact k67_mkM _ _ _ (⟨((rd_T67 t184 x14_1).f0),(rd_T67 x4_1 (ji25)).f1,((rd_T67 t184 x14_1).f2)⟩ : S67));(case aB=>exact (by repeat ((with_reducible first | exact HB.out))));(case aF=>exact (fun k_ hk=>⟨Kd.fresh' (Kd.R_lt HO_12.out) k_ hk,Kd.freshB (g:=gb186) (o:=.cells #[.int .u8 ((rd_T67 t184 x14_1).f0),.int .u32 ((rd_T67 x4_1 (ji25)).f1),.int .u32 ((rd_T67 t184 x14_1).f2)] 67 (0,0)) BK186.out k_ hk⟩));(case aO=>exact HO193.out);(case aS=>exact (below_size (by repeat ((with_reducible first | exact HB.out)))));(case aL=>have:=LMc31.out;omega);intro v195 w37 ho hb hg hat;rw [← Ny194.out] at ho;have n0_:=Aside0.mk (Kd.R_after (ok:=(fun k_=>k_ ≠ gb186)) (by (with_reducible skip);exact Kd.R_mono HO_12.out (fun _ hk=>⟨hk.2,hk.1⟩)) hg hat);have n1_:=Aside0.mk (blk_grown (g:=gb186) (o:=.cells #[.int .u8 ((rd_T67 t184 x14_1).f0),.int .u32 ((rd_T67 x4_1 (ji25)).f1),.int .u32 ((rd_T67 t184 x14_1).f2)] 67 (0,0)) BK186.out hg (Kd.R_away HO193.out (fun _ hk=>hk.2)));have n2_:=Aside0.mk (hb);have n3_:=Aside0.mk (ho);clear HO_12 BK186 HB HO193;have HO_12:=n0_;have BK186:=n1_;have HB:=n2_;have HO196:=n3_;clear n0_ n1_ n2_ n3_ ho hb hg hat))
              (try simp only [← hl12_1])
              go_roundg kj9
              case measure=>have:=HK1.out;have:=HJ9.out;omega
              case rel=>exact ⟨(y194),(wrap64 (x14_1 + 1)),(by first | rfl),H',⟨by have:=HK1.out;have:=HJ9.out;omega⟩,⟨by (try simp only [hl12_1]);(with_reducible skip);exact Kd.R_mono HO196.out (fun _ hk=>hk.1)⟩,⟨by (try simp only [hl12_1]);(with_reducible skip);exact Kd.R_mono HO_12.out (fun _ hk=>hk.2)⟩,⟨by repeat ((with_reducible first | exact HB.out))⟩⟩
             ·rw [if_neg c31] at H
              exact absurd H (by simp)
            ·rw [if_neg c30] at H
             exact absurd H (by simp)
          ·rw [if_neg c27] at H
           exact absurd H (by simp)
         ·rw [if_neg c26] at H
          exact absurd H (by simp)
        ·replace c24:=Bool.eq_false_iff.mpr c24
         subst c24
         rw [if_neg (show ¬ (false = true) by decide)] at H
         by_cases c38 : x4_1.length < 11728124029610
         ·rw [if_pos c38] at H
          have LMc38:=Aside0.mk c38
          clear c38
          obtain ⟨y197,hy197⟩ : ∃ y_ : List (S67),y_ = (x4_1 ++ [(⟨((rd_T67 t184 x14_1).f0),((rd_T67 t184 x14_1).f1),((rd_T67 t184 x14_1).f2)⟩ : S67)]):=⟨_,rfl⟩
          replace H : (know_merged.l0 kj9 y197 t184 (t181.length : Int) (wrap64 (x14_1 + 1))) = some (r1,r2):=by (rw [hy197];with_reducible exact H)
          have Ny197:=Aside0.mk hy197
          clear hy197
          have H':=Aside0.mk H
          clear H
          obtain ⟨hcz39_0,hcz39_1,hcz39_2⟩:=cells3 BK186.out
          obtain ⟨hfz39_0,hfz39_1,hfz39_2,_,_,_,_,_,_,_,_,_,_⟩:=frz13 BK186.out
          go_wp2_with (((with_reducible refine gate_builtin (b:=.append) (xs:=#[.tmp 50,.tmp 52]) rfl ?_);at_builtin;refine Kd.R_append k67 (w0:=w) w.heap.size rfl (.tmp 50) (.tmp 52) 23 67 (.agg #[(.int .u8 0),(.int .u32 0),(.int .u32 0)]) 12 rfl Tryz.underlying23 info67 rfl (by decide) (by omega) (.slice Ao13 x4_1.length co13) x4_1 (⟨((rd_T67 t184 x14_1).f0),((rd_T67 t184 x14_1).f1),((rd_T67 t184 x14_1).f2)⟩ : S67) [.int .u8 ((rd_T67 t184 x14_1).f0),.int .u32 ((rd_T67 t184 x14_1).f1),.int .u32 ((rd_T67 t184 x14_1).f2)] (fun k_=>some k_ ≠ (.slice (some ad185) t184.length co5 : Value).ownBlock ∧ k_ ≠ gb186) (fun _=>False) rfl rfl ?aP (fun _ hk=>hk.elim) ?aF ?aO ?aB ?aS ?aL ?_;(case aP=>exact k67_mkM _ _ _ (⟨((rd_T67 t184 x14_1).f0),((rd_T67 t184 x14_1).f1),((rd_T67 t184 x14_1).f2)⟩ : S67));(case aB=>exact (by repeat ((with_reducible first | exact HB.out))));(case aF=>exact (fun k_ hk=>⟨Kd.fresh' (Kd.R_lt HO_12.out) k_ hk,Kd.freshB (g:=gb186) (o:=.cells #[.int .u8 ((rd_T67 t184 x14_1).f0),.int .u32 ((rd_T67 t184 x14_1).f1),.int .u32 ((rd_T67 t184 x14_1).f2)] 67 (0,0)) BK186.out k_ hk⟩));(case aO=>exact HO_4.out);(case aS=>exact (below_size (by repeat ((with_reducible first | exact HB.out)))));(case aL=>have:=LMc38.out;omega);intro v198 w40 ho hb hg hat;rw [← Ny197.out] at ho;have n0_:=Aside0.mk (Kd.R_after (ok:=(fun k_=>k_ ≠ gb186)) (by (with_reducible skip);exact Kd.R_mono HO_12.out (fun _ hk=>⟨hk.2,hk.1⟩)) hg hat);have n1_:=Aside0.mk (blk_grown (g:=gb186) (o:=.cells #[.int .u8 ((rd_T67 t184 x14_1).f0),.int .u32 ((rd_T67 t184 x14_1).f1),.int .u32 ((rd_T67 t184 x14_1).f2)] 67 (0,0)) BK186.out hg (Kd.R_away HO_4.out (fun _ hk=>hk.2)));have n2_:=Aside0.mk (hb);have n3_:=Aside0.mk (ho);clear HO_12 BK186 HB HO_4;have HO_12:=n0_;have BK186:=n1_;have HB:=n2_;have HO199:=n3_;clear n0_ n1_ n2_ n3_ ho hb hg hat))
          (try simp only [← hl12_1])
          go_roundg kj9
          case measure=>have:=HK1.out;have:=HJ9.out;omega
          case rel=>exact ⟨(y197),(wrap64 (x14_1 + 1)),(by first | rfl),H',⟨by have:=HK1.out;have:=HJ9.out;omega⟩,⟨by (try simp only [hl12_1]);(with_reducible skip);exact Kd.R_mono HO199.out (fun _ hk=>hk.1)⟩,⟨by (try simp only [hl12_1]);(with_reducible skip);exact Kd.R_mono HO_12.out (fun _ hk=>hk.2)⟩,⟨by repeat ((with_reducible first | exact HB.out))⟩⟩
         ·rw [if_neg c38] at H
          exact absurd H (by simp)
     ·rw [if_neg c9] at H
      exact absurd H (by simp)
    ·rw [if_neg c8] at H
     exact absurd H (by simp)
   ·rw [if_neg c7] at H
    have c7b0 : decide (x14_1 < (t181.length : Int)) = false:=decide_eq_false c7
    (try rw [hl12_1] at c7b0)
    clear c7
    by_cases c41 : (x4_1.length : Int) > 64
    ·rw [if_pos c41] at H
     have c41b0 : decide (64 < (x4_1.length : Int)) = true:=decide_eq_true c41
     have c41b1 : decide (64 < x4_1.length) = true:=decide_eq_true (by omega)
     clear c41
     simp only [Option.some.injEq,Prod.mk.injEq] at H
     obtain ⟨rfl,rfl⟩:=H
     obtain ⟨Ao42,co42,eo42⟩:=Kd.R_slice HO_4.out
     subst eo42
     go_wp2
     go_ret2
     exact ⟨_,by first | rfl,by first | exact Kd.R_nil _ _ _ _ _,by repeat ((with_reducible first | exact HB.out))⟩
    ·rw [if_neg c41] at H
     have c41b0 : decide (64 < (x4_1.length : Int)) = false:=decide_eq_false c41
     have c41b1 : decide (64 < x4_1.length) = false:=decide_eq_false (by omega)
     clear c41
     simp only [Option.some.injEq,Prod.mk.injEq] at H
     obtain ⟨rfl,rfl⟩:=H
     obtain ⟨Ao43,co43,eo43⟩:=Kd.R_slice HO_4.out
     subst eo43
     go_wp2
     go_ret2
     exact ⟨_,by first | rfl,by (with_reducible skip);exact Kd.R_mono HO_4.out (fun _ hk=>trivial),by repeat ((with_reducible first | exact HB.out))⟩
end Go.Proofs.YtiminjibcafkaaaGreatDoor.X
