-- MADE BY wip/prx.py (the kit's printer, with contracts proved by hand). Not trusted: Lean checks it.
import Derived.Test.YtiminjibcafkaaaGreatDoorTBJ5
import Derived.Test.YtiminjibcafkaaaGreatDoorTBJ4
import Derived.Test.YtiminjibcafkaaaGreatDoorTBX5
import Derived.Test.YtiminjibcafkaaaGreatDoorTBJ13
import Derived.Test.YtiminjibcafkaaaGreatDoorTBX15
namespace Go.Proofs.YtiminjibcafkaaaGreatDoor.X
open Go.RowKit Go.Proofs.YtiminjibcafkaaaGreatDoorW.PrintWords Go.Proofs.YtiminjibcafkaaaGreatDoorW.PrintLast Go.Proofs.YtiminjibcafkaaaGreatDoorW.PrintMore
attribute [local go_sem] max2_int min2_int max_two min_two max_three min_three max_four min_four   -- for this text's walks alone
set_option linter.unusedVariables false
set_option linter.unusedSimpArgs false
/-! ### know_Add: function 77 -/
def know_Add.j0 : Nat → List (S67) → Bool → Int → Int → Int → Option ((List (S67)) × Option Int)
 | 0,_,_,_,_,_=>none
 | k + 1,x0,x20,x201000,x201001,x201002=>if x20 = true then (some (([] : List (S67)),some 9)) else ((slices_Clone_Run.f x0).bind fun t203=>((some (([(⟨x201000,x201001,x201002⟩ : S67)] : List (S67)) : List (S67))).bind fun y206=>(if t203.length + y206.length < 11728124029610 then ((know_merged.f k (t203 ++ y206)).bind fun bt212=>(some (bt212.1,bt212.2))) else (none))))
def know_Add.f (k : Nat) (l0 : List (S67)) (a1 : Int) (a2 : Int) : Option ((List (S67)) × Option Int):=(know_Right.f k l0).bind fun t201=>(if t201 = true then ((know_run.f a1 a2 a2).bind fun t202=>(know_Add.j0 k l0 (!t202) a1 a2 a2)) else (know_Add.j0 k l0 true a1 a2 a2))
def know_Add.T4 : Bool × List (List Nat × List Nat):=(true,[([],[]),([0],[0]),([],[]),([2],[2]),([1,3,1],[1,3]),([4,4],[4]),([5],[5]),([5],[5]),([6,5,0,1,2,3,4,5,6,7],[6]),([7,8,0,1,2,3,4,5,6,7,8],[7])])
def know_Add.B4 : List Nat:=[0,1,0,4,15,31,63,63,255,511]
theorem know_Add.tab4 : rtab .any (opsOf Tryz.f77 4) = know_Add.T4:=by kernel_rfl
theorem know_Add.bits4 : waitsOk know_Add.T4.2 know_Add.B4 = true:=by kernel_rfl
set_option maxHeartbeats 8000000 in
set_option maxRecDepth 100000 in
theorem know_Add.calls (k : Nat) (A0 : Option Addr) (c0 : Nat) (l0 : List (S67)) (a1 : Int) (a2 : Int) (r1 : List (S67)) (r2 : Option Int) (w : World) (hr0 : Kd.C k67 w A0 l0.length l0) (hc0 : l0.length ≤ c0) (h : know_Add.f k l0 a1 a2 = some (r1,r2)) :
 Calls Tryz.prog 77 #[.slice A0 l0.length c0,.int .u8 a1,.int .u32 a2] w fun e w'=>∃ v0_ : Value,e = .returned (.tuple #[v0_,errW r2]) ∧ Kd.R k67 67 w' w.heap.size (fun _=>True) v0_ r1 ∧ Below w.heap.size w w':=by
 have hu67:=Tryz.underlying67
 have hu35:=Tryz.underlying35
 have hu70:=Tryz.underlying70
 have HR0:=Aside0.mk hr0
 have HC0:=Aside0.mk hc0
 clear hr0 hc0
 have HB:=Aside0.mk (Below.refl w.heap.size w)
 have H : ((know_Right.f k l0).bind fun t201=>(if t201 = true then ((know_run.f a1 a2 a2).bind fun t202=>(know_Add.j0 k l0 (!t202) a1 a2 a2)) else (know_Add.j0 k l0 true a1 a2 a2))) = some (r1,r2):=h
 clear h
 have HC4:=Aside0.mk H
 clear H
 go_enter Tryz.func77,Tryz.ntmps77
 go_upto_region 2 with (((with_reducible refine gate_dst (N:=8) rfl ?_);refine box_event ?hg (N:=8) ?hd (cs:=#[.int .u8 0,.int .u32 0,.int .u32 0]) (t:=67) ?hr ?_;(case hd=>rfl);(case hg=>rfl);(case hr=>(go_simp;done));intro gb200 hg w5 hbox hb;have n0_:=Aside0.mk (below_step (by repeat ((with_reducible first | exact HB.out))) hb);have n1_:=Aside0.mk (hbox);have n2_:=Aside0.mk ((by rw [hg];exact (below_size (by repeat ((with_reducible first | exact HB.out)))) : w.heap.size ≤ gb200));have n3_:=Aside0.mk ((by rw [hg];exact (below_size (by repeat ((with_reducible first | exact HB.out)))) : w.heap.size ≤ gb200));clear HB;have HB:=n0_;have BK200:=n1_;have GW200:=n2_;have GE200:=n3_;clear n0_ n1_ n2_ n3_ hb hbox hg;obtain ⟨hcz6_0,hcz6_1,hcz6_2⟩:=cells3 BK200.out;obtain ⟨hfz6_0,hfz6_1,hfz6_2,_,_,_,_,_,_,_,_,_,_⟩:=frz13 BK200.out))
 go_cut [20] (fun v20 wc=>∃ (kq : Nat) (x20_3 : Bool),v20 = .bool x20_3 ∧ Aside0 (know_Add.j0 kq l0 x20_3 a1 a2 a2 = some (r1,r2)) ∧ Aside0 (kq ≤ k) ∧ Aside0 (wc.heap[gb200]? = some (.cells #[.int .u8 a1,.int .u32 a2,.int .u32 a2] 67 (0,0))) ∧ Aside0 (Below w.heap.size w wc))
 case first =>
  have H:=HC4.out
  clear HC4
  replace H:=Option.bind_eq_some_iff.mp H
  obtain ⟨t201,A70,H⟩:=H
  have A7:=Aside0.mk A70
  clear A70
  by_cases c8 : t201 = true
  ·subst c8
   rw [if_pos rfl] at H
   replace H:=Option.bind_eq_some_iff.mp H
   obtain ⟨t202,A90,H⟩:=H
   have A9:=Aside0.mk A90
   clear A90
   have H':=Aside0.mk H
   clear H
   go_wp2_with (first | ((with_reducible refine gate_callee (f:=50) rfl ?_);refine goesL_ (some 14) rfl rfl Tryz.func50 (by kernel_rfl) rfl #[.slice A0 l0.length c0] rfl (by (try simp only [List.map_toArray,List.map_cons,List.map_nil]);first | rfl) ?_;(with_reducible refine (know_Right.calls k _ _ l0 true _ ?side1 ?side2 A7.out).mono ?_);(case side1=>exact Kd.C_below HR0.out (by repeat ((with_reducible first | exact HB.out | refine below_set ?_ GE200.out))));(case side2=>exact HC0.out);rintro e w10 ⟨rfl,hb⟩;refine ⟨_,rfl,?_⟩;replace BK200:=Aside0.mk (blk_below (g:=gb200) (o:=.cells #[.int .u8 a1,.int .u32 a2,.int .u32 a2] 67 (0,0)) (by (with_reducible skip);refine blk_put (cs:=#[.int .u8 a1,.int .u32 a2,.int .u32 0]) ?_ 2 _ rfl;(with_reducible skip);refine blk_put (cs:=#[.int .u8 a1,.int .u32 0,.int .u32 0]) ?_ 1 _ rfl;(with_reducible skip);refine blk_put (cs:=#[.int .u8 0,.int .u32 0,.int .u32 0]) ?_ 0 _ rfl;(with_reducible skip);exact BK200.out) hb);replace HB:=Aside0.mk (below_step (by repeat ((with_reducible first | exact HB.out | refine below_set ?_ GE200.out))) hb);(try clear hb);obtain ⟨hcz11_0,hcz11_1,hcz11_2⟩:=cells3 BK200.out;obtain ⟨hfz11_0,hfz11_1,hfz11_2,_,_,_,_,_,_,_,_,_,_⟩:=frz13 BK200.out) | (go_at_call 84;(with_reducible refine (know_run.calls a1 a2 a2 t202 _ A9.out).mono ?_);rintro e w12 ⟨rfl,hb⟩;replace BK200:=Aside0.mk (blk_below BK200.out hb);replace HB:=Aside0.mk (below_step (by repeat ((with_reducible first | exact HB.out))) hb);(try clear hb)))
   go_meet
   case rel=>exact ⟨_,(!t202),(by first | rfl),H',⟨by first | omega⟩,⟨BK200.out⟩,⟨by repeat ((with_reducible first | exact HB.out))⟩⟩
  ·replace c8:=Bool.eq_false_iff.mpr c8
   subst c8
   rw [if_neg (show ¬ (false = true) by decide)] at H
   have H':=Aside0.mk H
   clear H
   go_wp2_with (((with_reducible refine gate_callee (f:=50) rfl ?_);refine goesL_ (some 14) rfl rfl Tryz.func50 (by kernel_rfl) rfl #[.slice A0 l0.length c0] rfl (by (try simp only [List.map_toArray,List.map_cons,List.map_nil]);first | rfl) ?_;(with_reducible refine (know_Right.calls k _ _ l0 false _ ?side1 ?side2 A7.out).mono ?_);(case side1=>exact Kd.C_below HR0.out (by repeat ((with_reducible first | exact HB.out | refine below_set ?_ GE200.out))));(case side2=>exact HC0.out);rintro e w13 ⟨rfl,hb⟩;refine ⟨_,rfl,?_⟩;replace BK200:=Aside0.mk (blk_below (g:=gb200) (o:=.cells #[.int .u8 a1,.int .u32 a2,.int .u32 a2] 67 (0,0)) (by (with_reducible skip);refine blk_put (cs:=#[.int .u8 a1,.int .u32 a2,.int .u32 0]) ?_ 2 _ rfl;(with_reducible skip);refine blk_put (cs:=#[.int .u8 a1,.int .u32 0,.int .u32 0]) ?_ 1 _ rfl;(with_reducible skip);refine blk_put (cs:=#[.int .u8 0,.int .u32 0,.int .u32 0]) ?_ 0 _ rfl;(with_reducible skip);exact BK200.out) hb);replace HB:=Aside0.mk (below_step (by repeat ((with_reducible first | exact HB.out | refine below_set ?_ GE200.out))) hb);(try clear hb)))
   go_meet
   case rel=>exact ⟨_,(true),(by first | rfl),H',⟨by first | omega⟩,⟨BK200.out⟩,⟨by repeat ((with_reducible first | exact HB.out))⟩⟩
 case rest =>
  clear HC4
  clear hcz6_0 hcz6_1 hcz6_2 hfz6_0 hfz6_1 hfz6_2
  obtain ⟨kq,x20_3,rfl,HA,HJ3,BK200,HB⟩:=hcut
  cases kq with
  | zero=>exact absurd HA.out (by simp [know_Add.j0])
  | succ kj3 =>
   have H:=HA.out
   clear HA
   simp only [know_Add.j0] at H
   by_cases c14 : x20_3 = true
   ·subst c14
    rw [if_pos rfl] at H
    simp only [Option.some.injEq,Prod.mk.injEq] at H
    obtain ⟨rfl,rfl⟩:=H
    go_wp2
    go_ret2
    exact ⟨_,by first | rfl,by first | exact Kd.R_nil _ _ _ _ _,by repeat ((with_reducible first | exact HB.out))⟩
   ·replace c14:=Bool.eq_false_iff.mpr c14
    subst c14
    rw [if_neg (show ¬ (false = true) by decide)] at H
    replace H:=Option.bind_eq_some_iff.mp H
    obtain ⟨t203,A150,H⟩:=H
    have A15:=Aside0.mk A150
    clear A150
    obtain ⟨y206,hy206⟩ : ∃ y_ : List (S67),y_ = (([(⟨a1,a2,a2⟩ : S67)] : List (S67))):=⟨_,rfl⟩
    replace H : (if t203.length + y206.length < 11728124029610 then ((know_merged.f kj3 (t203 ++ y206)).bind fun bt212=>(some (bt212.1,bt212.2))) else (none)) = some (r1,r2):=by (have H2_:=(Option.bind_some _ _).symm.trans H;rw [hy206];with_reducible exact H2_)
    have Ny206:=Aside0.mk hy206
    clear hy206
    by_cases c16 : t203.length + y206.length < 11728124029610
    ·rw [if_pos c16] at H
     have LMc16:=Aside0.mk c16
     clear c16
     obtain ⟨y209,hy209⟩ : ∃ y_ : List (S67),y_ = (t203 ++ y206):=⟨_,rfl⟩
     replace H : ((know_merged.f kj3 y209).bind fun bt212=>(some (bt212.1,bt212.2))) = some (r1,r2):=by (rw [hy209];with_reducible exact H)
     have Ny209:=Aside0.mk hy209
     clear hy209
     replace H:=Option.bind_eq_some_iff.mp H
     obtain ⟨⟨t212,t213⟩,A170,H⟩:=H
     have A17:=Aside0.mk A170
     clear A170
     simp only [Option.some.injEq,Prod.mk.injEq] at H
     obtain ⟨rfl,rfl⟩:=H
     try go_wp2
     replace BK200:=Aside0.mk (blk_drew BK200.out)
     replace HB:=Aside0.mk (below_drew1 HB.out)
     refine start_ (n:=10) (S:=fun w'=>w'.cell? ⟨gb200,0,none⟩ = some (.int .u8 a1) ∧ w'.cell? ⟨gb200,1,none⟩ = some (.int .u32 a2) ∧ w'.cell? ⟨gb200,2,none⟩ = some (.int .u32 a2)) (ds:=[]) #[false,false,false,false,false,false,false,false,false,false] (by kernel_rfl) rfl rfl ⟨(blk_cell BK200.out 0).trans rfl,(blk_cell BK200.out 1).trans rfl,(blk_cell BK200.out 2).trans rfl⟩ (fun hHeld=>?_);refine with_tabW know_Add.tab4 know_Add.bits4 (fun HT_ HW_=>?_)
     generalize wc.drew = w18 at BK200 HB hHeld ⊢
     refine pu 0 (some 22) HT_ rfl rfl ?_
     refine ta 2 (some 24) HT_ HW_ hHeld rfl rfl (by rintro w' ⟨s0,s1,s2⟩;go_simp;with_reducible rfl) ?_
     refine join_ (σ:=Value × Value) 6 #[true,true,true,true,false,false,false,false,false,false] (fun s_=>[(23,s_.1),(25,s_.2)]) (fun s_ w'=>(w'.cell? ⟨gb200,0,none⟩ = some (.int .u8 a1) ∧ w'.cell? ⟨gb200,1,none⟩ = some (.int .u32 a2) ∧ w'.cell? ⟨gb200,2,none⟩ = some (.int .u32 a2)) ∧ (Kd.R k67 67 w' w.heap.size (fun k_=>some k_ ≠ (s_.2 : Value).ownBlock ∧ k_ ≠ gb200) s_.1 t203) ∧ (Kd.R k67 67 w' w.heap.size (fun k_=>some k_ ≠ (s_.1 : Value).ownBlock ∧ k_ ≠ gb200) s_.2 y206) ∧ (w'.heap[gb200]? = some (.cells #[.int .u8 a1,.int .u32 a2,.int .u32 a2] 67 (0,0))) ∧ (Below w.heap.size w w')) ?_ ?_
     rotate_left
     ·intro hCont
      refine two_ (i:=1) (j:=3) (Ni:=some 23) (Nj:=some 25) #[true,true,true,false,false,false,false,false,false,false] #[true,false,true,true,false,false,false,false,false,false] rfl rfl rfl rfl (two_of HT_.out (by kernel_rfl)) (by decide) (by decide) (fun K hK=>?_) (fun K hK=>?_)
      ·skip
       refine goes_ Tryz.func36 (by kernel_rfl) rfl #[.slice A0 l0.length c0] (by rfl) rfl rfl (by (try simp only [List.map_toArray,List.map_cons,List.map_nil]);first | rfl) ?_
       with_reducible refine (slices_Clone_Run.calls _ _ l0 t203 _ ?side1 ?side2 A15.out).mono ?_
       (case side1=>repeat (first | exact (Kd.C_below HR0.out HB.out)))
       (case side2=>exact HC0.out)
       rintro e w19 ⟨v204,rfl,ho0,hb⟩
       refine ⟨_,rfl,?_⟩
       have n0_:=Aside0.mk (Kd.R_lower (Kd.R_newB ho0 (g:=gb200) (o:=.cells #[.int .u8 a1,.int .u32 a2,.int .u32 a2] 67 (0,0)) BK200.out) (below_size (by repeat ((with_reducible first | exact HB.out)))))
       have n1_:=Aside0.mk (blk_below BK200.out hb)
       have n2_:=Aside0.mk (below_step (by repeat ((with_reducible first | exact HB.out))) hb)
       clear BK200 HB
       have HO205:=n0_
       have BK200:=n1_
       have HB:=n2_
       clear n0_ n1_ n2_
       (try clear hb)
       (try clear ho0)
       refine hK.out _ _ ⟨(blk_cell BK200.out 0).trans rfl,(blk_cell BK200.out 1).trans rfl,(blk_cell BK200.out 2).trans rfl⟩ (fun hHeld=>?_)
       clear hK K
       refine no_ (some 23) ?_
       refine one_ (i:=3) (N:=some 25) #[true,true,true,true,false,false,false,false,false,false] rfl rfl (one_of HT_.out (by kernel_rfl)) (by decide) (fun K hK=>?_)
       refine Kd.R_lit_step k67 _ 67 ?hg (N:=25) ?hd (xs:=([(⟨a1,a2,a2⟩ : S67)] : List (S67))) (inner:=[.int .u8 a1,.int .u32 a2,.int .u32 a2]) (ok:=fun _=>True) (okp:=fun _=>True) ?hr ?hp (fun _ hk=>hk) trivial (Below.refl _ _) (Nat.le_refl _) (by simp) ?_;(case hd=>rfl);(case hg=>rfl);(case hr=>(go_simp;done));(case hp=>exact (Reps.c3 (show Kd.M k67 _ _ _ (⟨a1,a2,a2⟩ : S67) [.int .u8 a1,.int .u32 a2,.int .u32 a2] from (k67_mkM _ _ _ (⟨a1,a2,a2⟩ : S67) )) (Reps.none _ _)))
       intro v207 w20 ho21 hb hg_ hnew_
       clear hg_ hnew_
       (first | rw [← Ny206.out] at ho21)
       have n0_:=Aside0.mk (Kd.R_elder' HO205.out (Kd.R_base ho21) hb)
       have n1_:=Aside0.mk (Kd.R_lower (Kd.R_newB (Kd.R_new' ho21 (Kd.R_lt HO205.out)) (g:=gb200) (o:=.cells #[.int .u8 a1,.int .u32 a2,.int .u32 a2] 67 (0,0)) BK200.out) (below_size (by repeat ((with_reducible first | exact HB.out)))))
       have n2_:=Aside0.mk (blk_below BK200.out hb)
       have n3_:=Aside0.mk (below_step (by repeat ((with_reducible first | exact HB.out))) hb)
       clear HO205 BK200 HB
       have HO205:=n0_
       have HO208:=n1_
       have BK200:=n2_
       have HB:=n3_
       clear n0_ n1_ n2_ n3_ hb ho21
       refine hK.out _ _ ⟨(blk_cell BK200.out 0).trans rfl,(blk_cell BK200.out 1).trans rfl,(blk_cell BK200.out 2).trans rfl⟩ (fun hHeld=>?_)
       clear hK K
       refine no_ (some 25) ?_
       exact norm_ (by simp only [putAll,Act.put,List.setIfInBounds_toArray,List.set_cons_zero,List.set_cons_succ]) (hCont (v204,v207) _ ⟨hHeld,(by (with_reducible skip);exact Kd.R_mono HO205.out (fun _ hk=>⟨hk.2,hk.1.2⟩)),(by (with_reducible skip);exact Kd.R_mono HO208.out (fun _ hk=>⟨hk.1.2,hk.2⟩)),BK200.out,(by repeat ((with_reducible first | exact HB.out)))⟩)
      ·skip
       refine Kd.R_lit_step k67 _ 67 ?hg (N:=25) ?hd (xs:=([(⟨a1,a2,a2⟩ : S67)] : List (S67))) (inner:=[.int .u8 a1,.int .u32 a2,.int .u32 a2]) (ok:=fun _=>True) (okp:=fun _=>True) ?hr ?hp (fun _ hk=>hk) trivial (Below.refl _ _) (Nat.le_refl _) (by simp) ?_;(case hd=>rfl);(case hg=>rfl);(case hr=>(go_simp;done));(case hp=>exact (Reps.c3 (show Kd.M k67 _ _ _ (⟨a1,a2,a2⟩ : S67) [.int .u8 a1,.int .u32 a2,.int .u32 a2] from (k67_mkM _ _ _ (⟨a1,a2,a2⟩ : S67) )) (Reps.none _ _)))
       intro v207 w19 ho20 hb hg_ hnew_
       clear hg_ hnew_
       (first | rw [← Ny206.out] at ho20)
       have n0_:=Aside0.mk (Kd.R_lower (Kd.R_newB ho20 (g:=gb200) (o:=.cells #[.int .u8 a1,.int .u32 a2,.int .u32 a2] 67 (0,0)) BK200.out) (below_size (by repeat ((with_reducible first | exact HB.out)))))
       have n1_:=Aside0.mk (blk_below BK200.out hb)
       have n2_:=Aside0.mk (below_step (by repeat ((with_reducible first | exact HB.out))) hb)
       clear BK200 HB
       have HO208:=n0_
       have BK200:=n1_
       have HB:=n2_
       clear n0_ n1_ n2_ hb ho20
       refine hK.out _ _ ⟨(blk_cell BK200.out 0).trans rfl,(blk_cell BK200.out 1).trans rfl,(blk_cell BK200.out 2).trans rfl⟩ (fun hHeld=>?_)
       clear hK K
       refine no_ (some 25) ?_
       refine one_ (i:=1) (N:=some 23) #[true,true,true,true,false,false,false,false,false,false] rfl rfl (one_of HT_.out (by kernel_rfl)) (by decide) (fun K hK=>?_)
       refine goes_ Tryz.func36 (by kernel_rfl) rfl #[.slice A0 l0.length c0] (by rfl) rfl rfl (by (try simp only [List.map_toArray,List.map_cons,List.map_nil]);first | rfl) ?_
       with_reducible refine (slices_Clone_Run.calls _ _ l0 t203 _ ?side1 ?side2 A15.out).mono ?_
       (case side1=>repeat (first | exact (Kd.C_below HR0.out HB.out)))
       (case side2=>exact HC0.out)
       rintro e w21 ⟨v204,rfl,ho0,hb⟩
       refine ⟨_,rfl,?_⟩
       have n0_:=Aside0.mk (Kd.R_elder' HO208.out (Kd.R_base ho0) hb)
       have n1_:=Aside0.mk (Kd.R_lower (Kd.R_newB (Kd.R_new' ho0 (Kd.R_lt HO208.out)) (g:=gb200) (o:=.cells #[.int .u8 a1,.int .u32 a2,.int .u32 a2] 67 (0,0)) BK200.out) (below_size (by repeat ((with_reducible first | exact HB.out)))))
       have n2_:=Aside0.mk (blk_below BK200.out hb)
       have n3_:=Aside0.mk (below_step (by repeat ((with_reducible first | exact HB.out))) hb)
       clear HO208 BK200 HB
       have HO208:=n0_
       have HO205:=n1_
       have BK200:=n2_
       have HB:=n3_
       clear n0_ n1_ n2_ n3_
       (try clear hb)
       (try clear ho0)
       refine hK.out _ _ ⟨(blk_cell BK200.out 0).trans rfl,(blk_cell BK200.out 1).trans rfl,(blk_cell BK200.out 2).trans rfl⟩ (fun hHeld=>?_)
       clear hK K
       refine no_ (some 23) ?_
       exact norm_ (by simp only [putAll,Act.put,List.setIfInBounds_toArray,List.set_cons_zero,List.set_cons_succ]) (hCont (v204,v207) _ ⟨hHeld,(by (with_reducible skip);exact Kd.R_mono HO205.out (fun _ hk=>⟨hk.1.2,hk.2⟩)),(by (with_reducible skip);exact Kd.R_mono HO208.out (fun _ hk=>⟨hk.2,hk.1.2⟩)),BK200.out,(by repeat ((with_reducible first | exact HB.out)))⟩)
     rintro ⟨v204,v207⟩ w22 ⟨hS_,h0_,h1_,h2_,h3_⟩
     have n0_ : Aside0 (Kd.R k67 67 w22 w.heap.size (fun k_=>some k_ ≠ (v207 : Value).ownBlock ∧ k_ ≠ gb200) v204 t203):=⟨h0_⟩
     have n1_ : Aside0 (Kd.R k67 67 w22 w.heap.size (fun k_=>some k_ ≠ (v204 : Value).ownBlock ∧ k_ ≠ gb200) v207 y206):=⟨h1_⟩
     have n2_ : Aside0 (w22.heap[gb200]? = some (.cells #[.int .u8 a1,.int .u32 a2,.int .u32 a2] 67 (0,0))):=⟨h2_⟩
     have n3_ : Aside0 (Below w.heap.size w w22):=⟨h3_⟩
     clear BK200 HB h0_ h1_ h2_ h3_
     have HO205:=n0_
     have HO208:=n1_
     have BK200:=n2_
     have HB:=n3_
     clear n0_ n1_ n2_ n3_
     have hHeld : w22.cell? ⟨gb200,0,none⟩ = some (.int .u8 a1) ∧ w22.cell? ⟨gb200,1,none⟩ = some (.int .u32 a2) ∧ w22.cell? ⟨gb200,2,none⟩ = some (.int .u32 a2):=hS_
     obtain ⟨Ao24,co24,eo24⟩:=Kd.R_slice HO208.out
     (first | subst eo24)
     refine norm_ (a':=?_) ?_ ?_
     rotate_left
     ·simp only [putAll,Act.put,List.setIfInBounds_toArray,List.set_cons_zero,List.set_cons_succ]
      rfl
     refine one_ (i:=4) (N:=some 26) #[true,true,true,true,true,false,false,false,false,false] rfl rfl (one_of HT_.out (by kernel_rfl)) (by decide) (fun K hK=>?_)
     refine Kd.R_append_rows_step k67 (w0:=w) w.heap.size (by rfl) (.tmp 23) (.tmp 25) 23 67 (.agg #[(.int .u8 0),(.int .u32 0),(.int .u32 0)]) 12 rfl Tryz.underlying23 info67 rfl (by decide) (by omega) v204 t203 y206 _ _ _ (fun k_=>some k_ ≠ (.slice Ao24 y206.length co24 : Value).ownBlock ∧ k_ ≠ gb200) (fun _=>False) rfl rfl ?aO ?aR (fun _ _ h=>h) (fun _ h=>h.elim) ?aF ?aB ?aS ?aL ?_
     (case aR=>repeat (first | exact (Kd.R_reads' HO208.out).2.2))
     (case aB=>exact (by repeat ((with_reducible first | exact HB.out))))
     (case aF=>exact (fun k_ hk=>⟨Kd.fresh' (Kd.R_lt HO208.out) k_ hk,Kd.freshB (g:=gb200) (o:=.cells #[.int .u8 a1,.int .u32 a2,.int .u32 a2] 67 (0,0)) BK200.out k_ hk⟩))
     (case aO=>exact HO205.out)
     (case aS=>exact (below_size (by repeat ((with_reducible first | exact HB.out)))))
     (case aL=>have:=LMc16.out;omega)
     intro v210 w23 ho hb hg hat
     rw [← Ny209.out] at ho
     have n0_:=Aside0.mk (blk_grown (g:=gb200) (o:=.cells #[.int .u8 a1,.int .u32 a2,.int .u32 a2] 67 (0,0)) BK200.out hg (Kd.R_away HO205.out (fun _ hk=>hk.2)))
     have n1_:=Aside0.mk (Kd.R_after (ok:=(fun k_=>k_ ≠ gb200)) (by (with_reducible skip);exact Kd.R_mono HO208.out (fun _ hk=>⟨hk.2,hk.1⟩)) hg hat)
     have n2_:=Aside0.mk (hb)
     have n3_:=Aside0.mk (ho)
     clear BK200 HO208 HB HO205
     have BK200:=n0_
     have HO208:=n1_
     have HB:=n2_
     have HO211:=n3_
     clear n0_ n1_ n2_ n3_ ho hb hg hat
     obtain ⟨Ao25,co25,eo25⟩:=Kd.R_slice HO211.out
     (first | subst eo25)
     refine hK.out _ _ ⟨(blk_cell BK200.out 0).trans rfl,(blk_cell BK200.out 1).trans rfl,(blk_cell BK200.out 2).trans rfl⟩ (fun hHeld=>?_)
     clear hK K
     refine no_ (some 26) ?_
     refine one_ (i:=5) (N:=some 27) #[true,true,true,true,true,true,false,false,false,false] rfl rfl (one_of HT_.out (by kernel_rfl)) (by decide) (fun K hK=>?_)
     refine goes_ Tryz.func78 (by kernel_rfl) rfl #[.slice Ao25 y209.length co25] (by rfl) rfl rfl (by (try simp only [List.map_toArray,List.map_cons,List.map_nil]);first | rfl) ?_
     with_reducible refine (know_merged.calls kj3 _ _ y209 t212 t213 _ ?side1 ?side2 A17.out).mono ?_
     (case side1=>repeat (first | exact (Kd.R_reads' HO211.out).2.2))
     (case side2=>exact (Kd.R_reads' HO211.out).2.1)
     rintro e w26 ⟨v214,rfl,ho0,hb⟩
     refine ⟨_,rfl,?_⟩
     have n0_:=Aside0.mk (Kd.R_elder' HO208.out (Kd.R_base ho0) hb)
     have n1_:=Aside0.mk (Kd.R_elder' HO211.out (Kd.R_base ho0) hb)
     have n2_:=Aside0.mk (Kd.R_lower (Kd.R_newB (Kd.R_new' (Kd.R_new' ho0 (Kd.R_lt HO208.out)) (Kd.R_lt HO211.out)) (g:=gb200) (o:=.cells #[.int .u8 a1,.int .u32 a2,.int .u32 a2] 67 (0,0)) BK200.out) (below_size (by repeat ((with_reducible first | exact HB.out)))))
     have n3_:=Aside0.mk (blk_below BK200.out hb)
     have n4_:=Aside0.mk (below_step (by repeat ((with_reducible first | exact HB.out))) hb)
     clear HO208 HO211 BK200 HB
     have HO208:=n0_
     have HO211:=n1_
     have HO215:=n2_
     have BK200:=n3_
     have HB:=n4_
     clear n0_ n1_ n2_ n3_ n4_
     (try clear hb)
     (try clear ho0)
     refine hK.out _ _ ⟨(blk_cell BK200.out 0).trans rfl,(blk_cell BK200.out 1).trans rfl,(blk_cell BK200.out 2).trans rfl⟩ (fun hHeld=>?_)
     clear hK K
     refine no_ (some 27) ?_
     refine pu 6 (some 28) HT_ rfl rfl ?_
     refine pu 7 (some 29) HT_ rfl rfl ?_
     refine pu 8 (some 6) HT_ rfl rfl ?_
     refine pu 9 (some 7) HT_ rfl rfl ?_
     refine done_ (done_of HT_.out (by kernel_rfl)) ?_
     try go_wp2
     go_ret2
     exact ⟨_,by first | rfl,by (with_reducible skip);exact Kd.R_mono HO215.out (fun _ hk=>trivial),by repeat ((with_reducible first | exact HB.out))⟩
    ·rw [if_neg c16] at H
     exact absurd H (by simp)
end Go.Proofs.YtiminjibcafkaaaGreatDoor.X
