-- MADE BY wip/prx.py (the kit's printer, with contracts proved by hand). Not trusted: Lean checks it.
import Derived.Test.YtiminjibcafkaaaGreatDoorTBJ5
import Derived.Test.YtiminjibcafkaaaGreatDoorTBJ4
import Derived.Test.YtiminjibcafkaaaGreatDoorTBJ23
import Derived.Test.YtiminjibcafkaaaGreatDoorTBX7
import Derived.Test.YtiminjibcafkaaaGreatDoorTBJ6
import Derived.Test.YtiminjibcafkaaaGreatDoorTBXhslicesInsertEntry
import Derived.Test.YtiminjibcafkaaaGreatDoorTBJ13
import Derived.Test.YtiminjibcafkaaaGreatDoorTBJ7
namespace Go.Proofs.YtiminjibcafkaaaGreatDoor.X
open Go.RowKit Go.Proofs.YtiminjibcafkaaaGreatDoorW.PrintWords Go.Proofs.YtiminjibcafkaaaGreatDoorW.PrintLast Go.Proofs.YtiminjibcafkaaaGreatDoorW.PrintMore
attribute [local go_sem] max2_int min2_int max_two min_two max_three min_three max_four min_four   -- for this text's walks alone
set_option linter.unusedVariables false
set_option linter.unusedSimpArgs false
/-! ### item_Take: function 76 -/
def item_Take.j0 : Nat → List (S62) → Bool → Int → Int → Int → Int → Int → Int → Int → Option ((List (S62)) × Option Int)
 | 0,_,_,_,_,_,_,_,_,_=>none
 | k + 1,x0,x17,x226000,x226001,x226002,x226003,x226004,x226005,x226006=>if x17 = true then (some (([] : List (S62)),some 9)) else ((slices_BinarySearchFunc_Entry_uint8.f x0 x226000).bind fun bt228=>(if bt228.2 = true then ((slices_Clone_Entry.f x0).bind fun t239=>(if 0 ≤ bt228.1 then (if bt228.1 < (t239.length : Int) then ((item_Cmp.f k ((rd_T62 t239 bt228.1).f1.f0) ((rd_T62 t239 bt228.1).f1.f1) ((rd_T62 t239 bt228.1).f1.f2) x226001 x226002 x226003).bind fun t243=>(if t243 < 0 then (some ((t239.set (bt228.1 : Int).toNat (⟨x226000,(⟨x226001,x226002,x226003⟩ : S60),x226004,x226005,x226006⟩ : S62)),none)) else (if t243 = 0 then (if ((rd_T62 t239 bt228.1).f2) = 2 then (if x226004 = 2 then (some (t239,none)) else (some ((t239.set (bt228.1 : Int).toNat (⟨x226000,(⟨x226001,x226002,x226003⟩ : S60),x226004,x226005,x226006⟩ : S62)),none))) else (some (t239,none))) else (some (t239,none))))) else (none)) else (none))) else ((slices_Clone_Entry.f x0).bind fun t230=>((slices_Insert_Entry.f t230 bt228.1 (([(⟨x226000,(⟨x226001,x226002,x226003⟩ : S60),x226004,x226005,x226006⟩ : S62)] : List (S62)))).bind fun t236=>(some (t236,none))))))
def item_Take.f (k : Nat) (l0 : List (S62)) (a1_0 : Int) (a1_1 : Int) (a1_2 : Int) (a1_3 : Int) (a1_4 : Int) (a1_5 : Int) (a1_6 : Int) : Option ((List (S62)) × Option Int):=(item_Right.f k l0).bind fun t226=>(if t226 = true then ((item_entry.f a1_0 a1_1 a1_2 a1_3 a1_4 a1_5 a1_6).bind fun t227=>(item_Take.j0 k l0 (!t227) a1_0 a1_1 a1_2 a1_3 a1_4 a1_5 a1_6)) else (item_Take.j0 k l0 true a1_0 a1_1 a1_2 a1_3 a1_4 a1_5 a1_6))
def item_Take.T5 : Bool × List (List Nat × List Nat):=(true,[([],[]),([0],[0]),([],[]),([],[]),([3],[3]),([1,2,4,1],[1,2,4]),([5,5,0,1,2,3,4,5],[5]),([6,0,1,2,3,4,5,6],[])])
def item_Take.B5 : List Nat:=[0,1,0,0,8,31,63,127]
theorem item_Take.tab5 : rtab .any (opsOf Tryz.f76 5) = item_Take.T5:=by kernel_rfl
theorem item_Take.bits5 : waitsOk item_Take.T5.2 item_Take.B5 = true:=by kernel_rfl
def item_Take.T7 : Bool × List (List Nat × List Nat):=(true,[([],[]),([],[]),([0,1],[0,1]),([2],[2]),([3],[3]),([],[]),([5],[5]),([4,6],[4,6]),([7,7,0,1,2,3,4,5,6,7],[7])])
def item_Take.B7 : List Nat:=[0,0,3,7,15,0,32,127,255]
theorem item_Take.tab7 : rtab .any (opsOf Tryz.f76 7) = item_Take.T7:=by kernel_rfl
theorem item_Take.bits7 : waitsOk item_Take.T7.2 item_Take.B7 = true:=by kernel_rfl
set_option maxHeartbeats 8000000 in
set_option maxRecDepth 100000 in
theorem item_Take.calls (k : Nat) (A0 : Option Addr) (c0 : Nat) (l0 : List (S62)) (a1_0 : Int) (a1_1 : Int) (a1_2 : Int) (a1_3 : Int) (a1_4 : Int) (a1_5 : Int) (a1_6 : Int) (r1 : List (S62)) (r2 : Option Int) (w : World) (hr0 : Kd.C k62 w A0 l0.length l0) (hc0 : l0.length ≤ c0) (h : item_Take.f k l0 a1_0 a1_1 a1_2 a1_3 a1_4 a1_5 a1_6 = some (r1,r2)) :
 Calls Tryz.prog 76 #[.slice A0 l0.length c0,.agg #[.int .u8 a1_0,.int .u8 a1_1,.int .u32 a1_2,.int .u32 a1_3,.int .i64 a1_4,.int .u8 a1_5,.int .u32 a1_6]] w fun e w'=>∃ v0_ : Value,e = .returned (.tuple #[v0_,errW r2]) ∧ Kd.R k62 62 w' w.heap.size (fun _=>True) v0_ r1 ∧ Below w.heap.size w w':=by
 have hu62:=Tryz.underlying62
 have hu60:=Tryz.underlying60
 have hu35:=Tryz.underlying35
 have hu70:=Tryz.underlying70
 have HR0:=Aside0.mk hr0
 have HC0:=Aside0.mk hc0
 clear hr0 hc0
 have HB:=Aside0.mk (Below.refl w.heap.size w)
 have H : ((item_Right.f k l0).bind fun t226=>(if t226 = true then ((item_entry.f a1_0 a1_1 a1_2 a1_3 a1_4 a1_5 a1_6).bind fun t227=>(item_Take.j0 k l0 (!t227) a1_0 a1_1 a1_2 a1_3 a1_4 a1_5 a1_6)) else (item_Take.j0 k l0 true a1_0 a1_1 a1_2 a1_3 a1_4 a1_5 a1_6))) = some (r1,r2):=h
 clear h
 have HC3:=Aside0.mk H
 clear H
 go_enter Tryz.func76,Tryz.ntmps76
 go_upto_region 1 with (((with_reducible refine gate_dst (N:=3) rfl ?_);refine box_event ?hg (N:=3) ?hd (cs:=#[.int .u8 a1_0,.int .u8 a1_1,.int .u32 a1_2,.int .u32 a1_3,.int .i64 a1_4,.int .u8 a1_5,.int .u32 a1_6]) (t:=62) ?hr ?_;(case hd=>rfl);(case hg=>rfl);(case hr=>(go_simp;done));intro gb225 hg w4 hbox hb;have n0_:=Aside0.mk (below_step (by repeat ((with_reducible first | exact HB.out))) hb);have n1_:=Aside0.mk (hbox);have n2_:=Aside0.mk ((by rw [hg];exact (below_size (by repeat ((with_reducible first | exact HB.out)))) : w.heap.size ≤ gb225));have n3_:=Aside0.mk ((by rw [hg];exact (below_size (by repeat ((with_reducible first | exact HB.out)))) : w.heap.size ≤ gb225));clear HB;have HB:=n0_;have BK225:=n1_;have GW225:=n2_;have GE225:=n3_;clear n0_ n1_ n2_ n3_ hb hbox hg))
 go_cut [17] (fun v17 wc=>∃ (kq : Nat) (x17_2 : Bool),v17 = .bool x17_2 ∧ Aside0 (item_Take.j0 kq l0 x17_2 a1_0 a1_1 a1_2 a1_3 a1_4 a1_5 a1_6 = some (r1,r2)) ∧ Aside0 (kq ≤ k) ∧ Aside0 (wc.heap[gb225]? = some (.cells #[.int .u8 a1_0,.int .u8 a1_1,.int .u32 a1_2,.int .u32 a1_3,.int .i64 a1_4,.int .u8 a1_5,.int .u32 a1_6] 62 (0,0))) ∧ Aside0 (Below w.heap.size w wc))
 case first =>
  have H:=HC3.out
  clear HC3
  replace H:=Option.bind_eq_some_iff.mp H
  obtain ⟨t226,A50,H⟩:=H
  have A5:=Aside0.mk A50
  clear A50
  by_cases c6 : t226 = true
  ·subst c6
   rw [if_pos rfl] at H
   replace H:=Option.bind_eq_some_iff.mp H
   obtain ⟨t227,A70,H⟩:=H
   have A7:=Aside0.mk A70
   clear A70
   have H':=Aside0.mk H
   clear H
   go_wp2_with (first | ((with_reducible refine gate_callee (f:=51) rfl ?_);refine goesL_ (some 11) rfl rfl Tryz.func51 (by kernel_rfl) rfl #[.slice A0 l0.length c0] rfl (by (try simp only [List.map_toArray,List.map_cons,List.map_nil]);first | rfl) ?_;(with_reducible refine (item_Right.calls k _ _ l0 true _ ?side1 ?side2 A5.out).mono ?_);(case side1=>repeat (first | exact (Kd.C_below HR0.out HB.out)));(case side2=>exact HC0.out);rintro e w8 ⟨rfl,hb⟩;refine ⟨_,rfl,?_⟩;replace BK225:=Aside0.mk (blk_below BK225.out hb);replace HB:=Aside0.mk (below_step (by repeat ((with_reducible first | exact HB.out))) hb);(try clear hb);obtain ⟨hcz9_0,hcz9_1,hcz9_2,hcz9_3,hcz9_4,hcz9_5,hcz9_6⟩:=cells7 BK225.out) | (go_at_call 86;(with_reducible refine (item_entry.calls a1_0 a1_1 a1_2 a1_3 a1_4 a1_5 a1_6 t227 _ A7.out).mono ?_);rintro e w10 ⟨rfl,hb⟩;replace BK225:=Aside0.mk (blk_below BK225.out hb);replace HB:=Aside0.mk (below_step (by repeat ((with_reducible first | exact HB.out))) hb);(try clear hb)))
   go_meet
   case rel=>exact ⟨_,(!t227),(by first | rfl),H',⟨by first | omega⟩,⟨BK225.out⟩,⟨by repeat ((with_reducible first | exact HB.out))⟩⟩
  ·replace c6:=Bool.eq_false_iff.mpr c6
   subst c6
   rw [if_neg (show ¬ (false = true) by decide)] at H
   have H':=Aside0.mk H
   clear H
   go_wp2_with (((with_reducible refine gate_callee (f:=51) rfl ?_);refine goesL_ (some 11) rfl rfl Tryz.func51 (by kernel_rfl) rfl #[.slice A0 l0.length c0] rfl (by (try simp only [List.map_toArray,List.map_cons,List.map_nil]);first | rfl) ?_;(with_reducible refine (item_Right.calls k _ _ l0 false _ ?side1 ?side2 A5.out).mono ?_);(case side1=>repeat (first | exact (Kd.C_below HR0.out HB.out)));(case side2=>exact HC0.out);rintro e w11 ⟨rfl,hb⟩;refine ⟨_,rfl,?_⟩;replace BK225:=Aside0.mk (blk_below BK225.out hb);replace HB:=Aside0.mk (below_step (by repeat ((with_reducible first | exact HB.out))) hb);(try clear hb)))
   go_meet
   case rel=>exact ⟨_,(true),(by first | rfl),H',⟨by first | omega⟩,⟨BK225.out⟩,⟨by repeat ((with_reducible first | exact HB.out))⟩⟩
 case rest =>
  clear HC3
  obtain ⟨kq,x17_2,rfl,HA,HJ2,BK225,HB⟩:=hcut
  cases kq with
  | zero=>exact absurd HA.out (by simp [item_Take.j0])
  | succ kj2 =>
   have H:=HA.out
   clear HA
   simp only [item_Take.j0] at H
   by_cases c12 : x17_2 = true
   ·subst c12
    rw [if_pos rfl] at H
    simp only [Option.some.injEq,Prod.mk.injEq] at H
    obtain ⟨rfl,rfl⟩:=H
    go_wp2
    go_ret2
    exact ⟨_,by first | rfl,by first | exact Kd.R_nil _ _ _ _ _,by repeat ((with_reducible first | exact HB.out))⟩
   ·replace c12:=Bool.eq_false_iff.mpr c12
    subst c12
    rw [if_neg (show ¬ (false = true) by decide)] at H
    replace H:=Option.bind_eq_some_iff.mp H
    obtain ⟨⟨t228,t229⟩,A130,H⟩:=H
    have A13:=Aside0.mk A130
    clear A130
    by_cases c14 : t229 = true
    ·subst c14
     rw [if_pos rfl] at H
     replace H:=Option.bind_eq_some_iff.mp H
     obtain ⟨t239,A150,H⟩:=H
     have A15:=Aside0.mk A150
     clear A150
     by_cases c16 : 0 ≤ t228
     ·rw [if_pos c16] at H
      have c16b0 : decide (0 ≤ t228) = true:=decide_eq_true c16
      clear c16
      by_cases c17 : t228 < (t239.length : Int)
      ·rw [if_pos c17] at H
       have c17b0 : decide (t228 < (t239.length : Int)) = true:=decide_eq_true c17
       clear c17
       replace H:=Option.bind_eq_some_iff.mp H
       obtain ⟨t243,A180,H⟩:=H
       have A18:=Aside0.mk A180
       clear A180
       by_cases c19 : t243 < 0
       ·rw [if_pos c19] at H
        have c19b0 : decide (t243 < 0) = true:=decide_eq_true c19
        clear c19
        obtain ⟨y244,hy244⟩ : ∃ y_ : List (S62),y_ = (t239.set (t228 : Int).toNat (⟨a1_0,(⟨a1_1,a1_2,a1_3⟩ : S60),a1_4,a1_5,a1_6⟩ : S62)):=⟨_,rfl⟩
        replace H : (some (y244,none)) = some (r1,r2):=by (rw [hy244];with_reducible exact H)
        have Ny244:=Aside0.mk hy244
        clear hy244
        simp only [Option.some.injEq,Prod.mk.injEq] at H
        obtain ⟨rfl,rfl⟩:=H
        obtain ⟨hcz21_0,hcz21_1,hcz21_2,hcz21_3,hcz21_4,hcz21_5,hcz21_6⟩:=cells7 BK225.out
        try go_wp2_with (first | ((with_reducible refine gate_callee (f:=98) rfl ?_);refine goesL_ (some 23) rfl rfl Tryz.func98 (by kernel_rfl) rfl #[.slice A0 l0.length c0,.int .u8 a1_0,.func (.func 99) #[] #[]] rfl (by (try simp only [List.map_toArray,List.map_cons,List.map_nil]);first | rfl) ?_;(with_reducible refine (slices_BinarySearchFunc_Entry_uint8.calls _ _ l0 a1_0  t228 true _ ?side1 ?side2 A13.out).mono ?_);(case side1=>repeat (first | exact (Kd.C_below HR0.out HB.out)));(case side2=>exact HC0.out);rintro e w22 ⟨rfl,hb⟩;refine ⟨_,rfl,?_⟩;replace BK225:=Aside0.mk (blk_below BK225.out hb);replace HB:=Aside0.mk (below_step (by repeat ((with_reducible first | exact HB.out))) hb);(try clear hb)) | ((with_reducible refine gate_callee (f:=102) rfl ?_);refine goesL_ (some 35) rfl rfl Tryz.func102 (by kernel_rfl) rfl #[.slice A0 l0.length c0] rfl (by (try simp only [List.map_toArray,List.map_cons,List.map_nil]);first | rfl) ?_;(with_reducible refine (slices_Clone_Entry.calls _ _ l0 t239 _ ?side1 ?side2 A15.out).mono ?_);(case side1=>repeat (first | exact (Kd.C_below HR0.out HB.out)));(case side2=>exact HC0.out);rintro e w23 ⟨v240,rfl,ho0,hb⟩;refine ⟨_,rfl,?_⟩;have n0_:=Aside0.mk (Kd.R_lower (Kd.R_newB ho0 (g:=gb225) (o:=.cells #[.int .u8 a1_0,.int .u8 a1_1,.int .u32 a1_2,.int .u32 a1_3,.int .i64 a1_4,.int .u8 a1_5,.int .u32 a1_6] 62 (0,0)) BK225.out) (below_size (by repeat ((with_reducible first | exact HB.out)))));have n1_:=Aside0.mk (blk_below BK225.out hb);have n2_:=Aside0.mk (below_step (by repeat ((with_reducible first | exact HB.out))) hb);clear BK225 HB;have HO241:=n0_;have BK225:=n1_;have HB:=n2_;clear n0_ n1_ n2_;(try clear hb);(try clear ho0)))
        replace HO241:=Aside0.mk (Kd.R_drew HO241.out)
        replace BK225:=Aside0.mk (blk_drew BK225.out)
        replace HB:=Aside0.mk (below_drew1 HB.out)
        obtain ⟨Ao25,co25,eo25⟩:=Kd.R_slice HO241.out
        (first | subst eo25)
        have p242 : 0 ≤ (t228 : Int):=of_decide_eq_true (by (with_reducible assumption))
        have q242 : t228 < (t239.length : Int):=of_decide_eq_true (by (with_reducible assumption))
        obtain ⟨ad242,e242,hx242_0,hx242_1,hx242_2,hx242_3,hx242_4,hx242_5,hx242_6⟩:=at_T62 (Kd.R_reads' HO241.out).2.2 t228 p242 q242
        cases e242
        replace p242:=eq_true p242
        replace q242:=eq_true q242
        refine start_ (n:=9) (S:=fun w'=>w'.cell? ⟨gb225,0,none⟩ = some (.int .u8 a1_0) ∧ w'.cell? ⟨gb225,1,none⟩ = some (.int .u8 a1_1) ∧ w'.cell? ⟨gb225,2,none⟩ = some (.int .u32 a1_2) ∧ w'.cell? ⟨gb225,3,none⟩ = some (.int .u32 a1_3) ∧ w'.cell? ⟨gb225,4,none⟩ = some (.int .i64 a1_4) ∧ w'.cell? ⟨gb225,5,none⟩ = some (.int .u8 a1_5) ∧ w'.cell? ⟨gb225,6,none⟩ = some (.int .u32 a1_6) ∧ w'.cell? (ad242.add ((t228).toNat * 7)) = some (.int .u8 ((rd_T62 t239 t228).f0)) ∧ w'.cell? ⟨(ad242.add ((t228).toNat * 7)).block,(ad242.add ((t228).toNat * 7)).off + 1,none⟩ = some (.int .u8 ((rd_T62 t239 t228).f1.f0)) ∧ w'.cell? ⟨(ad242.add ((t228).toNat * 7)).block,(ad242.add ((t228).toNat * 7)).off + 2,none⟩ = some (.int .u32 ((rd_T62 t239 t228).f1.f1)) ∧ w'.cell? ⟨(ad242.add ((t228).toNat * 7)).block,(ad242.add ((t228).toNat * 7)).off + 3,none⟩ = some (.int .u32 ((rd_T62 t239 t228).f1.f2)) ∧ w'.cell? ⟨(ad242.add ((t228).toNat * 7)).block,(ad242.add ((t228).toNat * 7)).off + 4,none⟩ = some (.int .i64 ((rd_T62 t239 t228).f2)) ∧ w'.cell? ⟨(ad242.add ((t228).toNat * 7)).block,(ad242.add ((t228).toNat * 7)).off + 5,none⟩ = some (.int .u8 ((rd_T62 t239 t228).f3)) ∧ w'.cell? ⟨(ad242.add ((t228).toNat * 7)).block,(ad242.add ((t228).toNat * 7)).off + 6,none⟩ = some (.int .u32 ((rd_T62 t239 t228).f4))) (ds:=[]) #[false,false,false,false,false,false,false,false,false] (by kernel_rfl) rfl rfl ⟨(blk_cell BK225.out 0).trans rfl,(blk_cell BK225.out 1).trans rfl,(blk_cell BK225.out 2).trans rfl,(blk_cell BK225.out 3).trans rfl,(blk_cell BK225.out 4).trans rfl,(blk_cell BK225.out 5).trans rfl,(blk_cell BK225.out 6).trans rfl,hx242_0,hx242_1,hx242_2,hx242_3,hx242_4,hx242_5,hx242_6⟩ (fun hHeld=>?_);refine with_tabW item_Take.tab7 item_Take.bits7 (fun HT_ HW_=>?_)
        generalize w23.drew = w24 at HO241 BK225 HB hx242_0 hx242_1 hx242_2 hx242_3 hx242_4 hx242_5 hx242_6 hHeld ⊢
        refine pu 0 (some 36) HT_ rfl rfl ?_
        refine pu 1 (some 37) HT_ rfl rfl ?_
        refine pu 2 (some 38) HT_ rfl rfl ?_
        refine pu 3 (some 39) HT_ rfl rfl ?_
        refine pu 5 (some 41) HT_ rfl rfl ?_
        refine ta 4 (some 40) HT_ HW_ hHeld rfl rfl (by rintro w' ⟨s0,s1,s2,s3,s4,s5,s6,s7,s8,s9,s10,s11,s12,s13⟩;go_simp;with_reducible rfl) ?_
        refine ta 6 (some 42) HT_ HW_ hHeld rfl rfl (by rintro w' ⟨s0,s1,s2,s3,s4,s5,s6,s7,s8,s9,s10,s11,s12,s13⟩;go_simp;with_reducible rfl) ?_
        refine one_ (i:=7) (N:=some 43) #[true,true,true,true,true,true,true,true,false] rfl rfl (one_of HT_.out (by kernel_rfl)) (by decide) (fun K hK=>?_)
        refine goes_ Tryz.func103 (by kernel_rfl) rfl #[.agg #[.int .u8 ((rd_T62 t239 t228).f1.f0),.int .u32 ((rd_T62 t239 t228).f1.f1),.int .u32 ((rd_T62 t239 t228).f1.f2)],.agg #[.int .u8 a1_1,.int .u32 a1_2,.int .u32 a1_3]] (by rfl) rfl rfl (by (try simp only [List.map_toArray,List.map_cons,List.map_nil]);first | rfl) ?_
        with_reducible refine (item_Cmp.calls kj2 ((rd_T62 t239 t228).f1.f0) ((rd_T62 t239 t228).f1.f1) ((rd_T62 t239 t228).f1.f2) a1_1 a1_2 a1_3 t243 _ A18.out).mono ?_
        rintro e w26 ⟨rfl,hb⟩
        have HS7_:=(hb.cell (World.block_lt_of_cell? _ _ (hHeld.2.2.2.2.2.2.2.1))).trans (hHeld.2.2.2.2.2.2.2.1)
        have HS8_:=(hb.cell (World.block_lt_of_cell? _ _ (hHeld.2.2.2.2.2.2.2.2.1))).trans (hHeld.2.2.2.2.2.2.2.2.1)
        have HS9_:=(hb.cell (World.block_lt_of_cell? _ _ (hHeld.2.2.2.2.2.2.2.2.2.1))).trans (hHeld.2.2.2.2.2.2.2.2.2.1)
        have HS10_:=(hb.cell (World.block_lt_of_cell? _ _ (hHeld.2.2.2.2.2.2.2.2.2.2.1))).trans (hHeld.2.2.2.2.2.2.2.2.2.2.1)
        have HS11_:=(hb.cell (World.block_lt_of_cell? _ _ (hHeld.2.2.2.2.2.2.2.2.2.2.2.1))).trans (hHeld.2.2.2.2.2.2.2.2.2.2.2.1)
        have HS12_:=(hb.cell (World.block_lt_of_cell? _ _ (hHeld.2.2.2.2.2.2.2.2.2.2.2.2.1))).trans (hHeld.2.2.2.2.2.2.2.2.2.2.2.2.1)
        have HS13_:=(hb.cell (World.block_lt_of_cell? _ _ (hHeld.2.2.2.2.2.2.2.2.2.2.2.2.2))).trans (hHeld.2.2.2.2.2.2.2.2.2.2.2.2.2)
        refine ⟨_,rfl,?_⟩
        replace HO241:=Aside0.mk (Kd.R_below HO241.out hb)
        replace BK225:=Aside0.mk (blk_below BK225.out hb)
        replace HB:=Aside0.mk (below_step (by repeat ((with_reducible first | exact HB.out))) hb)
        (try clear hb)
        refine hK.out _ _ ⟨(blk_cell BK225.out 0).trans rfl,(blk_cell BK225.out 1).trans rfl,(blk_cell BK225.out 2).trans rfl,(blk_cell BK225.out 3).trans rfl,(blk_cell BK225.out 4).trans rfl,(blk_cell BK225.out 5).trans rfl,(blk_cell BK225.out 6).trans rfl,HS7_,HS8_,HS9_,HS10_,HS11_,HS12_,HS13_⟩ (fun hHeld=>?_)
        clear hK K
        refine no_ (some 43) ?_
        refine pu 8 (some 9) HT_ rfl rfl ?_
        refine done_ (done_of HT_.out (by kernel_rfl)) ?_
        obtain ⟨hcz27_0,hcz27_1,hcz27_2,hcz27_3,hcz27_4,hcz27_5,hcz27_6⟩:=cells7 BK225.out
        have p20 : 0 ≤ (t228 : Int):=of_decide_eq_true (by (with_reducible assumption))
        have q20 : (t228 : Int) < ((t239.length : Int) : Int):=of_decide_eq_true (by (with_reducible assumption))
        obtain ⟨go20,co20,eo20,gb20,gl20,cl20,HG20⟩:=Kd.R_form HO241.out (by omega)
        (first | cases eo20)
        have GB20:=Aside0.mk gb20
        have GG20:=Aside0.mk HG20
        clear gb20 gl20 HG20
        (first | simp only [add_plain] at hx242_0)
        (first | simp only [add_plain] at hx242_1)
        (first | simp only [add_plain] at hx242_2)
        (first | simp only [add_plain] at hx242_3)
        (first | simp only [add_plain] at hx242_4)
        (first | simp only [add_plain] at hx242_5)
        (first | simp only [add_plain] at hx242_6)
        obtain ⟨ce20,hcl20,hM20,hcc20,hfr20⟩:=Kd.R_elem HO241.out z62 (t228 : Int) p20 q20
        obtain rfl:=k62_openM hM20
        have hx20_0 : w26.cell? ⟨go20,(t228 : Int).toNat * 7,none⟩ = some (.int .u8 ((rd_T62 t239 t228).f0)):=hcc20 0 _ rfl
        have hx20_1 : w26.cell? ⟨go20,(t228 : Int).toNat * 7 + 1,none⟩ = some (.int .u8 ((rd_T62 t239 t228).f1.f0)):=hcc20 1 _ rfl
        have hx20_2 : w26.cell? ⟨go20,(t228 : Int).toNat * 7 + 2,none⟩ = some (.int .u32 ((rd_T62 t239 t228).f1.f1)):=hcc20 2 _ rfl
        have hx20_3 : w26.cell? ⟨go20,(t228 : Int).toNat * 7 + 3,none⟩ = some (.int .u32 ((rd_T62 t239 t228).f1.f2)):=hcc20 3 _ rfl
        have hx20_4 : w26.cell? ⟨go20,(t228 : Int).toNat * 7 + 4,none⟩ = some (.int .i64 ((rd_T62 t239 t228).f2)):=hcc20 4 _ rfl
        have hx20_5 : w26.cell? ⟨go20,(t228 : Int).toNat * 7 + 5,none⟩ = some (.int .u8 ((rd_T62 t239 t228).f3)):=hcc20 5 _ rfl
        have hx20_6 : w26.cell? ⟨go20,(t228 : Int).toNat * 7 + 6,none⟩ = some (.int .u32 ((rd_T62 t239 t228).f4)):=hcc20 6 _ rfl
        have hf20_0 : w26.frozen? ⟨go20,(t228 : Int).toNat * 7,none⟩ = false:=hfr20 0
        have hf20_1 : w26.frozen? ⟨go20,(t228 : Int).toNat * 7 + 1,none⟩ = false:=hfr20 1
        have hf20_2 : w26.frozen? ⟨go20,(t228 : Int).toNat * 7 + 2,none⟩ = false:=hfr20 2
        have hf20_3 : w26.frozen? ⟨go20,(t228 : Int).toNat * 7 + 3,none⟩ = false:=hfr20 3
        have hf20_4 : w26.frozen? ⟨go20,(t228 : Int).toNat * 7 + 4,none⟩ = false:=hfr20 4
        have hf20_5 : w26.frozen? ⟨go20,(t228 : Int).toNat * 7 + 5,none⟩ = false:=hfr20 5
        have hf20_6 : w26.frozen? ⟨go20,(t228 : Int).toNat * 7 + 6,none⟩ = false:=hfr20 6
        clear hcl20 hcc20 hfr20 hM20
        replace p20:=eq_true p20
        replace q20:=eq_true q20
        have n_:=Aside0.mk (Kd.R_mono (ok':=(fun k_=>k_ ≠ gb225)) HO241.out (fun k_ hk=>hk.2))
        clear HO241
        have HO241:=n_
        clear n_
        have HX28:=Aside0.mk (show Kd.R k62 62 w26 w.heap.size (fun k_=>k_ ≠ gb225) (.slice (some ⟨go20,0,none⟩) t239.length co25) t239 from HO241.out)
        obtain ⟨ce28,hcl28,hM28,hcc28,hfr28⟩:=Kd.R_elem HX28.out z62 (t228 : Int) (of_decide_eq_true (by (with_reducible assumption))) (by have h_ : (t228 : Int) < ((t239.length : Int) : Int):=of_decide_eq_true (by (with_reducible assumption));first | exact h_)
        obtain rfl:=k62_openM hM28
        have HP28:=Kd.R_seg HX28.out (t228 : Int) (of_decide_eq_true (by (with_reducible assumption))) (by have h_ : (t228 : Int) < ((t239.length : Int) : Int):=of_decide_eq_true (by (with_reducible assumption));first | exact h_) (seg:=[.int .u8 a1_0,.int .u8 a1_1,.int .u32 a1_2,.int .u32 a1_3,.int .i64 a1_4,.int .u8 a1_5,.int .u32 a1_6]) (j:=0) hcl28 hcc28 (show 7 ≤ 7 from by decide) (x':=(⟨a1_0,(⟨a1_1,a1_2,a1_3⟩ : S60),a1_4,a1_5,a1_6⟩ : S62)) (k62_mkM _ _ _ (⟨a1_0,(⟨a1_1,a1_2,a1_3⟩ : S60),a1_4,a1_5,a1_6⟩ : S62) ) (fun _ hk=>hk)
        have hx28_0:=hcc28 0 _ rfl
        (try simp only [show (k62).sz = 7 from rfl,Nat.mul_one,Nat.add_zero] at hx28_0)
        have hf28_0:=hfr28 0
        (try simp only [show (k62).sz = 7 from rfl,Nat.mul_one,Nat.add_zero] at hf28_0)
        have hx28_1:=hcc28 1 _ rfl
        (try simp only [show (k62).sz = 7 from rfl,Nat.mul_one,Nat.add_zero] at hx28_1)
        have hf28_1:=hfr28 1
        (try simp only [show (k62).sz = 7 from rfl,Nat.mul_one,Nat.add_zero] at hf28_1)
        have hx28_2:=hcc28 2 _ rfl
        (try simp only [show (k62).sz = 7 from rfl,Nat.mul_one,Nat.add_zero] at hx28_2)
        have hf28_2:=hfr28 2
        (try simp only [show (k62).sz = 7 from rfl,Nat.mul_one,Nat.add_zero] at hf28_2)
        have hx28_3:=hcc28 3 _ rfl
        (try simp only [show (k62).sz = 7 from rfl,Nat.mul_one,Nat.add_zero] at hx28_3)
        have hf28_3:=hfr28 3
        (try simp only [show (k62).sz = 7 from rfl,Nat.mul_one,Nat.add_zero] at hf28_3)
        have hx28_4:=hcc28 4 _ rfl
        (try simp only [show (k62).sz = 7 from rfl,Nat.mul_one,Nat.add_zero] at hx28_4)
        have hf28_4:=hfr28 4
        (try simp only [show (k62).sz = 7 from rfl,Nat.mul_one,Nat.add_zero] at hf28_4)
        have hx28_5:=hcc28 5 _ rfl
        (try simp only [show (k62).sz = 7 from rfl,Nat.mul_one,Nat.add_zero] at hx28_5)
        have hf28_5:=hfr28 5
        (try simp only [show (k62).sz = 7 from rfl,Nat.mul_one,Nat.add_zero] at hf28_5)
        have hx28_6:=hcc28 6 _ rfl
        (try simp only [show (k62).sz = 7 from rfl,Nat.mul_one,Nat.add_zero] at hx28_6)
        have hf28_6:=hfr28 6
        (try simp only [show (k62).sz = 7 from rfl,Nat.mul_one,Nat.add_zero] at hf28_6)
        clear hcl28 hcc28 hfr28 hM28
        try go_wp2_with (((with_reducible refine gate_store (t:=62) (p:=65) rfl ?_);refine store_event (t:=62) (p:=65) (v:=?vo_w29) (w1:=(((((((w26.setCell ⟨go20,(t228 : Int).toNat * 7,none⟩ (.int .u8 a1_0)).setCell ⟨go20,(t228 : Int).toNat * 7 + 1,none⟩ (.int .u8 a1_1)).setCell ⟨go20,(t228 : Int).toNat * 7 + 2,none⟩ (.int .u32 a1_2)).setCell ⟨go20,(t228 : Int).toNat * 7 + 3,none⟩ (.int .u32 a1_3)).setCell ⟨go20,(t228 : Int).toNat * 7 + 4,none⟩ (.int .i64 a1_4)).setCell ⟨go20,(t228 : Int).toNat * 7 + 5,none⟩ (.int .u8 a1_5)).setCell ⟨go20,(t228 : Int).toNat * 7 + 6,none⟩ (.int .u32 a1_6))) ?hg ?ho ?hn ?hr ?_;(case ho=>rfl);(case hg=>rfl);(case hn=>rfl);(case hr=>(go_simp;done));intro w29 hw;have hg : w26.grownBy w29 (some go20):=(by rw [hw];exact HP28.2);have hp_ : Kd.R k62 62 w29 w.heap.size (fun k_=>k_ ≠ gb225) (.slice (some ⟨go20,0,none⟩) t239.length co25) y244:=(by rw [hw,Ny244.out];exact HP28.1);clear HP28;replace BK225:=Aside0.mk (blk_grown (g:=gb225) (o:=.cells #[.int .u8 a1_0,.int .u8 a1_1,.int .u32 a1_2,.int .u32 a1_3,.int .i64 a1_4,.int .u8 a1_5,.int .u32 a1_6] 62 (0,0)) BK225.out hg (Kd.R_away HO241.out (fun _ hk=>hk)));replace HO241:=Aside0.mk (hp_);replace HB:=Aside0.mk ((by rw [hw];exact below_set (below_set (below_set (below_set (below_set (below_set (below_set (HB.out) GB20.out) GB20.out) GB20.out) GB20.out) GB20.out) GB20.out) GB20.out : Below w.heap.size w w29));clear hg hw hp_))
        go_ret2
        exact ⟨_,by first | rfl,by (with_reducible skip);exact Kd.R_mono HO241.out (fun _ hk=>trivial),by repeat ((with_reducible first | exact HB.out))⟩
       ·rw [if_neg c19] at H
        have c19b0 : decide (t243 < 0) = false:=decide_eq_false c19
        clear c19
        by_cases c30 : t243 = 0
        ·rw [if_pos c30] at H
         have c30b0 : (t243 == 0) = true:=beq_iff_eq.mpr c30
         have c30b1 : (t243 != 0) = false:=bne_eq_false_iff_eq.mpr c30
         clear c30
         by_cases c31 : ((rd_T62 t239 t228).f2) = 2
         ·rw [if_pos c31] at H
          have c31b0 : (((rd_T62 t239 t228).f2) == 2) = true:=beq_iff_eq.mpr c31
          have c31b1 : (((rd_T62 t239 t228).f2) != 2) = false:=bne_eq_false_iff_eq.mpr c31
          clear c31
          by_cases c32 : a1_4 = 2
          ·rw [if_pos c32] at H
           have c32b0 : (a1_4 == 2) = true:=beq_iff_eq.mpr c32
           have c32b1 : (a1_4 != 2) = false:=bne_eq_false_iff_eq.mpr c32
           clear c32
           simp only [Option.some.injEq,Prod.mk.injEq] at H
           obtain ⟨rfl,rfl⟩:=H
           obtain ⟨hcz33_0,hcz33_1,hcz33_2,hcz33_3,hcz33_4,hcz33_5,hcz33_6⟩:=cells7 BK225.out
           try go_wp2_with (first | ((with_reducible refine gate_callee (f:=98) rfl ?_);refine goesL_ (some 23) rfl rfl Tryz.func98 (by kernel_rfl) rfl #[.slice A0 l0.length c0,.int .u8 a1_0,.func (.func 99) #[] #[]] rfl (by (try simp only [List.map_toArray,List.map_cons,List.map_nil]);first | rfl) ?_;(with_reducible refine (slices_BinarySearchFunc_Entry_uint8.calls _ _ l0 a1_0  t228 true _ ?side1 ?side2 A13.out).mono ?_);(case side1=>repeat (first | exact (Kd.C_below HR0.out HB.out)));(case side2=>exact HC0.out);rintro e w34 ⟨rfl,hb⟩;refine ⟨_,rfl,?_⟩;replace BK225:=Aside0.mk (blk_below BK225.out hb);replace HB:=Aside0.mk (below_step (by repeat ((with_reducible first | exact HB.out))) hb);(try clear hb)) | ((with_reducible refine gate_callee (f:=102) rfl ?_);refine goesL_ (some 35) rfl rfl Tryz.func102 (by kernel_rfl) rfl #[.slice A0 l0.length c0] rfl (by (try simp only [List.map_toArray,List.map_cons,List.map_nil]);first | rfl) ?_;(with_reducible refine (slices_Clone_Entry.calls _ _ l0 t239 _ ?side1 ?side2 A15.out).mono ?_);(case side1=>repeat (first | exact (Kd.C_below HR0.out HB.out)));(case side2=>exact HC0.out);rintro e w35 ⟨v240,rfl,ho0,hb⟩;refine ⟨_,rfl,?_⟩;have n0_:=Aside0.mk (Kd.R_lower (Kd.R_newB ho0 (g:=gb225) (o:=.cells #[.int .u8 a1_0,.int .u8 a1_1,.int .u32 a1_2,.int .u32 a1_3,.int .i64 a1_4,.int .u8 a1_5,.int .u32 a1_6] 62 (0,0)) BK225.out) (below_size (by repeat ((with_reducible first | exact HB.out)))));have n1_:=Aside0.mk (blk_below BK225.out hb);have n2_:=Aside0.mk (below_step (by repeat ((with_reducible first | exact HB.out))) hb);clear BK225 HB;have HO241:=n0_;have BK225:=n1_;have HB:=n2_;clear n0_ n1_ n2_;(try clear hb);(try clear ho0)))
           replace HO241:=Aside0.mk (Kd.R_drew HO241.out)
           replace BK225:=Aside0.mk (blk_drew BK225.out)
           replace HB:=Aside0.mk (below_drew1 HB.out)
           obtain ⟨Ao37,co37,eo37⟩:=Kd.R_slice HO241.out
           (first | subst eo37)
           have p242 : 0 ≤ (t228 : Int):=of_decide_eq_true (by (with_reducible assumption))
           have q242 : t228 < (t239.length : Int):=of_decide_eq_true (by (with_reducible assumption))
           obtain ⟨ad242,e242,hx242_0,hx242_1,hx242_2,hx242_3,hx242_4,hx242_5,hx242_6⟩:=at_T62 (Kd.R_reads' HO241.out).2.2 t228 p242 q242
           cases e242
           replace p242:=eq_true p242
           replace q242:=eq_true q242
           refine start_ (n:=9) (S:=fun w'=>w'.cell? ⟨gb225,0,none⟩ = some (.int .u8 a1_0) ∧ w'.cell? ⟨gb225,1,none⟩ = some (.int .u8 a1_1) ∧ w'.cell? ⟨gb225,2,none⟩ = some (.int .u32 a1_2) ∧ w'.cell? ⟨gb225,3,none⟩ = some (.int .u32 a1_3) ∧ w'.cell? ⟨gb225,4,none⟩ = some (.int .i64 a1_4) ∧ w'.cell? ⟨gb225,5,none⟩ = some (.int .u8 a1_5) ∧ w'.cell? ⟨gb225,6,none⟩ = some (.int .u32 a1_6) ∧ w'.cell? (ad242.add ((t228).toNat * 7)) = some (.int .u8 ((rd_T62 t239 t228).f0)) ∧ w'.cell? ⟨(ad242.add ((t228).toNat * 7)).block,(ad242.add ((t228).toNat * 7)).off + 1,none⟩ = some (.int .u8 ((rd_T62 t239 t228).f1.f0)) ∧ w'.cell? ⟨(ad242.add ((t228).toNat * 7)).block,(ad242.add ((t228).toNat * 7)).off + 2,none⟩ = some (.int .u32 ((rd_T62 t239 t228).f1.f1)) ∧ w'.cell? ⟨(ad242.add ((t228).toNat * 7)).block,(ad242.add ((t228).toNat * 7)).off + 3,none⟩ = some (.int .u32 ((rd_T62 t239 t228).f1.f2)) ∧ w'.cell? ⟨(ad242.add ((t228).toNat * 7)).block,(ad242.add ((t228).toNat * 7)).off + 4,none⟩ = some (.int .i64 ((rd_T62 t239 t228).f2)) ∧ w'.cell? ⟨(ad242.add ((t228).toNat * 7)).block,(ad242.add ((t228).toNat * 7)).off + 5,none⟩ = some (.int .u8 ((rd_T62 t239 t228).f3)) ∧ w'.cell? ⟨(ad242.add ((t228).toNat * 7)).block,(ad242.add ((t228).toNat * 7)).off + 6,none⟩ = some (.int .u32 ((rd_T62 t239 t228).f4))) (ds:=[]) #[false,false,false,false,false,false,false,false,false] (by kernel_rfl) rfl rfl ⟨(blk_cell BK225.out 0).trans rfl,(blk_cell BK225.out 1).trans rfl,(blk_cell BK225.out 2).trans rfl,(blk_cell BK225.out 3).trans rfl,(blk_cell BK225.out 4).trans rfl,(blk_cell BK225.out 5).trans rfl,(blk_cell BK225.out 6).trans rfl,hx242_0,hx242_1,hx242_2,hx242_3,hx242_4,hx242_5,hx242_6⟩ (fun hHeld=>?_);refine with_tabW item_Take.tab7 item_Take.bits7 (fun HT_ HW_=>?_)
           generalize w35.drew = w36 at HO241 BK225 HB hx242_0 hx242_1 hx242_2 hx242_3 hx242_4 hx242_5 hx242_6 hHeld ⊢
           refine pu 0 (some 36) HT_ rfl rfl ?_
           refine pu 1 (some 37) HT_ rfl rfl ?_
           refine pu 2 (some 38) HT_ rfl rfl ?_
           refine pu 3 (some 39) HT_ rfl rfl ?_
           refine pu 5 (some 41) HT_ rfl rfl ?_
           refine ta 4 (some 40) HT_ HW_ hHeld rfl rfl (by rintro w' ⟨s0,s1,s2,s3,s4,s5,s6,s7,s8,s9,s10,s11,s12,s13⟩;go_simp;with_reducible rfl) ?_
           refine ta 6 (some 42) HT_ HW_ hHeld rfl rfl (by rintro w' ⟨s0,s1,s2,s3,s4,s5,s6,s7,s8,s9,s10,s11,s12,s13⟩;go_simp;with_reducible rfl) ?_
           refine one_ (i:=7) (N:=some 43) #[true,true,true,true,true,true,true,true,false] rfl rfl (one_of HT_.out (by kernel_rfl)) (by decide) (fun K hK=>?_)
           refine goes_ Tryz.func103 (by kernel_rfl) rfl #[.agg #[.int .u8 ((rd_T62 t239 t228).f1.f0),.int .u32 ((rd_T62 t239 t228).f1.f1),.int .u32 ((rd_T62 t239 t228).f1.f2)],.agg #[.int .u8 a1_1,.int .u32 a1_2,.int .u32 a1_3]] (by rfl) rfl rfl (by (try simp only [List.map_toArray,List.map_cons,List.map_nil]);first | rfl) ?_
           with_reducible refine (item_Cmp.calls kj2 ((rd_T62 t239 t228).f1.f0) ((rd_T62 t239 t228).f1.f1) ((rd_T62 t239 t228).f1.f2) a1_1 a1_2 a1_3 t243 _ A18.out).mono ?_
           rintro e w38 ⟨rfl,hb⟩
           have HS7_:=(hb.cell (World.block_lt_of_cell? _ _ (hHeld.2.2.2.2.2.2.2.1))).trans (hHeld.2.2.2.2.2.2.2.1)
           have HS8_:=(hb.cell (World.block_lt_of_cell? _ _ (hHeld.2.2.2.2.2.2.2.2.1))).trans (hHeld.2.2.2.2.2.2.2.2.1)
           have HS9_:=(hb.cell (World.block_lt_of_cell? _ _ (hHeld.2.2.2.2.2.2.2.2.2.1))).trans (hHeld.2.2.2.2.2.2.2.2.2.1)
           have HS10_:=(hb.cell (World.block_lt_of_cell? _ _ (hHeld.2.2.2.2.2.2.2.2.2.2.1))).trans (hHeld.2.2.2.2.2.2.2.2.2.2.1)
           have HS11_:=(hb.cell (World.block_lt_of_cell? _ _ (hHeld.2.2.2.2.2.2.2.2.2.2.2.1))).trans (hHeld.2.2.2.2.2.2.2.2.2.2.2.1)
           have HS12_:=(hb.cell (World.block_lt_of_cell? _ _ (hHeld.2.2.2.2.2.2.2.2.2.2.2.2.1))).trans (hHeld.2.2.2.2.2.2.2.2.2.2.2.2.1)
           have HS13_:=(hb.cell (World.block_lt_of_cell? _ _ (hHeld.2.2.2.2.2.2.2.2.2.2.2.2.2))).trans (hHeld.2.2.2.2.2.2.2.2.2.2.2.2.2)
           refine ⟨_,rfl,?_⟩
           replace HO241:=Aside0.mk (Kd.R_below HO241.out hb)
           replace BK225:=Aside0.mk (blk_below BK225.out hb)
           replace HB:=Aside0.mk (below_step (by repeat ((with_reducible first | exact HB.out))) hb)
           (try clear hb)
           refine hK.out _ _ ⟨(blk_cell BK225.out 0).trans rfl,(blk_cell BK225.out 1).trans rfl,(blk_cell BK225.out 2).trans rfl,(blk_cell BK225.out 3).trans rfl,(blk_cell BK225.out 4).trans rfl,(blk_cell BK225.out 5).trans rfl,(blk_cell BK225.out 6).trans rfl,HS7_,HS8_,HS9_,HS10_,HS11_,HS12_,HS13_⟩ (fun hHeld=>?_)
           clear hK K
           refine no_ (some 43) ?_
           refine pu 8 (some 9) HT_ rfl rfl ?_
           refine done_ (done_of HT_.out (by kernel_rfl)) ?_
           have p245 : 0 ≤ (t228 : Int):=of_decide_eq_true (by (with_reducible assumption))
           have q245 : t228 < (t239.length : Int):=of_decide_eq_true (by (with_reducible assumption))
           obtain ⟨ad245,e245,hx245_0,hx245_1,hx245_2,hx245_3,hx245_4,hx245_5,hx245_6⟩:=at_T62 (Kd.R_reads' HO241.out).2.2 t228 p245 q245
           obtain rfl : ad242 = ad245:=(by injection e245)
           replace p245:=eq_true p245
           replace q245:=eq_true q245
           obtain ⟨hcz39_0,hcz39_1,hcz39_2,hcz39_3,hcz39_4,hcz39_5,hcz39_6⟩:=cells7 BK225.out
           try go_wp2
           go_ret2
           exact ⟨_,by first | rfl,by (with_reducible skip);exact Kd.R_mono HO241.out (fun _ hk=>trivial),by repeat ((with_reducible first | exact HB.out))⟩
          ·rw [if_neg c32] at H
           have c32b0 : (a1_4 == 2) = false:=beq_eq_false_iff_ne.mpr c32
           have c32b1 : (a1_4 != 2) = true:=bne_iff_ne.mpr c32
           obtain ⟨y246,hy246⟩ : ∃ y_ : List (S62),y_ = (t239.set (t228 : Int).toNat (⟨a1_0,(⟨a1_1,a1_2,a1_3⟩ : S60),a1_4,a1_5,a1_6⟩ : S62)):=⟨_,rfl⟩
           replace H : (some (y246,none)) = some (r1,r2):=by (rw [hy246];with_reducible exact H)
           have Ny246:=Aside0.mk hy246
           clear hy246
           simp only [Option.some.injEq,Prod.mk.injEq] at H
           obtain ⟨rfl,rfl⟩:=H
           obtain ⟨hcz41_0,hcz41_1,hcz41_2,hcz41_3,hcz41_4,hcz41_5,hcz41_6⟩:=cells7 BK225.out
           try go_wp2_with (first | ((with_reducible refine gate_callee (f:=98) rfl ?_);refine goesL_ (some 23) rfl rfl Tryz.func98 (by kernel_rfl) rfl #[.slice A0 l0.length c0,.int .u8 a1_0,.func (.func 99) #[] #[]] rfl (by (try simp only [List.map_toArray,List.map_cons,List.map_nil]);first | rfl) ?_;(with_reducible refine (slices_BinarySearchFunc_Entry_uint8.calls _ _ l0 a1_0  t228 true _ ?side1 ?side2 A13.out).mono ?_);(case side1=>repeat (first | exact (Kd.C_below HR0.out HB.out)));(case side2=>exact HC0.out);rintro e w42 ⟨rfl,hb⟩;refine ⟨_,rfl,?_⟩;replace BK225:=Aside0.mk (blk_below BK225.out hb);replace HB:=Aside0.mk (below_step (by repeat ((with_reducible first | exact HB.out))) hb);(try clear hb)) | ((with_reducible refine gate_callee (f:=102) rfl ?_);refine goesL_ (some 35) rfl rfl Tryz.func102 (by kernel_rfl) rfl #[.slice A0 l0.length c0] rfl (by (try simp only [List.map_toArray,List.map_cons,List.map_nil]);first | rfl) ?_;(with_reducible refine (slices_Clone_Entry.calls _ _ l0 t239 _ ?side1 ?side2 A15.out).mono ?_);(case side1=>repeat (first | exact (Kd.C_below HR0.out HB.out)));(case side2=>exact HC0.out);rintro e w43 ⟨v240,rfl,ho0,hb⟩;refine ⟨_,rfl,?_⟩;have n0_:=Aside0.mk (Kd.R_lower (Kd.R_newB ho0 (g:=gb225) (o:=.cells #[.int .u8 a1_0,.int .u8 a1_1,.int .u32 a1_2,.int .u32 a1_3,.int .i64 a1_4,.int .u8 a1_5,.int .u32 a1_6] 62 (0,0)) BK225.out) (below_size (by repeat ((with_reducible first | exact HB.out)))));have n1_:=Aside0.mk (blk_below BK225.out hb);have n2_:=Aside0.mk (below_step (by repeat ((with_reducible first | exact HB.out))) hb);clear BK225 HB;have HO241:=n0_;have BK225:=n1_;have HB:=n2_;clear n0_ n1_ n2_;(try clear hb);(try clear ho0)))
           replace HO241:=Aside0.mk (Kd.R_drew HO241.out)
           replace BK225:=Aside0.mk (blk_drew BK225.out)
           replace HB:=Aside0.mk (below_drew1 HB.out)
           obtain ⟨Ao45,co45,eo45⟩:=Kd.R_slice HO241.out
           (first | subst eo45)
           have p242 : 0 ≤ (t228 : Int):=of_decide_eq_true (by (with_reducible assumption))
           have q242 : t228 < (t239.length : Int):=of_decide_eq_true (by (with_reducible assumption))
           obtain ⟨ad242,e242,hx242_0,hx242_1,hx242_2,hx242_3,hx242_4,hx242_5,hx242_6⟩:=at_T62 (Kd.R_reads' HO241.out).2.2 t228 p242 q242
           cases e242
           replace p242:=eq_true p242
           replace q242:=eq_true q242
           refine start_ (n:=9) (S:=fun w'=>w'.cell? ⟨gb225,0,none⟩ = some (.int .u8 a1_0) ∧ w'.cell? ⟨gb225,1,none⟩ = some (.int .u8 a1_1) ∧ w'.cell? ⟨gb225,2,none⟩ = some (.int .u32 a1_2) ∧ w'.cell? ⟨gb225,3,none⟩ = some (.int .u32 a1_3) ∧ w'.cell? ⟨gb225,4,none⟩ = some (.int .i64 a1_4) ∧ w'.cell? ⟨gb225,5,none⟩ = some (.int .u8 a1_5) ∧ w'.cell? ⟨gb225,6,none⟩ = some (.int .u32 a1_6) ∧ w'.cell? (ad242.add ((t228).toNat * 7)) = some (.int .u8 ((rd_T62 t239 t228).f0)) ∧ w'.cell? ⟨(ad242.add ((t228).toNat * 7)).block,(ad242.add ((t228).toNat * 7)).off + 1,none⟩ = some (.int .u8 ((rd_T62 t239 t228).f1.f0)) ∧ w'.cell? ⟨(ad242.add ((t228).toNat * 7)).block,(ad242.add ((t228).toNat * 7)).off + 2,none⟩ = some (.int .u32 ((rd_T62 t239 t228).f1.f1)) ∧ w'.cell? ⟨(ad242.add ((t228).toNat * 7)).block,(ad242.add ((t228).toNat * 7)).off + 3,none⟩ = some (.int .u32 ((rd_T62 t239 t228).f1.f2)) ∧ w'.cell? ⟨(ad242.add ((t228).toNat * 7)).block,(ad242.add ((t228).toNat * 7)).off + 4,none⟩ = some (.int .i64 ((rd_T62 t239 t228).f2)) ∧ w'.cell? ⟨(ad242.add ((t228).toNat * 7)).block,(ad242.add ((t228).toNat * 7)).off + 5,none⟩ = some (.int .u8 ((rd_T62 t239 t228).f3)) ∧ w'.cell? ⟨(ad242.add ((t228).toNat * 7)).block,(ad242.add ((t228).toNat * 7)).off + 6,none⟩ = some (.int .u32 ((rd_T62 t239 t228).f4))) (ds:=[]) #[false,false,false,false,false,false,false,false,false] (by kernel_rfl) rfl rfl ⟨(blk_cell BK225.out 0).trans rfl,(blk_cell BK225.out 1).trans rfl,(blk_cell BK225.out 2).trans rfl,(blk_cell BK225.out 3).trans rfl,(blk_cell BK225.out 4).trans rfl,(blk_cell BK225.out 5).trans rfl,(blk_cell BK225.out 6).trans rfl,hx242_0,hx242_1,hx242_2,hx242_3,hx242_4,hx242_5,hx242_6⟩ (fun hHeld=>?_);refine with_tabW item_Take.tab7 item_Take.bits7 (fun HT_ HW_=>?_)
           generalize w43.drew = w44 at HO241 BK225 HB hx242_0 hx242_1 hx242_2 hx242_3 hx242_4 hx242_5 hx242_6 hHeld ⊢
           refine pu 0 (some 36) HT_ rfl rfl ?_
           refine pu 1 (some 37) HT_ rfl rfl ?_
           refine pu 2 (some 38) HT_ rfl rfl ?_
           refine pu 3 (some 39) HT_ rfl rfl ?_
           refine pu 5 (some 41) HT_ rfl rfl ?_
           refine ta 4 (some 40) HT_ HW_ hHeld rfl rfl (by rintro w' ⟨s0,s1,s2,s3,s4,s5,s6,s7,s8,s9,s10,s11,s12,s13⟩;go_simp;with_reducible rfl) ?_
           refine ta 6 (some 42) HT_ HW_ hHeld rfl rfl (by rintro w' ⟨s0,s1,s2,s3,s4,s5,s6,s7,s8,s9,s10,s11,s12,s13⟩;go_simp;with_reducible rfl) ?_
           refine one_ (i:=7) (N:=some 43) #[true,true,true,true,true,true,true,true,false] rfl rfl (one_of HT_.out (by kernel_rfl)) (by decide) (fun K hK=>?_)
           refine goes_ Tryz.func103 (by kernel_rfl) rfl #[.agg #[.int .u8 ((rd_T62 t239 t228).f1.f0),.int .u32 ((rd_T62 t239 t228).f1.f1),.int .u32 ((rd_T62 t239 t228).f1.f2)],.agg #[.int .u8 a1_1,.int .u32 a1_2,.int .u32 a1_3]] (by rfl) rfl rfl (by (try simp only [List.map_toArray,List.map_cons,List.map_nil]);first | rfl) ?_
           with_reducible refine (item_Cmp.calls kj2 ((rd_T62 t239 t228).f1.f0) ((rd_T62 t239 t228).f1.f1) ((rd_T62 t239 t228).f1.f2) a1_1 a1_2 a1_3 t243 _ A18.out).mono ?_
           rintro e w46 ⟨rfl,hb⟩
           have HS7_:=(hb.cell (World.block_lt_of_cell? _ _ (hHeld.2.2.2.2.2.2.2.1))).trans (hHeld.2.2.2.2.2.2.2.1)
           have HS8_:=(hb.cell (World.block_lt_of_cell? _ _ (hHeld.2.2.2.2.2.2.2.2.1))).trans (hHeld.2.2.2.2.2.2.2.2.1)
           have HS9_:=(hb.cell (World.block_lt_of_cell? _ _ (hHeld.2.2.2.2.2.2.2.2.2.1))).trans (hHeld.2.2.2.2.2.2.2.2.2.1)
           have HS10_:=(hb.cell (World.block_lt_of_cell? _ _ (hHeld.2.2.2.2.2.2.2.2.2.2.1))).trans (hHeld.2.2.2.2.2.2.2.2.2.2.1)
           have HS11_:=(hb.cell (World.block_lt_of_cell? _ _ (hHeld.2.2.2.2.2.2.2.2.2.2.2.1))).trans (hHeld.2.2.2.2.2.2.2.2.2.2.2.1)
           have HS12_:=(hb.cell (World.block_lt_of_cell? _ _ (hHeld.2.2.2.2.2.2.2.2.2.2.2.2.1))).trans (hHeld.2.2.2.2.2.2.2.2.2.2.2.2.1)
           have HS13_:=(hb.cell (World.block_lt_of_cell? _ _ (hHeld.2.2.2.2.2.2.2.2.2.2.2.2.2))).trans (hHeld.2.2.2.2.2.2.2.2.2.2.2.2.2)
           refine ⟨_,rfl,?_⟩
           replace HO241:=Aside0.mk (Kd.R_below HO241.out hb)
           replace BK225:=Aside0.mk (blk_below BK225.out hb)
           replace HB:=Aside0.mk (below_step (by repeat ((with_reducible first | exact HB.out))) hb)
           (try clear hb)
           refine hK.out _ _ ⟨(blk_cell BK225.out 0).trans rfl,(blk_cell BK225.out 1).trans rfl,(blk_cell BK225.out 2).trans rfl,(blk_cell BK225.out 3).trans rfl,(blk_cell BK225.out 4).trans rfl,(blk_cell BK225.out 5).trans rfl,(blk_cell BK225.out 6).trans rfl,HS7_,HS8_,HS9_,HS10_,HS11_,HS12_,HS13_⟩ (fun hHeld=>?_)
           clear hK K
           refine no_ (some 43) ?_
           refine pu 8 (some 9) HT_ rfl rfl ?_
           refine done_ (done_of HT_.out (by kernel_rfl)) ?_
           have p245 : 0 ≤ (t228 : Int):=of_decide_eq_true (by (with_reducible assumption))
           have q245 : t228 < (t239.length : Int):=of_decide_eq_true (by (with_reducible assumption))
           obtain ⟨ad245,e245,hx245_0,hx245_1,hx245_2,hx245_3,hx245_4,hx245_5,hx245_6⟩:=at_T62 (Kd.R_reads' HO241.out).2.2 t228 p245 q245
           obtain rfl : ad242 = ad245:=(by injection e245)
           replace p245:=eq_true p245
           replace q245:=eq_true q245
           obtain ⟨hcz47_0,hcz47_1,hcz47_2,hcz47_3,hcz47_4,hcz47_5,hcz47_6⟩:=cells7 BK225.out
           have p40 : 0 ≤ (t228 : Int):=of_decide_eq_true (by (with_reducible assumption))
           have q40 : (t228 : Int) < ((t239.length : Int) : Int):=of_decide_eq_true (by (with_reducible assumption))
           obtain ⟨go40,co40,eo40,gb40,gl40,cl40,HG40⟩:=Kd.R_form HO241.out (by omega)
           (first | cases eo40)
           have GB40:=Aside0.mk gb40
           have GG40:=Aside0.mk HG40
           clear gb40 gl40 HG40
           (first | simp only [add_plain] at hx242_0)
           (first | simp only [add_plain] at hx242_1)
           (first | simp only [add_plain] at hx242_2)
           (first | simp only [add_plain] at hx242_3)
           (first | simp only [add_plain] at hx242_4)
           (first | simp only [add_plain] at hx242_5)
           (first | simp only [add_plain] at hx242_6)
           (first | simp only [add_plain] at hx245_0)
           (first | simp only [add_plain] at hx245_1)
           (first | simp only [add_plain] at hx245_2)
           (first | simp only [add_plain] at hx245_3)
           (first | simp only [add_plain] at hx245_4)
           (first | simp only [add_plain] at hx245_5)
           (first | simp only [add_plain] at hx245_6)
           obtain ⟨ce40,hcl40,hM40,hcc40,hfr40⟩:=Kd.R_elem HO241.out z62 (t228 : Int) p40 q40
           obtain rfl:=k62_openM hM40
           have hx40_0 : w46.cell? ⟨go40,(t228 : Int).toNat * 7,none⟩ = some (.int .u8 ((rd_T62 t239 t228).f0)):=hcc40 0 _ rfl
           have hx40_1 : w46.cell? ⟨go40,(t228 : Int).toNat * 7 + 1,none⟩ = some (.int .u8 ((rd_T62 t239 t228).f1.f0)):=hcc40 1 _ rfl
           have hx40_2 : w46.cell? ⟨go40,(t228 : Int).toNat * 7 + 2,none⟩ = some (.int .u32 ((rd_T62 t239 t228).f1.f1)):=hcc40 2 _ rfl
           have hx40_3 : w46.cell? ⟨go40,(t228 : Int).toNat * 7 + 3,none⟩ = some (.int .u32 ((rd_T62 t239 t228).f1.f2)):=hcc40 3 _ rfl
           have hx40_4 : w46.cell? ⟨go40,(t228 : Int).toNat * 7 + 4,none⟩ = some (.int .i64 ((rd_T62 t239 t228).f2)):=hcc40 4 _ rfl
           have hx40_5 : w46.cell? ⟨go40,(t228 : Int).toNat * 7 + 5,none⟩ = some (.int .u8 ((rd_T62 t239 t228).f3)):=hcc40 5 _ rfl
           have hx40_6 : w46.cell? ⟨go40,(t228 : Int).toNat * 7 + 6,none⟩ = some (.int .u32 ((rd_T62 t239 t228).f4)):=hcc40 6 _ rfl
           have hf40_0 : w46.frozen? ⟨go40,(t228 : Int).toNat * 7,none⟩ = false:=hfr40 0
           have hf40_1 : w46.frozen? ⟨go40,(t228 : Int).toNat * 7 + 1,none⟩ = false:=hfr40 1
           have hf40_2 : w46.frozen? ⟨go40,(t228 : Int).toNat * 7 + 2,none⟩ = false:=hfr40 2
           have hf40_3 : w46.frozen? ⟨go40,(t228 : Int).toNat * 7 + 3,none⟩ = false:=hfr40 3
           have hf40_4 : w46.frozen? ⟨go40,(t228 : Int).toNat * 7 + 4,none⟩ = false:=hfr40 4
           have hf40_5 : w46.frozen? ⟨go40,(t228 : Int).toNat * 7 + 5,none⟩ = false:=hfr40 5
           have hf40_6 : w46.frozen? ⟨go40,(t228 : Int).toNat * 7 + 6,none⟩ = false:=hfr40 6
           clear hcl40 hcc40 hfr40 hM40
           replace p40:=eq_true p40
           replace q40:=eq_true q40
           have n_:=Aside0.mk (Kd.R_mono (ok':=(fun k_=>k_ ≠ gb225)) HO241.out (fun k_ hk=>hk.2))
           clear HO241
           have HO241:=n_
           clear n_
           have HX48:=Aside0.mk (show Kd.R k62 62 w46 w.heap.size (fun k_=>k_ ≠ gb225) (.slice (some ⟨go40,0,none⟩) t239.length co45) t239 from HO241.out)
           obtain ⟨ce48,hcl48,hM48,hcc48,hfr48⟩:=Kd.R_elem HX48.out z62 (t228 : Int) (of_decide_eq_true (by (with_reducible assumption))) (by have h_ : (t228 : Int) < ((t239.length : Int) : Int):=of_decide_eq_true (by (with_reducible assumption));first | exact h_)
           obtain rfl:=k62_openM hM48
           have HP48:=Kd.R_seg HX48.out (t228 : Int) (of_decide_eq_true (by (with_reducible assumption))) (by have h_ : (t228 : Int) < ((t239.length : Int) : Int):=of_decide_eq_true (by (with_reducible assumption));first | exact h_) (seg:=[.int .u8 a1_0,.int .u8 a1_1,.int .u32 a1_2,.int .u32 a1_3,.int .i64 a1_4,.int .u8 a1_5,.int .u32 a1_6]) (j:=0) hcl48 hcc48 (show 7 ≤ 7 from by decide) (x':=(⟨a1_0,(⟨a1_1,a1_2,a1_3⟩ : S60),a1_4,a1_5,a1_6⟩ : S62)) (k62_mkM _ _ _ (⟨a1_0,(⟨a1_1,a1_2,a1_3⟩ : S60),a1_4,a1_5,a1_6⟩ : S62) ) (fun _ hk=>hk)
           have hx48_0:=hcc48 0 _ rfl
           (try simp only [show (k62).sz = 7 from rfl,Nat.mul_one,Nat.add_zero] at hx48_0)
           have hf48_0:=hfr48 0
           (try simp only [show (k62).sz = 7 from rfl,Nat.mul_one,Nat.add_zero] at hf48_0)
           have hx48_1:=hcc48 1 _ rfl
           (try simp only [show (k62).sz = 7 from rfl,Nat.mul_one,Nat.add_zero] at hx48_1)
           have hf48_1:=hfr48 1
           (try simp only [show (k62).sz = 7 from rfl,Nat.mul_one,Nat.add_zero] at hf48_1)
           have hx48_2:=hcc48 2 _ rfl
           (try simp only [show (k62).sz = 7 from rfl,Nat.mul_one,Nat.add_zero] at hx48_2)
           have hf48_2:=hfr48 2
           (try simp only [show (k62).sz = 7 from rfl,Nat.mul_one,Nat.add_zero] at hf48_2)
           have hx48_3:=hcc48 3 _ rfl
           (try simp only [show (k62).sz = 7 from rfl,Nat.mul_one,Nat.add_zero] at hx48_3)
           have hf48_3:=hfr48 3
           (try simp only [show (k62).sz = 7 from rfl,Nat.mul_one,Nat.add_zero] at hf48_3)
           have hx48_4:=hcc48 4 _ rfl
           (try simp only [show (k62).sz = 7 from rfl,Nat.mul_one,Nat.add_zero] at hx48_4)
           have hf48_4:=hfr48 4
           (try simp only [show (k62).sz = 7 from rfl,Nat.mul_one,Nat.add_zero] at hf48_4)
           have hx48_5:=hcc48 5 _ rfl
           (try simp only [show (k62).sz = 7 from rfl,Nat.mul_one,Nat.add_zero] at hx48_5)
           have hf48_5:=hfr48 5
           (try simp only [show (k62).sz = 7 from rfl,Nat.mul_one,Nat.add_zero] at hf48_5)
           have hx48_6:=hcc48 6 _ rfl
           (try simp only [show (k62).sz = 7 from rfl,Nat.mul_one,Nat.add_zero] at hx48_6)
           have hf48_6:=hfr48 6
           (try simp only [show (k62).sz = 7 from rfl,Nat.mul_one,Nat.add_zero] at hf48_6)
           clear hcl48 hcc48 hfr48 hM48
           try go_wp2_with (((with_reducible refine gate_store (t:=62) (p:=65) rfl ?_);refine store_event (t:=62) (p:=65) (v:=?vo_w49) (w1:=(((((((w46.setCell ⟨go40,(t228 : Int).toNat * 7,none⟩ (.int .u8 a1_0)).setCell ⟨go40,(t228 : Int).toNat * 7 + 1,none⟩ (.int .u8 a1_1)).setCell ⟨go40,(t228 : Int).toNat * 7 + 2,none⟩ (.int .u32 a1_2)).setCell ⟨go40,(t228 : Int).toNat * 7 + 3,none⟩ (.int .u32 a1_3)).setCell ⟨go40,(t228 : Int).toNat * 7 + 4,none⟩ (.int .i64 a1_4)).setCell ⟨go40,(t228 : Int).toNat * 7 + 5,none⟩ (.int .u8 a1_5)).setCell ⟨go40,(t228 : Int).toNat * 7 + 6,none⟩ (.int .u32 a1_6))) ?hg ?ho ?hn ?hr ?_;(case ho=>rfl);(case hg=>rfl);(case hn=>rfl);(case hr=>(go_simp;done));intro w49 hw;have hg : w46.grownBy w49 (some go40):=(by rw [hw];exact HP48.2);have hp_ : Kd.R k62 62 w49 w.heap.size (fun k_=>k_ ≠ gb225) (.slice (some ⟨go40,0,none⟩) t239.length co45) y246:=(by rw [hw,Ny246.out];exact HP48.1);clear HP48;replace BK225:=Aside0.mk (blk_grown (g:=gb225) (o:=.cells #[.int .u8 a1_0,.int .u8 a1_1,.int .u32 a1_2,.int .u32 a1_3,.int .i64 a1_4,.int .u8 a1_5,.int .u32 a1_6] 62 (0,0)) BK225.out hg (Kd.R_away HO241.out (fun _ hk=>hk)));replace HO241:=Aside0.mk (hp_);replace HB:=Aside0.mk ((by rw [hw];exact below_set (below_set (below_set (below_set (below_set (below_set (below_set (HB.out) GB40.out) GB40.out) GB40.out) GB40.out) GB40.out) GB40.out) GB40.out : Below w.heap.size w w49));clear hg hw hp_))
           go_ret2
           exact ⟨_,by first | rfl,by (with_reducible skip);exact Kd.R_mono HO241.out (fun _ hk=>trivial),by repeat ((with_reducible first | exact HB.out))⟩
         ·rw [if_neg c31] at H
          have c31b0 : (((rd_T62 t239 t228).f2) == 2) = false:=beq_eq_false_iff_ne.mpr c31
          have c31b1 : (((rd_T62 t239 t228).f2) != 2) = true:=bne_iff_ne.mpr c31
          simp only [Option.some.injEq,Prod.mk.injEq] at H
          obtain ⟨rfl,rfl⟩:=H
          obtain ⟨hcz50_0,hcz50_1,hcz50_2,hcz50_3,hcz50_4,hcz50_5,hcz50_6⟩:=cells7 BK225.out
          try go_wp2_with (first | ((with_reducible refine gate_callee (f:=98) rfl ?_);refine goesL_ (some 23) rfl rfl Tryz.func98 (by kernel_rfl) rfl #[.slice A0 l0.length c0,.int .u8 a1_0,.func (.func 99) #[] #[]] rfl (by (try simp only [List.map_toArray,List.map_cons,List.map_nil]);first | rfl) ?_;(with_reducible refine (slices_BinarySearchFunc_Entry_uint8.calls _ _ l0 a1_0  t228 true _ ?side1 ?side2 A13.out).mono ?_);(case side1=>repeat (first | exact (Kd.C_below HR0.out HB.out)));(case side2=>exact HC0.out);rintro e w51 ⟨rfl,hb⟩;refine ⟨_,rfl,?_⟩;replace BK225:=Aside0.mk (blk_below BK225.out hb);replace HB:=Aside0.mk (below_step (by repeat ((with_reducible first | exact HB.out))) hb);(try clear hb)) | ((with_reducible refine gate_callee (f:=102) rfl ?_);refine goesL_ (some 35) rfl rfl Tryz.func102 (by kernel_rfl) rfl #[.slice A0 l0.length c0] rfl (by (try simp only [List.map_toArray,List.map_cons,List.map_nil]);first | rfl) ?_;(with_reducible refine (slices_Clone_Entry.calls _ _ l0 t239 _ ?side1 ?side2 A15.out).mono ?_);(case side1=>repeat (first | exact (Kd.C_below HR0.out HB.out)));(case side2=>exact HC0.out);rintro e w52 ⟨v240,rfl,ho0,hb⟩;refine ⟨_,rfl,?_⟩;have n0_:=Aside0.mk (Kd.R_lower (Kd.R_newB ho0 (g:=gb225) (o:=.cells #[.int .u8 a1_0,.int .u8 a1_1,.int .u32 a1_2,.int .u32 a1_3,.int .i64 a1_4,.int .u8 a1_5,.int .u32 a1_6] 62 (0,0)) BK225.out) (below_size (by repeat ((with_reducible first | exact HB.out)))));have n1_:=Aside0.mk (blk_below BK225.out hb);have n2_:=Aside0.mk (below_step (by repeat ((with_reducible first | exact HB.out))) hb);clear BK225 HB;have HO241:=n0_;have BK225:=n1_;have HB:=n2_;clear n0_ n1_ n2_;(try clear hb);(try clear ho0)))
          replace HO241:=Aside0.mk (Kd.R_drew HO241.out)
          replace BK225:=Aside0.mk (blk_drew BK225.out)
          replace HB:=Aside0.mk (below_drew1 HB.out)
          obtain ⟨Ao54,co54,eo54⟩:=Kd.R_slice HO241.out
          (first | subst eo54)
          have p242 : 0 ≤ (t228 : Int):=of_decide_eq_true (by (with_reducible assumption))
          have q242 : t228 < (t239.length : Int):=of_decide_eq_true (by (with_reducible assumption))
          obtain ⟨ad242,e242,hx242_0,hx242_1,hx242_2,hx242_3,hx242_4,hx242_5,hx242_6⟩:=at_T62 (Kd.R_reads' HO241.out).2.2 t228 p242 q242
          cases e242
          replace p242:=eq_true p242
          replace q242:=eq_true q242
          refine start_ (n:=9) (S:=fun w'=>w'.cell? ⟨gb225,0,none⟩ = some (.int .u8 a1_0) ∧ w'.cell? ⟨gb225,1,none⟩ = some (.int .u8 a1_1) ∧ w'.cell? ⟨gb225,2,none⟩ = some (.int .u32 a1_2) ∧ w'.cell? ⟨gb225,3,none⟩ = some (.int .u32 a1_3) ∧ w'.cell? ⟨gb225,4,none⟩ = some (.int .i64 a1_4) ∧ w'.cell? ⟨gb225,5,none⟩ = some (.int .u8 a1_5) ∧ w'.cell? ⟨gb225,6,none⟩ = some (.int .u32 a1_6) ∧ w'.cell? (ad242.add ((t228).toNat * 7)) = some (.int .u8 ((rd_T62 t239 t228).f0)) ∧ w'.cell? ⟨(ad242.add ((t228).toNat * 7)).block,(ad242.add ((t228).toNat * 7)).off + 1,none⟩ = some (.int .u8 ((rd_T62 t239 t228).f1.f0)) ∧ w'.cell? ⟨(ad242.add ((t228).toNat * 7)).block,(ad242.add ((t228).toNat * 7)).off + 2,none⟩ = some (.int .u32 ((rd_T62 t239 t228).f1.f1)) ∧ w'.cell? ⟨(ad242.add ((t228).toNat * 7)).block,(ad242.add ((t228).toNat * 7)).off + 3,none⟩ = some (.int .u32 ((rd_T62 t239 t228).f1.f2)) ∧ w'.cell? ⟨(ad242.add ((t228).toNat * 7)).block,(ad242.add ((t228).toNat * 7)).off + 4,none⟩ = some (.int .i64 ((rd_T62 t239 t228).f2)) ∧ w'.cell? ⟨(ad242.add ((t228).toNat * 7)).block,(ad242.add ((t228).toNat * 7)).off + 5,none⟩ = some (.int .u8 ((rd_T62 t239 t228).f3)) ∧ w'.cell? ⟨(ad242.add ((t228).toNat * 7)).block,(ad242.add ((t228).toNat * 7)).off + 6,none⟩ = some (.int .u32 ((rd_T62 t239 t228).f4))) (ds:=[]) #[false,false,false,false,false,false,false,false,false] (by kernel_rfl) rfl rfl ⟨(blk_cell BK225.out 0).trans rfl,(blk_cell BK225.out 1).trans rfl,(blk_cell BK225.out 2).trans rfl,(blk_cell BK225.out 3).trans rfl,(blk_cell BK225.out 4).trans rfl,(blk_cell BK225.out 5).trans rfl,(blk_cell BK225.out 6).trans rfl,hx242_0,hx242_1,hx242_2,hx242_3,hx242_4,hx242_5,hx242_6⟩ (fun hHeld=>?_);refine with_tabW item_Take.tab7 item_Take.bits7 (fun HT_ HW_=>?_)
          generalize w52.drew = w53 at HO241 BK225 HB hx242_0 hx242_1 hx242_2 hx242_3 hx242_4 hx242_5 hx242_6 hHeld ⊢
          refine pu 0 (some 36) HT_ rfl rfl ?_
          refine pu 1 (some 37) HT_ rfl rfl ?_
          refine pu 2 (some 38) HT_ rfl rfl ?_
          refine pu 3 (some 39) HT_ rfl rfl ?_
          refine pu 5 (some 41) HT_ rfl rfl ?_
          refine ta 4 (some 40) HT_ HW_ hHeld rfl rfl (by rintro w' ⟨s0,s1,s2,s3,s4,s5,s6,s7,s8,s9,s10,s11,s12,s13⟩;go_simp;with_reducible rfl) ?_
          refine ta 6 (some 42) HT_ HW_ hHeld rfl rfl (by rintro w' ⟨s0,s1,s2,s3,s4,s5,s6,s7,s8,s9,s10,s11,s12,s13⟩;go_simp;with_reducible rfl) ?_
          refine one_ (i:=7) (N:=some 43) #[true,true,true,true,true,true,true,true,false] rfl rfl (one_of HT_.out (by kernel_rfl)) (by decide) (fun K hK=>?_)
          refine goes_ Tryz.func103 (by kernel_rfl) rfl #[.agg #[.int .u8 ((rd_T62 t239 t228).f1.f0),.int .u32 ((rd_T62 t239 t228).f1.f1),.int .u32 ((rd_T62 t239 t228).f1.f2)],.agg #[.int .u8 a1_1,.int .u32 a1_2,.int .u32 a1_3]] (by rfl) rfl rfl (by (try simp only [List.map_toArray,List.map_cons,List.map_nil]);first | rfl) ?_
          with_reducible refine (item_Cmp.calls kj2 ((rd_T62 t239 t228).f1.f0) ((rd_T62 t239 t228).f1.f1) ((rd_T62 t239 t228).f1.f2) a1_1 a1_2 a1_3 t243 _ A18.out).mono ?_
          rintro e w55 ⟨rfl,hb⟩
          have HS7_:=(hb.cell (World.block_lt_of_cell? _ _ (hHeld.2.2.2.2.2.2.2.1))).trans (hHeld.2.2.2.2.2.2.2.1)
          have HS8_:=(hb.cell (World.block_lt_of_cell? _ _ (hHeld.2.2.2.2.2.2.2.2.1))).trans (hHeld.2.2.2.2.2.2.2.2.1)
          have HS9_:=(hb.cell (World.block_lt_of_cell? _ _ (hHeld.2.2.2.2.2.2.2.2.2.1))).trans (hHeld.2.2.2.2.2.2.2.2.2.1)
          have HS10_:=(hb.cell (World.block_lt_of_cell? _ _ (hHeld.2.2.2.2.2.2.2.2.2.2.1))).trans (hHeld.2.2.2.2.2.2.2.2.2.2.1)
          have HS11_:=(hb.cell (World.block_lt_of_cell? _ _ (hHeld.2.2.2.2.2.2.2.2.2.2.2.1))).trans (hHeld.2.2.2.2.2.2.2.2.2.2.2.1)
          have HS12_:=(hb.cell (World.block_lt_of_cell? _ _ (hHeld.2.2.2.2.2.2.2.2.2.2.2.2.1))).trans (hHeld.2.2.2.2.2.2.2.2.2.2.2.2.1)
          have HS13_:=(hb.cell (World.block_lt_of_cell? _ _ (hHeld.2.2.2.2.2.2.2.2.2.2.2.2.2))).trans (hHeld.2.2.2.2.2.2.2.2.2.2.2.2.2)
          refine ⟨_,rfl,?_⟩
          replace HO241:=Aside0.mk (Kd.R_below HO241.out hb)
          replace BK225:=Aside0.mk (blk_below BK225.out hb)
          replace HB:=Aside0.mk (below_step (by repeat ((with_reducible first | exact HB.out))) hb)
          (try clear hb)
          refine hK.out _ _ ⟨(blk_cell BK225.out 0).trans rfl,(blk_cell BK225.out 1).trans rfl,(blk_cell BK225.out 2).trans rfl,(blk_cell BK225.out 3).trans rfl,(blk_cell BK225.out 4).trans rfl,(blk_cell BK225.out 5).trans rfl,(blk_cell BK225.out 6).trans rfl,HS7_,HS8_,HS9_,HS10_,HS11_,HS12_,HS13_⟩ (fun hHeld=>?_)
          clear hK K
          refine no_ (some 43) ?_
          refine pu 8 (some 9) HT_ rfl rfl ?_
          refine done_ (done_of HT_.out (by kernel_rfl)) ?_
          have p245 : 0 ≤ (t228 : Int):=of_decide_eq_true (by (with_reducible assumption))
          have q245 : t228 < (t239.length : Int):=of_decide_eq_true (by (with_reducible assumption))
          obtain ⟨ad245,e245,hx245_0,hx245_1,hx245_2,hx245_3,hx245_4,hx245_5,hx245_6⟩:=at_T62 (Kd.R_reads' HO241.out).2.2 t228 p245 q245
          obtain rfl : ad242 = ad245:=(by injection e245)
          replace p245:=eq_true p245
          replace q245:=eq_true q245
          try go_wp2
          go_ret2
          exact ⟨_,by first | rfl,by (with_reducible skip);exact Kd.R_mono HO241.out (fun _ hk=>trivial),by repeat ((with_reducible first | exact HB.out))⟩
        ·rw [if_neg c30] at H
         have c30b0 : (t243 == 0) = false:=beq_eq_false_iff_ne.mpr c30
         have c30b1 : (t243 != 0) = true:=bne_iff_ne.mpr c30
         simp only [Option.some.injEq,Prod.mk.injEq] at H
         obtain ⟨rfl,rfl⟩:=H
         obtain ⟨hcz56_0,hcz56_1,hcz56_2,hcz56_3,hcz56_4,hcz56_5,hcz56_6⟩:=cells7 BK225.out
         try go_wp2_with (first | ((with_reducible refine gate_callee (f:=98) rfl ?_);refine goesL_ (some 23) rfl rfl Tryz.func98 (by kernel_rfl) rfl #[.slice A0 l0.length c0,.int .u8 a1_0,.func (.func 99) #[] #[]] rfl (by (try simp only [List.map_toArray,List.map_cons,List.map_nil]);first | rfl) ?_;(with_reducible refine (slices_BinarySearchFunc_Entry_uint8.calls _ _ l0 a1_0  t228 true _ ?side1 ?side2 A13.out).mono ?_);(case side1=>repeat (first | exact (Kd.C_below HR0.out HB.out)));(case side2=>exact HC0.out);rintro e w57 ⟨rfl,hb⟩;refine ⟨_,rfl,?_⟩;replace BK225:=Aside0.mk (blk_below BK225.out hb);replace HB:=Aside0.mk (below_step (by repeat ((with_reducible first | exact HB.out))) hb);(try clear hb)) | ((with_reducible refine gate_callee (f:=102) rfl ?_);refine goesL_ (some 35) rfl rfl Tryz.func102 (by kernel_rfl) rfl #[.slice A0 l0.length c0] rfl (by (try simp only [List.map_toArray,List.map_cons,List.map_nil]);first | rfl) ?_;(with_reducible refine (slices_Clone_Entry.calls _ _ l0 t239 _ ?side1 ?side2 A15.out).mono ?_);(case side1=>repeat (first | exact (Kd.C_below HR0.out HB.out)));(case side2=>exact HC0.out);rintro e w58 ⟨v240,rfl,ho0,hb⟩;refine ⟨_,rfl,?_⟩;have n0_:=Aside0.mk (Kd.R_lower (Kd.R_newB ho0 (g:=gb225) (o:=.cells #[.int .u8 a1_0,.int .u8 a1_1,.int .u32 a1_2,.int .u32 a1_3,.int .i64 a1_4,.int .u8 a1_5,.int .u32 a1_6] 62 (0,0)) BK225.out) (below_size (by repeat ((with_reducible first | exact HB.out)))));have n1_:=Aside0.mk (blk_below BK225.out hb);have n2_:=Aside0.mk (below_step (by repeat ((with_reducible first | exact HB.out))) hb);clear BK225 HB;have HO241:=n0_;have BK225:=n1_;have HB:=n2_;clear n0_ n1_ n2_;(try clear hb);(try clear ho0)))
         replace HO241:=Aside0.mk (Kd.R_drew HO241.out)
         replace BK225:=Aside0.mk (blk_drew BK225.out)
         replace HB:=Aside0.mk (below_drew1 HB.out)
         obtain ⟨Ao60,co60,eo60⟩:=Kd.R_slice HO241.out
         (first | subst eo60)
         have p242 : 0 ≤ (t228 : Int):=of_decide_eq_true (by (with_reducible assumption))
         have q242 : t228 < (t239.length : Int):=of_decide_eq_true (by (with_reducible assumption))
         obtain ⟨ad242,e242,hx242_0,hx242_1,hx242_2,hx242_3,hx242_4,hx242_5,hx242_6⟩:=at_T62 (Kd.R_reads' HO241.out).2.2 t228 p242 q242
         cases e242
         replace p242:=eq_true p242
         replace q242:=eq_true q242
         refine start_ (n:=9) (S:=fun w'=>w'.cell? ⟨gb225,0,none⟩ = some (.int .u8 a1_0) ∧ w'.cell? ⟨gb225,1,none⟩ = some (.int .u8 a1_1) ∧ w'.cell? ⟨gb225,2,none⟩ = some (.int .u32 a1_2) ∧ w'.cell? ⟨gb225,3,none⟩ = some (.int .u32 a1_3) ∧ w'.cell? ⟨gb225,4,none⟩ = some (.int .i64 a1_4) ∧ w'.cell? ⟨gb225,5,none⟩ = some (.int .u8 a1_5) ∧ w'.cell? ⟨gb225,6,none⟩ = some (.int .u32 a1_6) ∧ w'.cell? (ad242.add ((t228).toNat * 7)) = some (.int .u8 ((rd_T62 t239 t228).f0)) ∧ w'.cell? ⟨(ad242.add ((t228).toNat * 7)).block,(ad242.add ((t228).toNat * 7)).off + 1,none⟩ = some (.int .u8 ((rd_T62 t239 t228).f1.f0)) ∧ w'.cell? ⟨(ad242.add ((t228).toNat * 7)).block,(ad242.add ((t228).toNat * 7)).off + 2,none⟩ = some (.int .u32 ((rd_T62 t239 t228).f1.f1)) ∧ w'.cell? ⟨(ad242.add ((t228).toNat * 7)).block,(ad242.add ((t228).toNat * 7)).off + 3,none⟩ = some (.int .u32 ((rd_T62 t239 t228).f1.f2)) ∧ w'.cell? ⟨(ad242.add ((t228).toNat * 7)).block,(ad242.add ((t228).toNat * 7)).off + 4,none⟩ = some (.int .i64 ((rd_T62 t239 t228).f2)) ∧ w'.cell? ⟨(ad242.add ((t228).toNat * 7)).block,(ad242.add ((t228).toNat * 7)).off + 5,none⟩ = some (.int .u8 ((rd_T62 t239 t228).f3)) ∧ w'.cell? ⟨(ad242.add ((t228).toNat * 7)).block,(ad242.add ((t228).toNat * 7)).off + 6,none⟩ = some (.int .u32 ((rd_T62 t239 t228).f4))) (ds:=[]) #[false,false,false,false,false,false,false,false,false] (by kernel_rfl) rfl rfl ⟨(blk_cell BK225.out 0).trans rfl,(blk_cell BK225.out 1).trans rfl,(blk_cell BK225.out 2).trans rfl,(blk_cell BK225.out 3).trans rfl,(blk_cell BK225.out 4).trans rfl,(blk_cell BK225.out 5).trans rfl,(blk_cell BK225.out 6).trans rfl,hx242_0,hx242_1,hx242_2,hx242_3,hx242_4,hx242_5,hx242_6⟩ (fun hHeld=>?_);refine with_tabW item_Take.tab7 item_Take.bits7 (fun HT_ HW_=>?_)
         generalize w58.drew = w59 at HO241 BK225 HB hx242_0 hx242_1 hx242_2 hx242_3 hx242_4 hx242_5 hx242_6 hHeld ⊢
         refine pu 0 (some 36) HT_ rfl rfl ?_
         refine pu 1 (some 37) HT_ rfl rfl ?_
         refine pu 2 (some 38) HT_ rfl rfl ?_
         refine pu 3 (some 39) HT_ rfl rfl ?_
         refine pu 5 (some 41) HT_ rfl rfl ?_
         refine ta 4 (some 40) HT_ HW_ hHeld rfl rfl (by rintro w' ⟨s0,s1,s2,s3,s4,s5,s6,s7,s8,s9,s10,s11,s12,s13⟩;go_simp;with_reducible rfl) ?_
         refine ta 6 (some 42) HT_ HW_ hHeld rfl rfl (by rintro w' ⟨s0,s1,s2,s3,s4,s5,s6,s7,s8,s9,s10,s11,s12,s13⟩;go_simp;with_reducible rfl) ?_
         refine one_ (i:=7) (N:=some 43) #[true,true,true,true,true,true,true,true,false] rfl rfl (one_of HT_.out (by kernel_rfl)) (by decide) (fun K hK=>?_)
         refine goes_ Tryz.func103 (by kernel_rfl) rfl #[.agg #[.int .u8 ((rd_T62 t239 t228).f1.f0),.int .u32 ((rd_T62 t239 t228).f1.f1),.int .u32 ((rd_T62 t239 t228).f1.f2)],.agg #[.int .u8 a1_1,.int .u32 a1_2,.int .u32 a1_3]] (by rfl) rfl rfl (by (try simp only [List.map_toArray,List.map_cons,List.map_nil]);first | rfl) ?_
         with_reducible refine (item_Cmp.calls kj2 ((rd_T62 t239 t228).f1.f0) ((rd_T62 t239 t228).f1.f1) ((rd_T62 t239 t228).f1.f2) a1_1 a1_2 a1_3 t243 _ A18.out).mono ?_
         rintro e w61 ⟨rfl,hb⟩
         have HS7_:=(hb.cell (World.block_lt_of_cell? _ _ (hHeld.2.2.2.2.2.2.2.1))).trans (hHeld.2.2.2.2.2.2.2.1)
         have HS8_:=(hb.cell (World.block_lt_of_cell? _ _ (hHeld.2.2.2.2.2.2.2.2.1))).trans (hHeld.2.2.2.2.2.2.2.2.1)
         have HS9_:=(hb.cell (World.block_lt_of_cell? _ _ (hHeld.2.2.2.2.2.2.2.2.2.1))).trans (hHeld.2.2.2.2.2.2.2.2.2.1)
         have HS10_:=(hb.cell (World.block_lt_of_cell? _ _ (hHeld.2.2.2.2.2.2.2.2.2.2.1))).trans (hHeld.2.2.2.2.2.2.2.2.2.2.1)
         have HS11_:=(hb.cell (World.block_lt_of_cell? _ _ (hHeld.2.2.2.2.2.2.2.2.2.2.2.1))).trans (hHeld.2.2.2.2.2.2.2.2.2.2.2.1)
         have HS12_:=(hb.cell (World.block_lt_of_cell? _ _ (hHeld.2.2.2.2.2.2.2.2.2.2.2.2.1))).trans (hHeld.2.2.2.2.2.2.2.2.2.2.2.2.1)
         have HS13_:=(hb.cell (World.block_lt_of_cell? _ _ (hHeld.2.2.2.2.2.2.2.2.2.2.2.2.2))).trans (hHeld.2.2.2.2.2.2.2.2.2.2.2.2.2)
         refine ⟨_,rfl,?_⟩
         replace HO241:=Aside0.mk (Kd.R_below HO241.out hb)
         replace BK225:=Aside0.mk (blk_below BK225.out hb)
         replace HB:=Aside0.mk (below_step (by repeat ((with_reducible first | exact HB.out))) hb)
         (try clear hb)
         refine hK.out _ _ ⟨(blk_cell BK225.out 0).trans rfl,(blk_cell BK225.out 1).trans rfl,(blk_cell BK225.out 2).trans rfl,(blk_cell BK225.out 3).trans rfl,(blk_cell BK225.out 4).trans rfl,(blk_cell BK225.out 5).trans rfl,(blk_cell BK225.out 6).trans rfl,HS7_,HS8_,HS9_,HS10_,HS11_,HS12_,HS13_⟩ (fun hHeld=>?_)
         clear hK K
         refine no_ (some 43) ?_
         refine pu 8 (some 9) HT_ rfl rfl ?_
         refine done_ (done_of HT_.out (by kernel_rfl)) ?_
         try go_wp2
         go_ret2
         exact ⟨_,by first | rfl,by (with_reducible skip);exact Kd.R_mono HO241.out (fun _ hk=>trivial),by repeat ((with_reducible first | exact HB.out))⟩
      ·rw [if_neg c17] at H
       exact absurd H (by simp)
     ·rw [if_neg c16] at H
      exact absurd H (by simp)
    ·replace c14:=Bool.eq_false_iff.mpr c14
     subst c14
     rw [if_neg (show ¬ (false = true) by decide)] at H
     replace H:=Option.bind_eq_some_iff.mp H
     obtain ⟨t230,A620,H⟩:=H
     have A62:=Aside0.mk A620
     clear A620
     obtain ⟨y233,hy233⟩ : ∃ y_ : List (S62),y_ = (([(⟨a1_0,(⟨a1_1,a1_2,a1_3⟩ : S60),a1_4,a1_5,a1_6⟩ : S62)] : List (S62))):=⟨_,rfl⟩
     replace H : ((slices_Insert_Entry.f t230 t228 y233).bind fun t236=>(some (t236,none))) = some (r1,r2):=by (rw [hy233];with_reducible exact H)
     have Ny233:=Aside0.mk hy233
     clear hy233
     replace H:=Option.bind_eq_some_iff.mp H
     obtain ⟨t236,A630,H⟩:=H
     have A63:=Aside0.mk A630
     clear A630
     simp only [Option.some.injEq,Prod.mk.injEq] at H
     obtain ⟨rfl,rfl⟩:=H
     obtain ⟨hcz64_0,hcz64_1,hcz64_2,hcz64_3,hcz64_4,hcz64_5,hcz64_6⟩:=cells7 BK225.out
     try go_wp2_with (((with_reducible refine gate_callee (f:=98) rfl ?_);refine goesL_ (some 23) rfl rfl Tryz.func98 (by kernel_rfl) rfl #[.slice A0 l0.length c0,.int .u8 a1_0,.func (.func 99) #[] #[]] rfl (by (try simp only [List.map_toArray,List.map_cons,List.map_nil]);first | rfl) ?_;(with_reducible refine (slices_BinarySearchFunc_Entry_uint8.calls _ _ l0 a1_0  t228 false _ ?side1 ?side2 A13.out).mono ?_);(case side1=>repeat (first | exact (Kd.C_below HR0.out HB.out)));(case side2=>exact HC0.out);rintro e w65 ⟨rfl,hb⟩;refine ⟨_,rfl,?_⟩;replace BK225:=Aside0.mk (blk_below BK225.out hb);replace HB:=Aside0.mk (below_step (by repeat ((with_reducible first | exact HB.out))) hb);(try clear hb)))
     replace BK225:=Aside0.mk (blk_drew BK225.out)
     replace HB:=Aside0.mk (below_drew1 HB.out)
     refine start_ (n:=8) (S:=fun w'=>w'.cell? ⟨gb225,0,none⟩ = some (.int .u8 a1_0) ∧ w'.cell? ⟨gb225,1,none⟩ = some (.int .u8 a1_1) ∧ w'.cell? ⟨gb225,2,none⟩ = some (.int .u32 a1_2) ∧ w'.cell? ⟨gb225,3,none⟩ = some (.int .u32 a1_3) ∧ w'.cell? ⟨gb225,4,none⟩ = some (.int .i64 a1_4) ∧ w'.cell? ⟨gb225,5,none⟩ = some (.int .u8 a1_5) ∧ w'.cell? ⟨gb225,6,none⟩ = some (.int .u32 a1_6)) (ds:=[]) #[false,false,false,false,false,false,false,false] (by kernel_rfl) rfl rfl ⟨(blk_cell BK225.out 0).trans rfl,(blk_cell BK225.out 1).trans rfl,(blk_cell BK225.out 2).trans rfl,(blk_cell BK225.out 3).trans rfl,(blk_cell BK225.out 4).trans rfl,(blk_cell BK225.out 5).trans rfl,(blk_cell BK225.out 6).trans rfl⟩ (fun hHeld=>?_);refine with_tabW item_Take.tab5 item_Take.bits5 (fun HT_ HW_=>?_)
     generalize w65.drew = w66 at BK225 HB hHeld ⊢
     refine pu 0 (some 28) HT_ rfl rfl ?_
     refine pu 2 (some 30) HT_ rfl rfl ?_
     refine ta 3 (some 31) HT_ HW_ hHeld rfl rfl (by rintro w' ⟨s0,s1,s2,s3,s4,s5,s6⟩;go_simp;with_reducible rfl) ?_
     refine join_ (σ:=Value × Value) 3 #[true,true,true,true,true,false,false,false] (fun s_=>[(29,s_.1),(32,s_.2)]) (fun s_ w'=>(w'.cell? ⟨gb225,0,none⟩ = some (.int .u8 a1_0) ∧ w'.cell? ⟨gb225,1,none⟩ = some (.int .u8 a1_1) ∧ w'.cell? ⟨gb225,2,none⟩ = some (.int .u32 a1_2) ∧ w'.cell? ⟨gb225,3,none⟩ = some (.int .u32 a1_3) ∧ w'.cell? ⟨gb225,4,none⟩ = some (.int .i64 a1_4) ∧ w'.cell? ⟨gb225,5,none⟩ = some (.int .u8 a1_5) ∧ w'.cell? ⟨gb225,6,none⟩ = some (.int .u32 a1_6)) ∧ (Kd.R k62 62 w' w.heap.size (fun k_=>some k_ ≠ (s_.2 : Value).ownBlock ∧ k_ ≠ gb225) s_.1 t230) ∧ (Kd.R k62 62 w' w.heap.size (fun k_=>some k_ ≠ (s_.1 : Value).ownBlock ∧ k_ ≠ gb225) s_.2 y233) ∧ (w'.heap[gb225]? = some (.cells #[.int .u8 a1_0,.int .u8 a1_1,.int .u32 a1_2,.int .u32 a1_3,.int .i64 a1_4,.int .u8 a1_5,.int .u32 a1_6] 62 (0,0))) ∧ (Below w.heap.size w w')) ?_ ?_
     rotate_left
     ·intro hCont
      refine two_ (i:=1) (j:=4) (Ni:=some 29) (Nj:=some 32) #[true,true,true,true,false,false,false,false] #[true,false,true,true,true,false,false,false] rfl rfl rfl rfl (two_of HT_.out (by kernel_rfl)) (by decide) (by decide) (fun K hK=>?_) (fun K hK=>?_)
      ·skip
       refine goes_ Tryz.func102 (by kernel_rfl) rfl #[.slice A0 l0.length c0] (by rfl) rfl rfl (by (try simp only [List.map_toArray,List.map_cons,List.map_nil]);first | rfl) ?_
       with_reducible refine (slices_Clone_Entry.calls _ _ l0 t230 _ ?side1 ?side2 A62.out).mono ?_
       (case side1=>repeat (first | exact (Kd.C_below HR0.out HB.out)))
       (case side2=>exact HC0.out)
       rintro e w67 ⟨v231,rfl,ho0,hb⟩
       refine ⟨_,rfl,?_⟩
       have n0_:=Aside0.mk (Kd.R_lower (Kd.R_newB ho0 (g:=gb225) (o:=.cells #[.int .u8 a1_0,.int .u8 a1_1,.int .u32 a1_2,.int .u32 a1_3,.int .i64 a1_4,.int .u8 a1_5,.int .u32 a1_6] 62 (0,0)) BK225.out) (below_size (by repeat ((with_reducible first | exact HB.out)))))
       have n1_:=Aside0.mk (blk_below BK225.out hb)
       have n2_:=Aside0.mk (below_step (by repeat ((with_reducible first | exact HB.out))) hb)
       clear BK225 HB
       have HO232:=n0_
       have BK225:=n1_
       have HB:=n2_
       clear n0_ n1_ n2_
       (try clear hb)
       (try clear ho0)
       refine hK.out _ _ ⟨(blk_cell BK225.out 0).trans rfl,(blk_cell BK225.out 1).trans rfl,(blk_cell BK225.out 2).trans rfl,(blk_cell BK225.out 3).trans rfl,(blk_cell BK225.out 4).trans rfl,(blk_cell BK225.out 5).trans rfl,(blk_cell BK225.out 6).trans rfl⟩ (fun hHeld=>?_)
       clear hK K
       refine no_ (some 29) ?_
       refine one_ (i:=4) (N:=some 32) #[true,true,true,true,true,false,false,false] rfl rfl (one_of HT_.out (by kernel_rfl)) (by decide) (fun K hK=>?_)
       refine Kd.R_lit_step k62 _ 62 ?hg (N:=32) ?hd (xs:=([(⟨a1_0,(⟨a1_1,a1_2,a1_3⟩ : S60),a1_4,a1_5,a1_6⟩ : S62)] : List (S62))) (inner:=[.int .u8 a1_0,.int .u8 a1_1,.int .u32 a1_2,.int .u32 a1_3,.int .i64 a1_4,.int .u8 a1_5,.int .u32 a1_6]) (ok:=fun _=>True) (okp:=fun _=>True) ?hr ?hp (fun _ hk=>hk) trivial (Below.refl _ _) (Nat.le_refl _) (by simp) ?_;(case hd=>rfl);(case hg=>rfl);(case hr=>(go_simp;done));(case hp=>exact (Reps.c7 (show Kd.M k62 _ _ _ (⟨a1_0,(⟨a1_1,a1_2,a1_3⟩ : S60),a1_4,a1_5,a1_6⟩ : S62) [.int .u8 a1_0,.int .u8 a1_1,.int .u32 a1_2,.int .u32 a1_3,.int .i64 a1_4,.int .u8 a1_5,.int .u32 a1_6] from (k62_mkM _ _ _ (⟨a1_0,(⟨a1_1,a1_2,a1_3⟩ : S60),a1_4,a1_5,a1_6⟩ : S62) )) (Reps.none _ _)))
       intro v234 w68 ho69 hb hg_ hnew_
       clear hg_ hnew_
       (first | rw [← Ny233.out] at ho69)
       have n0_:=Aside0.mk (Kd.R_elder' HO232.out (Kd.R_base ho69) hb)
       have n1_:=Aside0.mk (Kd.R_lower (Kd.R_newB (Kd.R_new' ho69 (Kd.R_lt HO232.out)) (g:=gb225) (o:=.cells #[.int .u8 a1_0,.int .u8 a1_1,.int .u32 a1_2,.int .u32 a1_3,.int .i64 a1_4,.int .u8 a1_5,.int .u32 a1_6] 62 (0,0)) BK225.out) (below_size (by repeat ((with_reducible first | exact HB.out)))))
       have n2_:=Aside0.mk (blk_below BK225.out hb)
       have n3_:=Aside0.mk (below_step (by repeat ((with_reducible first | exact HB.out))) hb)
       clear HO232 BK225 HB
       have HO232:=n0_
       have HO235:=n1_
       have BK225:=n2_
       have HB:=n3_
       clear n0_ n1_ n2_ n3_ hb ho69
       refine hK.out _ _ ⟨(blk_cell BK225.out 0).trans rfl,(blk_cell BK225.out 1).trans rfl,(blk_cell BK225.out 2).trans rfl,(blk_cell BK225.out 3).trans rfl,(blk_cell BK225.out 4).trans rfl,(blk_cell BK225.out 5).trans rfl,(blk_cell BK225.out 6).trans rfl⟩ (fun hHeld=>?_)
       clear hK K
       refine no_ (some 32) ?_
       exact norm_ (by simp only [putAll,Act.put,List.setIfInBounds_toArray,List.set_cons_zero,List.set_cons_succ]) (hCont (v231,v234) _ ⟨hHeld,(by (with_reducible skip);exact Kd.R_mono HO232.out (fun _ hk=>⟨hk.2,hk.1.2⟩)),(by (with_reducible skip);exact Kd.R_mono HO235.out (fun _ hk=>⟨hk.1.2,hk.2⟩)),BK225.out,(by repeat ((with_reducible first | exact HB.out)))⟩)
      ·skip
       refine Kd.R_lit_step k62 _ 62 ?hg (N:=32) ?hd (xs:=([(⟨a1_0,(⟨a1_1,a1_2,a1_3⟩ : S60),a1_4,a1_5,a1_6⟩ : S62)] : List (S62))) (inner:=[.int .u8 a1_0,.int .u8 a1_1,.int .u32 a1_2,.int .u32 a1_3,.int .i64 a1_4,.int .u8 a1_5,.int .u32 a1_6]) (ok:=fun _=>True) (okp:=fun _=>True) ?hr ?hp (fun _ hk=>hk) trivial (Below.refl _ _) (Nat.le_refl _) (by simp) ?_;(case hd=>rfl);(case hg=>rfl);(case hr=>(go_simp;done));(case hp=>exact (Reps.c7 (show Kd.M k62 _ _ _ (⟨a1_0,(⟨a1_1,a1_2,a1_3⟩ : S60),a1_4,a1_5,a1_6⟩ : S62) [.int .u8 a1_0,.int .u8 a1_1,.int .u32 a1_2,.int .u32 a1_3,.int .i64 a1_4,.int .u8 a1_5,.int .u32 a1_6] from (k62_mkM _ _ _ (⟨a1_0,(⟨a1_1,a1_2,a1_3⟩ : S60),a1_4,a1_5,a1_6⟩ : S62) )) (Reps.none _ _)))
       intro v234 w67 ho68 hb hg_ hnew_
       clear hg_ hnew_
       (first | rw [← Ny233.out] at ho68)
       have n0_:=Aside0.mk (Kd.R_lower (Kd.R_newB ho68 (g:=gb225) (o:=.cells #[.int .u8 a1_0,.int .u8 a1_1,.int .u32 a1_2,.int .u32 a1_3,.int .i64 a1_4,.int .u8 a1_5,.int .u32 a1_6] 62 (0,0)) BK225.out) (below_size (by repeat ((with_reducible first | exact HB.out)))))
       have n1_:=Aside0.mk (blk_below BK225.out hb)
       have n2_:=Aside0.mk (below_step (by repeat ((with_reducible first | exact HB.out))) hb)
       clear BK225 HB
       have HO235:=n0_
       have BK225:=n1_
       have HB:=n2_
       clear n0_ n1_ n2_ hb ho68
       refine hK.out _ _ ⟨(blk_cell BK225.out 0).trans rfl,(blk_cell BK225.out 1).trans rfl,(blk_cell BK225.out 2).trans rfl,(blk_cell BK225.out 3).trans rfl,(blk_cell BK225.out 4).trans rfl,(blk_cell BK225.out 5).trans rfl,(blk_cell BK225.out 6).trans rfl⟩ (fun hHeld=>?_)
       clear hK K
       refine no_ (some 32) ?_
       refine one_ (i:=1) (N:=some 29) #[true,true,true,true,true,false,false,false] rfl rfl (one_of HT_.out (by kernel_rfl)) (by decide) (fun K hK=>?_)
       refine goes_ Tryz.func102 (by kernel_rfl) rfl #[.slice A0 l0.length c0] (by rfl) rfl rfl (by (try simp only [List.map_toArray,List.map_cons,List.map_nil]);first | rfl) ?_
       with_reducible refine (slices_Clone_Entry.calls _ _ l0 t230 _ ?side1 ?side2 A62.out).mono ?_
       (case side1=>repeat (first | exact (Kd.C_below HR0.out HB.out)))
       (case side2=>exact HC0.out)
       rintro e w69 ⟨v231,rfl,ho0,hb⟩
       refine ⟨_,rfl,?_⟩
       have n0_:=Aside0.mk (Kd.R_elder' HO235.out (Kd.R_base ho0) hb)
       have n1_:=Aside0.mk (Kd.R_lower (Kd.R_newB (Kd.R_new' ho0 (Kd.R_lt HO235.out)) (g:=gb225) (o:=.cells #[.int .u8 a1_0,.int .u8 a1_1,.int .u32 a1_2,.int .u32 a1_3,.int .i64 a1_4,.int .u8 a1_5,.int .u32 a1_6] 62 (0,0)) BK225.out) (below_size (by repeat ((with_reducible first | exact HB.out)))))
       have n2_:=Aside0.mk (blk_below BK225.out hb)
       have n3_:=Aside0.mk (below_step (by repeat ((with_reducible first | exact HB.out))) hb)
       clear HO235 BK225 HB
       have HO235:=n0_
       have HO232:=n1_
       have BK225:=n2_
       have HB:=n3_
       clear n0_ n1_ n2_ n3_
       (try clear hb)
       (try clear ho0)
       refine hK.out _ _ ⟨(blk_cell BK225.out 0).trans rfl,(blk_cell BK225.out 1).trans rfl,(blk_cell BK225.out 2).trans rfl,(blk_cell BK225.out 3).trans rfl,(blk_cell BK225.out 4).trans rfl,(blk_cell BK225.out 5).trans rfl,(blk_cell BK225.out 6).trans rfl⟩ (fun hHeld=>?_)
       clear hK K
       refine no_ (some 29) ?_
       exact norm_ (by simp only [putAll,Act.put,List.setIfInBounds_toArray,List.set_cons_zero,List.set_cons_succ]) (hCont (v231,v234) _ ⟨hHeld,(by (with_reducible skip);exact Kd.R_mono HO232.out (fun _ hk=>⟨hk.1.2,hk.2⟩)),(by (with_reducible skip);exact Kd.R_mono HO235.out (fun _ hk=>⟨hk.2,hk.1.2⟩)),BK225.out,(by repeat ((with_reducible first | exact HB.out)))⟩)
     rintro ⟨v231,v234⟩ w70 ⟨hS_,h0_,h1_,h2_,h3_⟩
     have n0_ : Aside0 (Kd.R k62 62 w70 w.heap.size (fun k_=>some k_ ≠ (v234 : Value).ownBlock ∧ k_ ≠ gb225) v231 t230):=⟨h0_⟩
     have n1_ : Aside0 (Kd.R k62 62 w70 w.heap.size (fun k_=>some k_ ≠ (v231 : Value).ownBlock ∧ k_ ≠ gb225) v234 y233):=⟨h1_⟩
     have n2_ : Aside0 (w70.heap[gb225]? = some (.cells #[.int .u8 a1_0,.int .u8 a1_1,.int .u32 a1_2,.int .u32 a1_3,.int .i64 a1_4,.int .u8 a1_5,.int .u32 a1_6] 62 (0,0))):=⟨h2_⟩
     have n3_ : Aside0 (Below w.heap.size w w70):=⟨h3_⟩
     clear BK225 HB h0_ h1_ h2_ h3_
     have HO232:=n0_
     have HO235:=n1_
     have BK225:=n2_
     have HB:=n3_
     clear n0_ n1_ n2_ n3_
     have hHeld : w70.cell? ⟨gb225,0,none⟩ = some (.int .u8 a1_0) ∧ w70.cell? ⟨gb225,1,none⟩ = some (.int .u8 a1_1) ∧ w70.cell? ⟨gb225,2,none⟩ = some (.int .u32 a1_2) ∧ w70.cell? ⟨gb225,3,none⟩ = some (.int .u32 a1_3) ∧ w70.cell? ⟨gb225,4,none⟩ = some (.int .i64 a1_4) ∧ w70.cell? ⟨gb225,5,none⟩ = some (.int .u8 a1_5) ∧ w70.cell? ⟨gb225,6,none⟩ = some (.int .u32 a1_6):=hS_
     obtain ⟨Ao71,co71,eo71⟩:=Kd.R_slice HO232.out
     (first | subst eo71)
     obtain ⟨Ao72,co72,eo72⟩:=Kd.R_slice HO235.out
     (first | subst eo72)
     refine norm_ (a':=?_) ?_ ?_
     rotate_left
     ·simp only [putAll,Act.put,List.setIfInBounds_toArray,List.set_cons_zero,List.set_cons_succ]
      rfl
     refine one_ (i:=5) (N:=some 33) #[true,true,true,true,true,true,false,false] rfl rfl (one_of HT_.out (by kernel_rfl)) (by decide) (fun K hK=>?_)
     refine goes_ Tryz.func101 (by kernel_rfl) rfl #[.slice Ao71 t230.length co71,.int .i64 t228,.slice Ao72 y233.length co72] (by rfl) rfl rfl (by (try simp only [List.map_toArray,List.map_cons,List.map_nil]);first | rfl) ?_
     with_reducible refine (slices_Insert_Entry.calls (fun k_=>some k_ = (.slice Ao71 t230.length co71 : Value).ownBlock) (.slice Ao71 t230.length co71) t230 t228 (fun k_=>some k_ = (.slice Ao72 y233.length co72 : Value).ownBlock) (.slice Ao72 y233.length co72) y233 t236 w _ ?side1 ?side2 ?side3 ?side4 ?side5 A63.out).mono ?_
     (case side1=>repeat ((with_reducible first | exact HB.out)))
     (case side2=>exact Kd.R_tight rfl HO232.out)
     (case side3=>exact fun k_ e_=>(HO232.out.1 k_ e_.symm).1)
     (case side4=>exact Kd.R_tight rfl HO235.out)
     (case side5=>exact fun k_ e_=>(HO235.out.1 k_ e_.symm).1)
     rintro e w73 ⟨v237,rfl,ho0,hb,hkp⟩
     refine ⟨_,rfl,?_⟩
     have n0_:=Aside0.mk (blk_kept BK225.out hkp (fun hs_=>Or.elim hs_ (fun e_=>(fun e_=>(Kd.R_away HO232.out (fun _ hk=>hk.2)) e_) e_) (fun e_=>(fun e_=>(Kd.R_away HO235.out (fun _ hk=>hk.2)) e_) e_)))
     have n1_:=Aside0.mk (Kd.R_mono (ok':=fun k_=>k_ ≠ gb225) ho0 (fun k_ hk_=>Or.elim hk_ (fun hs_=>Or.elim hs_ (fun hs_=>fun e_=>(Kd.R_away HO232.out (fun _ hk=>hk.2)) (by rw [← e_];exact hs_)) (fun hs_=>fun e_=>(Kd.R_away HO235.out (fun _ hk=>hk.2)) (by rw [← e_];exact hs_))) (fun hn_=>(Kd.freshB (g:=gb225) (o:=.cells #[.int .u8 a1_0,.int .u8 a1_1,.int .u32 a1_2,.int .u32 a1_3,.int .i64 a1_4,.int .u8 a1_5,.int .u32 a1_6] 62 (0,0)) BK225.out k_ hn_))))
     have n2_:=Aside0.mk (hb)
     clear BK225 HB HO232 HO235
     have BK225:=n0_
     have HO238:=n1_
     have HB:=n2_
     clear n0_ n1_ n2_
     (try clear hb)
     (try clear hkp)
     (try clear ho0)
     refine hK.out _ _ ⟨(blk_cell BK225.out 0).trans rfl,(blk_cell BK225.out 1).trans rfl,(blk_cell BK225.out 2).trans rfl,(blk_cell BK225.out 3).trans rfl,(blk_cell BK225.out 4).trans rfl,(blk_cell BK225.out 5).trans rfl,(blk_cell BK225.out 6).trans rfl⟩ (fun hHeld=>?_)
     clear hK K
     refine no_ (some 33) ?_
     refine pu 6 (some 4) HT_ rfl rfl ?_
     refine pu 7 (some 5) HT_ rfl rfl ?_
     refine done_ (done_of HT_.out (by kernel_rfl)) ?_
     try go_wp2
     go_ret2
     exact ⟨_,by first | rfl,by (with_reducible skip);exact Kd.R_mono HO238.out (fun _ hk=>trivial),by repeat ((with_reducible first | exact HB.out))⟩
end Go.Proofs.YtiminjibcafkaaaGreatDoor.X
