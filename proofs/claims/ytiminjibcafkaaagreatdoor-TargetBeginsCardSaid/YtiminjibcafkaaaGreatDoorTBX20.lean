-- MADE BY wip/prx.py (the kit's printer, with contracts proved by hand). Not trusted: Lean checks it.
import Derived.Test.YtiminjibcafkaaaGreatDoorTBJ5
import Derived.Test.YtiminjibcafkaaaGreatDoorTBJ4
import Derived.Test.YtiminjibcafkaaaGreatDoorTBX19
namespace Go.Proofs.YtiminjibcafkaaaGreatDoor.X
open Go.RowKit Go.Proofs.YtiminjibcafkaaaGreatDoorW.PrintWords Go.Proofs.YtiminjibcafkaaaGreatDoorW.PrintLast Go.Proofs.YtiminjibcafkaaaGreatDoorW.PrintMore
attribute [local go_sem] max2_int min2_int max_two min_two max_three min_three max_four min_four   -- for this text's walks alone
set_option linter.unusedVariables false
set_option linter.unusedSimpArgs false
/-! ### tidingsref02_Right: function 62 -/
def tidingsref02_Right.l0 : Nat → List (S62) → Int → Option (Bool)
 | 0,_,_=>none
 | k + 1,x0,x3=>if x3 < (x0.length : Int) then (if 0 ≤ x3 then ((tidingsref02_RightEntry.f k ((rd_T62 x0 x3).f0) ((rd_T62 x0 x3).f1.f0) ((rd_T62 x0 x3).f1.f1) ((rd_T62 x0 x3).f1.f2) ((rd_T62 x0 x3).f2) ((rd_T62 x0 x3).f3) ((rd_T62 x0 x3).f4)).bind fun t263=>(if t263 = true then (if x3 > 0 then (if 0 ≤ (wrap64 (x3 - 1)) then (if (wrap64 (x3 - 1)) < (x0.length : Int) then (if ((rd_T62 x0 (wrap64 (x3 - 1))).f0) ≥ ((rd_T62 x0 x3).f0) then (some false) else (tidingsref02_Right.l0 k x0 (wrap64 (x3 + 1)))) else (none)) else (none)) else (tidingsref02_Right.l0 k x0 (wrap64 (x3 + 1)))) else (some false))) else (none)) else (some true)
def tidingsref02_Right.f (k : Nat) (l0 : List (S62)) : Option (Bool):=tidingsref02_Right.l0 k l0 0
def tidingsref02_Right.T4 : Bool × List (List Nat × List Nat):=(true,[([],[]),([],[]),([0,1],[0,1]),([2],[2]),([3],[3]),([4],[4]),([5,4],[5]),([6],[6]),([7,6],[6,7]),([8,6,6],[6,8]),([9],[9]),([9],[9]),([11,9],[9,11]),([10,12,9],[9,10,12]),([13,9],[9,13]),([14,9],[9,14]),([9],[9]),([9],[9]),([16,17,9],[9,16,17]),([18,9],[9,18]),([19,9],[9,19]),([15,20,9],[9,15,20]),([9,21,6],[6,9,21]),([6,22],[6,22])])
def tidingsref02_Right.B4 : List Nat:=[0,0,3,7,15,31,63,127,255,511,1023,1023,3071,8191,16383,32767,1023,1023,197631,459775,984063,2097151,4194303,8388607]
theorem tidingsref02_Right.tab4 : rtab .any (opsOf Tryz.f62 4) = tidingsref02_Right.T4:=by kernel_rfl
theorem tidingsref02_Right.bits4 : waitsOk tidingsref02_Right.T4.2 tidingsref02_Right.B4 = true:=by kernel_rfl
set_option maxHeartbeats 8000000 in
set_option maxRecDepth 100000 in
theorem tidingsref02_Right.calls (k : Nat) (A0 : Option Addr) (c0 : Nat) (l0 : List (S62)) (r : Bool) (w : World) (hr0 : Kd.C k62 w A0 l0.length l0) (hc0 : l0.length ≤ c0) (h : tidingsref02_Right.f k l0 = some r) :
 Calls Tryz.prog 62 #[.slice A0 l0.length c0] w fun e w'=>e = .returned (.bool r) ∧ Below w.heap.size w w':=by
 have hu62:=Tryz.underlying62
 have HR0:=Aside0.mk hr0
 have HC0:=Aside0.mk hc0
 clear hr0 hc0
 have HB:=Aside0.mk (Below.refl w.heap.size w)
 have H : (tidingsref02_Right.l0 k l0 0) = some r:=h
 clear h
 have H':=Aside0.mk H
 clear H
 go_enter Tryz.func62,Tryz.ntmps62
 go_wp2
 go_loopg [3] k (fun kq v3 w'=>∃ (x3_1 : Int),v3 = .int .i64 x3_1 ∧ Aside0 (tidingsref02_Right.l0 kq l0 x3_1 = some r) ∧ Aside0 (kq ≤ k) ∧ Aside0 (Below w.heap.size w w'))
 case atStart=>exact ⟨(0),(by first | rfl),H',⟨Nat.le_refl _⟩,⟨by repeat ((with_reducible first | exact HB.out))⟩⟩
 case round =>
  clear H'
  obtain ⟨x3_1,rfl,HA,HK1,HB⟩:=hrel
  cases gk with
  | zero=>exact absurd HA.out (by simp [tidingsref02_Right.l0])
  | succ k1 =>
   have H:=HA.out
   clear HA
   simp only [tidingsref02_Right.l0] at H
   by_cases c2 : x3_1 < (l0.length : Int)
   ·rw [if_pos c2] at H
    have c2b0 : decide (x3_1 < (l0.length : Int)) = true:=decide_eq_true c2
    clear c2
    by_cases c3 : 0 ≤ x3_1
    ·rw [if_pos c3] at H
     have c3b0 : decide (0 ≤ x3_1) = true:=decide_eq_true c3
     clear c3
     replace H:=Option.bind_eq_some_iff.mp H
     obtain ⟨t263,A40,H⟩:=H
     have A4:=Aside0.mk A40
     clear A40
     by_cases c5 : t263 = true
     ·subst c5
      rw [if_pos rfl] at H
      by_cases c6 : x3_1 > 0
      ·rw [if_pos c6] at H
       have c6b0 : decide (0 < x3_1) = true:=decide_eq_true c6
       clear c6
       obtain ⟨ji7,hji7⟩ : ∃ j_ : Int,(wrap64 (x3_1 - 1)) = j_:=⟨_,rfl⟩
       replace H : (if 0 ≤ (ji7) then (if (ji7) < (l0.length : Int) then (if ((rd_T62 l0 (ji7)).f0) ≥ ((rd_T62 l0 x3_1).f0) then (some false) else (tidingsref02_Right.l0 k1 l0 (wrap64 (x3_1 + 1)))) else (none)) else (none)) = some r:=by (rw [hji7] at H;exact H)
       have hji7w : (IntKind.i64.wrap (x3_1 - 1)) = ji7:=(i64_w _).trans hji7
       by_cases c8 : 0 ≤ (ji7)
       ·rw [if_pos c8] at H
        have c8b0 : decide (0 ≤ (ji7)) = true:=decide_eq_true c8
        clear c8
        by_cases c9 : (ji7) < (l0.length : Int)
        ·rw [if_pos c9] at H
         have c9b0 : decide ((ji7) < (l0.length : Int)) = true:=decide_eq_true c9
         clear c9
         by_cases c10 : ((rd_T62 l0 (ji7)).f0) ≥ ((rd_T62 l0 x3_1).f0)
         ·rw [if_pos c10] at H
          have c10b0 : decide (((rd_T62 l0 x3_1).f0) ≤ ((rd_T62 l0 (ji7)).f0)) = true:=decide_eq_true c10
          clear c10
          obtain rfl:=Option.some.inj H
          try go_wp2
          replace HB:=Aside0.mk (below_drew1 HB.out)
          have p262 : 0 ≤ (x3_1 : Int):=of_decide_eq_true (by (with_reducible assumption))
          have q262 : x3_1 < (l0.length : Int):=of_decide_eq_true (by (with_reducible assumption))
          obtain ⟨ad262,e262,hx262_0,hx262_1,hx262_2,hx262_3,hx262_4,hx262_5,hx262_6⟩:=at_T62 HR0.out x3_1 p262 q262
          have hw262_6:=hx262_6
          have hw262_5:=hx262_5
          have hw262_4:=hx262_4
          have hw262_3:=hx262_3
          have hw262_2:=hx262_2
          have hw262_1:=hx262_1
          have hw262_0:=hx262_0
          cases e262
          replace hx262_0:=(HB.out.cell (World.block_lt_of_cell? w _ hx262_0)).trans hx262_0
          replace hx262_1:=(HB.out.cell (World.block_lt_of_cell? w _ hx262_1)).trans hx262_1
          replace hx262_2:=(HB.out.cell (World.block_lt_of_cell? w _ hx262_2)).trans hx262_2
          replace hx262_3:=(HB.out.cell (World.block_lt_of_cell? w _ hx262_3)).trans hx262_3
          replace hx262_4:=(HB.out.cell (World.block_lt_of_cell? w _ hx262_4)).trans hx262_4
          replace hx262_5:=(HB.out.cell (World.block_lt_of_cell? w _ hx262_5)).trans hx262_5
          replace hx262_6:=(HB.out.cell (World.block_lt_of_cell? w _ hx262_6)).trans hx262_6
          replace p262:=eq_true p262
          replace q262:=eq_true q262
          have p264 : 0 ≤ ((ji7) : Int):=of_decide_eq_true (by (with_reducible assumption))
          have q264 : (ji7) < (l0.length : Int):=of_decide_eq_true (by (with_reducible assumption))
          obtain ⟨ad264,e264,hx264_0,hx264_1,hx264_2,hx264_3,hx264_4,hx264_5,hx264_6⟩:=at_T62 HR0.out (ji7) p264 q264
          have hw264_6:=hx264_6
          have hw264_5:=hx264_5
          have hw264_4:=hx264_4
          have hw264_3:=hx264_3
          have hw264_2:=hx264_2
          have hw264_1:=hx264_1
          have hw264_0:=hx264_0
          obtain rfl : ad262 = ad264:=(by injection e264)
          replace hx264_0:=(HB.out.cell (World.block_lt_of_cell? w _ hx264_0)).trans hx264_0
          replace hx264_1:=(HB.out.cell (World.block_lt_of_cell? w _ hx264_1)).trans hx264_1
          replace hx264_2:=(HB.out.cell (World.block_lt_of_cell? w _ hx264_2)).trans hx264_2
          replace hx264_3:=(HB.out.cell (World.block_lt_of_cell? w _ hx264_3)).trans hx264_3
          replace hx264_4:=(HB.out.cell (World.block_lt_of_cell? w _ hx264_4)).trans hx264_4
          replace hx264_5:=(HB.out.cell (World.block_lt_of_cell? w _ hx264_5)).trans hx264_5
          replace hx264_6:=(HB.out.cell (World.block_lt_of_cell? w _ hx264_6)).trans hx264_6
          replace p264:=eq_true p264
          replace q264:=eq_true q264
          have p265 : 0 ≤ (x3_1 : Int):=of_decide_eq_true (by (with_reducible assumption))
          have q265 : x3_1 < (l0.length : Int):=of_decide_eq_true (by (with_reducible assumption))
          obtain ⟨ad265,e265,hx265_0,hx265_1,hx265_2,hx265_3,hx265_4,hx265_5,hx265_6⟩:=at_T62 HR0.out x3_1 p265 q265
          have hw265_6:=hx265_6
          have hw265_5:=hx265_5
          have hw265_4:=hx265_4
          have hw265_3:=hx265_3
          have hw265_2:=hx265_2
          have hw265_1:=hx265_1
          have hw265_0:=hx265_0
          obtain rfl : ad262 = ad265:=(by injection e265)
          replace hx265_0:=(HB.out.cell (World.block_lt_of_cell? w _ hx265_0)).trans hx265_0
          replace hx265_1:=(HB.out.cell (World.block_lt_of_cell? w _ hx265_1)).trans hx265_1
          replace hx265_2:=(HB.out.cell (World.block_lt_of_cell? w _ hx265_2)).trans hx265_2
          replace hx265_3:=(HB.out.cell (World.block_lt_of_cell? w _ hx265_3)).trans hx265_3
          replace hx265_4:=(HB.out.cell (World.block_lt_of_cell? w _ hx265_4)).trans hx265_4
          replace hx265_5:=(HB.out.cell (World.block_lt_of_cell? w _ hx265_5)).trans hx265_5
          replace hx265_6:=(HB.out.cell (World.block_lt_of_cell? w _ hx265_6)).trans hx265_6
          replace p265:=eq_true p265
          replace q265:=eq_true q265
          refine start_ (n:=24) (S:=fun w'=>w'.cell? (ad262.add ((x3_1).toNat * 7)) = some (.int .u8 ((rd_T62 l0 x3_1).f0)) ∧ w'.cell? ⟨(ad262.add ((x3_1).toNat * 7)).block,(ad262.add ((x3_1).toNat * 7)).off + 1,none⟩ = some (.int .u8 ((rd_T62 l0 x3_1).f1.f0)) ∧ w'.cell? ⟨(ad262.add ((x3_1).toNat * 7)).block,(ad262.add ((x3_1).toNat * 7)).off + 2,none⟩ = some (.int .u32 ((rd_T62 l0 x3_1).f1.f1)) ∧ w'.cell? ⟨(ad262.add ((x3_1).toNat * 7)).block,(ad262.add ((x3_1).toNat * 7)).off + 3,none⟩ = some (.int .u32 ((rd_T62 l0 x3_1).f1.f2)) ∧ w'.cell? ⟨(ad262.add ((x3_1).toNat * 7)).block,(ad262.add ((x3_1).toNat * 7)).off + 4,none⟩ = some (.int .i64 ((rd_T62 l0 x3_1).f2)) ∧ w'.cell? ⟨(ad262.add ((x3_1).toNat * 7)).block,(ad262.add ((x3_1).toNat * 7)).off + 5,none⟩ = some (.int .u8 ((rd_T62 l0 x3_1).f3)) ∧ w'.cell? ⟨(ad262.add ((x3_1).toNat * 7)).block,(ad262.add ((x3_1).toNat * 7)).off + 6,none⟩ = some (.int .u32 ((rd_T62 l0 x3_1).f4)) ∧ w'.cell? (ad262.add (((ji7)).toNat * 7)) = some (.int .u8 ((rd_T62 l0 (ji7)).f0)) ∧ w'.cell? ⟨(ad262.add (((ji7)).toNat * 7)).block,(ad262.add (((ji7)).toNat * 7)).off + 1,none⟩ = some (.int .u8 ((rd_T62 l0 (ji7)).f1.f0)) ∧ w'.cell? ⟨(ad262.add (((ji7)).toNat * 7)).block,(ad262.add (((ji7)).toNat * 7)).off + 2,none⟩ = some (.int .u32 ((rd_T62 l0 (ji7)).f1.f1)) ∧ w'.cell? ⟨(ad262.add (((ji7)).toNat * 7)).block,(ad262.add (((ji7)).toNat * 7)).off + 3,none⟩ = some (.int .u32 ((rd_T62 l0 (ji7)).f1.f2)) ∧ w'.cell? ⟨(ad262.add (((ji7)).toNat * 7)).block,(ad262.add (((ji7)).toNat * 7)).off + 4,none⟩ = some (.int .i64 ((rd_T62 l0 (ji7)).f2)) ∧ w'.cell? ⟨(ad262.add (((ji7)).toNat * 7)).block,(ad262.add (((ji7)).toNat * 7)).off + 5,none⟩ = some (.int .u8 ((rd_T62 l0 (ji7)).f3)) ∧ w'.cell? ⟨(ad262.add (((ji7)).toNat * 7)).block,(ad262.add (((ji7)).toNat * 7)).off + 6,none⟩ = some (.int .u32 ((rd_T62 l0 (ji7)).f4)) ∧ w'.cell? (ad262.add ((x3_1).toNat * 7)) = some (.int .u8 ((rd_T62 l0 x3_1).f0)) ∧ w'.cell? ⟨(ad262.add ((x3_1).toNat * 7)).block,(ad262.add ((x3_1).toNat * 7)).off + 1,none⟩ = some (.int .u8 ((rd_T62 l0 x3_1).f1.f0)) ∧ w'.cell? ⟨(ad262.add ((x3_1).toNat * 7)).block,(ad262.add ((x3_1).toNat * 7)).off + 2,none⟩ = some (.int .u32 ((rd_T62 l0 x3_1).f1.f1)) ∧ w'.cell? ⟨(ad262.add ((x3_1).toNat * 7)).block,(ad262.add ((x3_1).toNat * 7)).off + 3,none⟩ = some (.int .u32 ((rd_T62 l0 x3_1).f1.f2)) ∧ w'.cell? ⟨(ad262.add ((x3_1).toNat * 7)).block,(ad262.add ((x3_1).toNat * 7)).off + 4,none⟩ = some (.int .i64 ((rd_T62 l0 x3_1).f2)) ∧ w'.cell? ⟨(ad262.add ((x3_1).toNat * 7)).block,(ad262.add ((x3_1).toNat * 7)).off + 5,none⟩ = some (.int .u8 ((rd_T62 l0 x3_1).f3)) ∧ w'.cell? ⟨(ad262.add ((x3_1).toNat * 7)).block,(ad262.add ((x3_1).toNat * 7)).off + 6,none⟩ = some (.int .u32 ((rd_T62 l0 x3_1).f4))) (ds:=[]) #[false,false,false,false,false,false,false,false,false,false,false,false,false,false,false,false,false,false,false,false,false,false,false,false] (by kernel_rfl) rfl rfl ⟨((HB.out.cell (World.block_lt_of_cell? w _ hw262_0)).trans hw262_0),((HB.out.cell (World.block_lt_of_cell? w _ hw262_1)).trans hw262_1),((HB.out.cell (World.block_lt_of_cell? w _ hw262_2)).trans hw262_2),((HB.out.cell (World.block_lt_of_cell? w _ hw262_3)).trans hw262_3),((HB.out.cell (World.block_lt_of_cell? w _ hw262_4)).trans hw262_4),((HB.out.cell (World.block_lt_of_cell? w _ hw262_5)).trans hw262_5),((HB.out.cell (World.block_lt_of_cell? w _ hw262_6)).trans hw262_6),((HB.out.cell (World.block_lt_of_cell? w _ hw264_0)).trans hw264_0),((HB.out.cell (World.block_lt_of_cell? w _ hw264_1)).trans hw264_1),((HB.out.cell (World.block_lt_of_cell? w _ hw264_2)).trans hw264_2),((HB.out.cell (World.block_lt_of_cell? w _ hw264_3)).trans hw264_3),((HB.out.cell (World.block_lt_of_cell? w _ hw264_4)).trans hw264_4),((HB.out.cell (World.block_lt_of_cell? w _ hw264_5)).trans hw264_5),((HB.out.cell (World.block_lt_of_cell? w _ hw264_6)).trans hw264_6),((HB.out.cell (World.block_lt_of_cell? w _ hw265_0)).trans hw265_0),((HB.out.cell (World.block_lt_of_cell? w _ hw265_1)).trans hw265_1),((HB.out.cell (World.block_lt_of_cell? w _ hw265_2)).trans hw265_2),((HB.out.cell (World.block_lt_of_cell? w _ hw265_3)).trans hw265_3),((HB.out.cell (World.block_lt_of_cell? w _ hw265_4)).trans hw265_4),((HB.out.cell (World.block_lt_of_cell? w _ hw265_5)).trans hw265_5),((HB.out.cell (World.block_lt_of_cell? w _ hw265_6)).trans hw265_6)⟩ (fun hHeld=>?_);refine with_tabW tidingsref02_Right.tab4 tidingsref02_Right.bits4 (fun HT_ HW_=>?_)
          generalize wr.drew = w11 at HB hx262_0 hx262_1 hx262_2 hx262_3 hx262_4 hx262_5 hx262_6 hx264_0 hx264_1 hx264_2 hx264_3 hx264_4 hx264_5 hx264_6 hx265_0 hx265_1 hx265_2 hx265_3 hx265_4 hx265_5 hx265_6 hHeld ⊢
          refine pu 0 (some 10) HT_ rfl rfl ?_
          refine pu 1 (some 11) HT_ rfl rfl ?_
          refine pu 2 (some 12) HT_ rfl rfl ?_
          refine ta 3 (some 13) HT_ HW_ hHeld rfl rfl (by rintro w' ⟨s0,s1,s2,s3,s4,s5,s6,s7,s8,s9,s10,s11,s12,s13,s14,s15,s16,s17,s18,s19,s20⟩;go_simp;with_reducible rfl) ?_
          refine one_ (i:=4) (N:=some 14) #[true,true,true,true,true,false,false,false,false,false,false,false,false,false,false,false,false,false,false,false,false,false,false,false] rfl rfl (one_of HT_.out (by kernel_rfl)) (by decide) (fun K hK=>?_)
          refine goes_ Tryz.func91 (by kernel_rfl) rfl #[.agg #[.int .u8 ((rd_T62 l0 x3_1).f0),.int .u8 ((rd_T62 l0 x3_1).f1.f0),.int .u32 ((rd_T62 l0 x3_1).f1.f1),.int .u32 ((rd_T62 l0 x3_1).f1.f2),.int .i64 ((rd_T62 l0 x3_1).f2),.int .u8 ((rd_T62 l0 x3_1).f3),.int .u32 ((rd_T62 l0 x3_1).f4)]] (by rfl) rfl rfl (by (try simp only [List.map_toArray,List.map_cons,List.map_nil]);first | rfl) ?_
          with_reducible refine (tidingsref02_RightEntry.calls k1 ((rd_T62 l0 x3_1).f0) ((rd_T62 l0 x3_1).f1.f0) ((rd_T62 l0 x3_1).f1.f1) ((rd_T62 l0 x3_1).f1.f2) ((rd_T62 l0 x3_1).f2) ((rd_T62 l0 x3_1).f3) ((rd_T62 l0 x3_1).f4) true _ A4.out).mono ?_
          rintro e w12 ⟨rfl,hb⟩
          refine ⟨_,rfl,?_⟩
          replace HB:=Aside0.mk (below_step (by repeat ((with_reducible first | exact HB.out))) hb)
          (try clear hb)
          refine hK.out _ _ ⟨((HB.out.cell (World.block_lt_of_cell? w _ hw262_0)).trans hw262_0),((HB.out.cell (World.block_lt_of_cell? w _ hw262_1)).trans hw262_1),((HB.out.cell (World.block_lt_of_cell? w _ hw262_2)).trans hw262_2),((HB.out.cell (World.block_lt_of_cell? w _ hw262_3)).trans hw262_3),((HB.out.cell (World.block_lt_of_cell? w _ hw262_4)).trans hw262_4),((HB.out.cell (World.block_lt_of_cell? w _ hw262_5)).trans hw262_5),((HB.out.cell (World.block_lt_of_cell? w _ hw262_6)).trans hw262_6),((HB.out.cell (World.block_lt_of_cell? w _ hw264_0)).trans hw264_0),((HB.out.cell (World.block_lt_of_cell? w _ hw264_1)).trans hw264_1),((HB.out.cell (World.block_lt_of_cell? w _ hw264_2)).trans hw264_2),((HB.out.cell (World.block_lt_of_cell? w _ hw264_3)).trans hw264_3),((HB.out.cell (World.block_lt_of_cell? w _ hw264_4)).trans hw264_4),((HB.out.cell (World.block_lt_of_cell? w _ hw264_5)).trans hw264_5),((HB.out.cell (World.block_lt_of_cell? w _ hw264_6)).trans hw264_6),((HB.out.cell (World.block_lt_of_cell? w _ hw265_0)).trans hw265_0),((HB.out.cell (World.block_lt_of_cell? w _ hw265_1)).trans hw265_1),((HB.out.cell (World.block_lt_of_cell? w _ hw265_2)).trans hw265_2),((HB.out.cell (World.block_lt_of_cell? w _ hw265_3)).trans hw265_3),((HB.out.cell (World.block_lt_of_cell? w _ hw265_4)).trans hw265_4),((HB.out.cell (World.block_lt_of_cell? w _ hw265_5)).trans hw265_5),((HB.out.cell (World.block_lt_of_cell? w _ hw265_6)).trans hw265_6)⟩ (fun hHeld=>?_)
          clear hK K
          refine no_ (some 14) ?_
          refine pu 5 (some 15) HT_ rfl rfl ?_
          refine pu 6 (some 16) HT_ rfl rfl ?_
          refine pu 7 (some 17) HT_ rfl rfl ?_
          refine pu 8 (some 18) HT_ rfl rfl ?_
          refine pu 9 (some 19) HT_ rfl rfl ?_
          refine pu 10 (some 20) HT_ rfl rfl ?_
          refine pu 11 (some 21) HT_ rfl rfl ?_
          refine pu 12 (some 22) HT_ rfl rfl ?_
          refine pu 13 (some 23) HT_ rfl rfl ?_
          refine pu 14 (some 24) HT_ rfl rfl ?_
          refine pu 16 (some 26) HT_ rfl rfl ?_
          refine pu 17 (some 27) HT_ rfl rfl ?_
          refine pu 18 (some 28) HT_ rfl rfl ?_
          refine pu 19 (some 29) HT_ rfl rfl ?_
          refine ta 15 (some 25) HT_ HW_ hHeld rfl rfl (by rintro w' ⟨s0,s1,s2,s3,s4,s5,s6,s7,s8,s9,s10,s11,s12,s13,s14,s15,s16,s17,s18,s19,s20⟩;go_simp;with_reducible rfl) ?_
          refine ta 20 (some 30) HT_ HW_ hHeld rfl rfl (by rintro w' ⟨s0,s1,s2,s3,s4,s5,s6,s7,s8,s9,s10,s11,s12,s13,s14,s15,s16,s17,s18,s19,s20⟩;go_simp;with_reducible rfl) ?_
          refine pu 21 (some 31) HT_ rfl rfl ?_
          refine pu 22 (some 32) HT_ rfl rfl ?_
          refine pu 23 (some 33) HT_ rfl rfl ?_
          refine done_ (done_of HT_.out (by kernel_rfl)) ?_
          try go_wp2
          go_ret
          exact ⟨by first | rfl,by repeat ((with_reducible first | exact HB.out))⟩
         ·rw [if_neg c10] at H
          have c10b0 : decide (((rd_T62 l0 x3_1).f0) ≤ ((rd_T62 l0 (ji7)).f0)) = false:=decide_eq_false c10
          clear c10
          have H':=Aside0.mk H
          clear H
          try go_wp2
          replace HB:=Aside0.mk (below_drew1 HB.out)
          have p262 : 0 ≤ (x3_1 : Int):=of_decide_eq_true (by (with_reducible assumption))
          have q262 : x3_1 < (l0.length : Int):=of_decide_eq_true (by (with_reducible assumption))
          obtain ⟨ad262,e262,hx262_0,hx262_1,hx262_2,hx262_3,hx262_4,hx262_5,hx262_6⟩:=at_T62 HR0.out x3_1 p262 q262
          have hw262_6:=hx262_6
          have hw262_5:=hx262_5
          have hw262_4:=hx262_4
          have hw262_3:=hx262_3
          have hw262_2:=hx262_2
          have hw262_1:=hx262_1
          have hw262_0:=hx262_0
          cases e262
          replace hx262_0:=(HB.out.cell (World.block_lt_of_cell? w _ hx262_0)).trans hx262_0
          replace hx262_1:=(HB.out.cell (World.block_lt_of_cell? w _ hx262_1)).trans hx262_1
          replace hx262_2:=(HB.out.cell (World.block_lt_of_cell? w _ hx262_2)).trans hx262_2
          replace hx262_3:=(HB.out.cell (World.block_lt_of_cell? w _ hx262_3)).trans hx262_3
          replace hx262_4:=(HB.out.cell (World.block_lt_of_cell? w _ hx262_4)).trans hx262_4
          replace hx262_5:=(HB.out.cell (World.block_lt_of_cell? w _ hx262_5)).trans hx262_5
          replace hx262_6:=(HB.out.cell (World.block_lt_of_cell? w _ hx262_6)).trans hx262_6
          replace p262:=eq_true p262
          replace q262:=eq_true q262
          have p264 : 0 ≤ ((ji7) : Int):=of_decide_eq_true (by (with_reducible assumption))
          have q264 : (ji7) < (l0.length : Int):=of_decide_eq_true (by (with_reducible assumption))
          obtain ⟨ad264,e264,hx264_0,hx264_1,hx264_2,hx264_3,hx264_4,hx264_5,hx264_6⟩:=at_T62 HR0.out (ji7) p264 q264
          have hw264_6:=hx264_6
          have hw264_5:=hx264_5
          have hw264_4:=hx264_4
          have hw264_3:=hx264_3
          have hw264_2:=hx264_2
          have hw264_1:=hx264_1
          have hw264_0:=hx264_0
          obtain rfl : ad262 = ad264:=(by injection e264)
          replace hx264_0:=(HB.out.cell (World.block_lt_of_cell? w _ hx264_0)).trans hx264_0
          replace hx264_1:=(HB.out.cell (World.block_lt_of_cell? w _ hx264_1)).trans hx264_1
          replace hx264_2:=(HB.out.cell (World.block_lt_of_cell? w _ hx264_2)).trans hx264_2
          replace hx264_3:=(HB.out.cell (World.block_lt_of_cell? w _ hx264_3)).trans hx264_3
          replace hx264_4:=(HB.out.cell (World.block_lt_of_cell? w _ hx264_4)).trans hx264_4
          replace hx264_5:=(HB.out.cell (World.block_lt_of_cell? w _ hx264_5)).trans hx264_5
          replace hx264_6:=(HB.out.cell (World.block_lt_of_cell? w _ hx264_6)).trans hx264_6
          replace p264:=eq_true p264
          replace q264:=eq_true q264
          have p265 : 0 ≤ (x3_1 : Int):=of_decide_eq_true (by (with_reducible assumption))
          have q265 : x3_1 < (l0.length : Int):=of_decide_eq_true (by (with_reducible assumption))
          obtain ⟨ad265,e265,hx265_0,hx265_1,hx265_2,hx265_3,hx265_4,hx265_5,hx265_6⟩:=at_T62 HR0.out x3_1 p265 q265
          have hw265_6:=hx265_6
          have hw265_5:=hx265_5
          have hw265_4:=hx265_4
          have hw265_3:=hx265_3
          have hw265_2:=hx265_2
          have hw265_1:=hx265_1
          have hw265_0:=hx265_0
          obtain rfl : ad262 = ad265:=(by injection e265)
          replace hx265_0:=(HB.out.cell (World.block_lt_of_cell? w _ hx265_0)).trans hx265_0
          replace hx265_1:=(HB.out.cell (World.block_lt_of_cell? w _ hx265_1)).trans hx265_1
          replace hx265_2:=(HB.out.cell (World.block_lt_of_cell? w _ hx265_2)).trans hx265_2
          replace hx265_3:=(HB.out.cell (World.block_lt_of_cell? w _ hx265_3)).trans hx265_3
          replace hx265_4:=(HB.out.cell (World.block_lt_of_cell? w _ hx265_4)).trans hx265_4
          replace hx265_5:=(HB.out.cell (World.block_lt_of_cell? w _ hx265_5)).trans hx265_5
          replace hx265_6:=(HB.out.cell (World.block_lt_of_cell? w _ hx265_6)).trans hx265_6
          replace p265:=eq_true p265
          replace q265:=eq_true q265
          refine start_ (n:=24) (S:=fun w'=>w'.cell? (ad262.add ((x3_1).toNat * 7)) = some (.int .u8 ((rd_T62 l0 x3_1).f0)) ∧ w'.cell? ⟨(ad262.add ((x3_1).toNat * 7)).block,(ad262.add ((x3_1).toNat * 7)).off + 1,none⟩ = some (.int .u8 ((rd_T62 l0 x3_1).f1.f0)) ∧ w'.cell? ⟨(ad262.add ((x3_1).toNat * 7)).block,(ad262.add ((x3_1).toNat * 7)).off + 2,none⟩ = some (.int .u32 ((rd_T62 l0 x3_1).f1.f1)) ∧ w'.cell? ⟨(ad262.add ((x3_1).toNat * 7)).block,(ad262.add ((x3_1).toNat * 7)).off + 3,none⟩ = some (.int .u32 ((rd_T62 l0 x3_1).f1.f2)) ∧ w'.cell? ⟨(ad262.add ((x3_1).toNat * 7)).block,(ad262.add ((x3_1).toNat * 7)).off + 4,none⟩ = some (.int .i64 ((rd_T62 l0 x3_1).f2)) ∧ w'.cell? ⟨(ad262.add ((x3_1).toNat * 7)).block,(ad262.add ((x3_1).toNat * 7)).off + 5,none⟩ = some (.int .u8 ((rd_T62 l0 x3_1).f3)) ∧ w'.cell? ⟨(ad262.add ((x3_1).toNat * 7)).block,(ad262.add ((x3_1).toNat * 7)).off + 6,none⟩ = some (.int .u32 ((rd_T62 l0 x3_1).f4)) ∧ w'.cell? (ad262.add (((ji7)).toNat * 7)) = some (.int .u8 ((rd_T62 l0 (ji7)).f0)) ∧ w'.cell? ⟨(ad262.add (((ji7)).toNat * 7)).block,(ad262.add (((ji7)).toNat * 7)).off + 1,none⟩ = some (.int .u8 ((rd_T62 l0 (ji7)).f1.f0)) ∧ w'.cell? ⟨(ad262.add (((ji7)).toNat * 7)).block,(ad262.add (((ji7)).toNat * 7)).off + 2,none⟩ = some (.int .u32 ((rd_T62 l0 (ji7)).f1.f1)) ∧ w'.cell? ⟨(ad262.add (((ji7)).toNat * 7)).block,(ad262.add (((ji7)).toNat * 7)).off + 3,none⟩ = some (.int .u32 ((rd_T62 l0 (ji7)).f1.f2)) ∧ w'.cell? ⟨(ad262.add (((ji7)).toNat * 7)).block,(ad262.add (((ji7)).toNat * 7)).off + 4,none⟩ = some (.int .i64 ((rd_T62 l0 (ji7)).f2)) ∧ w'.cell? ⟨(ad262.add (((ji7)).toNat * 7)).block,(ad262.add (((ji7)).toNat * 7)).off + 5,none⟩ = some (.int .u8 ((rd_T62 l0 (ji7)).f3)) ∧ w'.cell? ⟨(ad262.add (((ji7)).toNat * 7)).block,(ad262.add (((ji7)).toNat * 7)).off + 6,none⟩ = some (.int .u32 ((rd_T62 l0 (ji7)).f4)) ∧ w'.cell? (ad262.add ((x3_1).toNat * 7)) = some (.int .u8 ((rd_T62 l0 x3_1).f0)) ∧ w'.cell? ⟨(ad262.add ((x3_1).toNat * 7)).block,(ad262.add ((x3_1).toNat * 7)).off + 1,none⟩ = some (.int .u8 ((rd_T62 l0 x3_1).f1.f0)) ∧ w'.cell? ⟨(ad262.add ((x3_1).toNat * 7)).block,(ad262.add ((x3_1).toNat * 7)).off + 2,none⟩ = some (.int .u32 ((rd_T62 l0 x3_1).f1.f1)) ∧ w'.cell? ⟨(ad262.add ((x3_1).toNat * 7)).block,(ad262.add ((x3_1).toNat * 7)).off + 3,none⟩ = some (.int .u32 ((rd_T62 l0 x3_1).f1.f2)) ∧ w'.cell? ⟨(ad262.add ((x3_1).toNat * 7)).block,(ad262.add ((x3_1).toNat * 7)).off + 4,none⟩ = some (.int .i64 ((rd_T62 l0 x3_1).f2)) ∧ w'.cell? ⟨(ad262.add ((x3_1).toNat * 7)).block,(ad262.add ((x3_1).toNat * 7)).off + 5,none⟩ = some (.int .u8 ((rd_T62 l0 x3_1).f3)) ∧ w'.cell? ⟨(ad262.add ((x3_1).toNat * 7)).block,(ad262.add ((x3_1).toNat * 7)).off + 6,none⟩ = some (.int .u32 ((rd_T62 l0 x3_1).f4))) (ds:=[]) #[false,false,false,false,false,false,false,false,false,false,false,false,false,false,false,false,false,false,false,false,false,false,false,false] (by kernel_rfl) rfl rfl ⟨((HB.out.cell (World.block_lt_of_cell? w _ hw262_0)).trans hw262_0),((HB.out.cell (World.block_lt_of_cell? w _ hw262_1)).trans hw262_1),((HB.out.cell (World.block_lt_of_cell? w _ hw262_2)).trans hw262_2),((HB.out.cell (World.block_lt_of_cell? w _ hw262_3)).trans hw262_3),((HB.out.cell (World.block_lt_of_cell? w _ hw262_4)).trans hw262_4),((HB.out.cell (World.block_lt_of_cell? w _ hw262_5)).trans hw262_5),((HB.out.cell (World.block_lt_of_cell? w _ hw262_6)).trans hw262_6),((HB.out.cell (World.block_lt_of_cell? w _ hw264_0)).trans hw264_0),((HB.out.cell (World.block_lt_of_cell? w _ hw264_1)).trans hw264_1),((HB.out.cell (World.block_lt_of_cell? w _ hw264_2)).trans hw264_2),((HB.out.cell (World.block_lt_of_cell? w _ hw264_3)).trans hw264_3),((HB.out.cell (World.block_lt_of_cell? w _ hw264_4)).trans hw264_4),((HB.out.cell (World.block_lt_of_cell? w _ hw264_5)).trans hw264_5),((HB.out.cell (World.block_lt_of_cell? w _ hw264_6)).trans hw264_6),((HB.out.cell (World.block_lt_of_cell? w _ hw265_0)).trans hw265_0),((HB.out.cell (World.block_lt_of_cell? w _ hw265_1)).trans hw265_1),((HB.out.cell (World.block_lt_of_cell? w _ hw265_2)).trans hw265_2),((HB.out.cell (World.block_lt_of_cell? w _ hw265_3)).trans hw265_3),((HB.out.cell (World.block_lt_of_cell? w _ hw265_4)).trans hw265_4),((HB.out.cell (World.block_lt_of_cell? w _ hw265_5)).trans hw265_5),((HB.out.cell (World.block_lt_of_cell? w _ hw265_6)).trans hw265_6)⟩ (fun hHeld=>?_);refine with_tabW tidingsref02_Right.tab4 tidingsref02_Right.bits4 (fun HT_ HW_=>?_)
          generalize wr.drew = w13 at HB hx262_0 hx262_1 hx262_2 hx262_3 hx262_4 hx262_5 hx262_6 hx264_0 hx264_1 hx264_2 hx264_3 hx264_4 hx264_5 hx264_6 hx265_0 hx265_1 hx265_2 hx265_3 hx265_4 hx265_5 hx265_6 hHeld ⊢
          refine pu 0 (some 10) HT_ rfl rfl ?_
          refine pu 1 (some 11) HT_ rfl rfl ?_
          refine pu 2 (some 12) HT_ rfl rfl ?_
          refine ta 3 (some 13) HT_ HW_ hHeld rfl rfl (by rintro w' ⟨s0,s1,s2,s3,s4,s5,s6,s7,s8,s9,s10,s11,s12,s13,s14,s15,s16,s17,s18,s19,s20⟩;go_simp;with_reducible rfl) ?_
          refine one_ (i:=4) (N:=some 14) #[true,true,true,true,true,false,false,false,false,false,false,false,false,false,false,false,false,false,false,false,false,false,false,false] rfl rfl (one_of HT_.out (by kernel_rfl)) (by decide) (fun K hK=>?_)
          refine goes_ Tryz.func91 (by kernel_rfl) rfl #[.agg #[.int .u8 ((rd_T62 l0 x3_1).f0),.int .u8 ((rd_T62 l0 x3_1).f1.f0),.int .u32 ((rd_T62 l0 x3_1).f1.f1),.int .u32 ((rd_T62 l0 x3_1).f1.f2),.int .i64 ((rd_T62 l0 x3_1).f2),.int .u8 ((rd_T62 l0 x3_1).f3),.int .u32 ((rd_T62 l0 x3_1).f4)]] (by rfl) rfl rfl (by (try simp only [List.map_toArray,List.map_cons,List.map_nil]);first | rfl) ?_
          with_reducible refine (tidingsref02_RightEntry.calls k1 ((rd_T62 l0 x3_1).f0) ((rd_T62 l0 x3_1).f1.f0) ((rd_T62 l0 x3_1).f1.f1) ((rd_T62 l0 x3_1).f1.f2) ((rd_T62 l0 x3_1).f2) ((rd_T62 l0 x3_1).f3) ((rd_T62 l0 x3_1).f4) true _ A4.out).mono ?_
          rintro e w14 ⟨rfl,hb⟩
          refine ⟨_,rfl,?_⟩
          replace HB:=Aside0.mk (below_step (by repeat ((with_reducible first | exact HB.out))) hb)
          (try clear hb)
          refine hK.out _ _ ⟨((HB.out.cell (World.block_lt_of_cell? w _ hw262_0)).trans hw262_0),((HB.out.cell (World.block_lt_of_cell? w _ hw262_1)).trans hw262_1),((HB.out.cell (World.block_lt_of_cell? w _ hw262_2)).trans hw262_2),((HB.out.cell (World.block_lt_of_cell? w _ hw262_3)).trans hw262_3),((HB.out.cell (World.block_lt_of_cell? w _ hw262_4)).trans hw262_4),((HB.out.cell (World.block_lt_of_cell? w _ hw262_5)).trans hw262_5),((HB.out.cell (World.block_lt_of_cell? w _ hw262_6)).trans hw262_6),((HB.out.cell (World.block_lt_of_cell? w _ hw264_0)).trans hw264_0),((HB.out.cell (World.block_lt_of_cell? w _ hw264_1)).trans hw264_1),((HB.out.cell (World.block_lt_of_cell? w _ hw264_2)).trans hw264_2),((HB.out.cell (World.block_lt_of_cell? w _ hw264_3)).trans hw264_3),((HB.out.cell (World.block_lt_of_cell? w _ hw264_4)).trans hw264_4),((HB.out.cell (World.block_lt_of_cell? w _ hw264_5)).trans hw264_5),((HB.out.cell (World.block_lt_of_cell? w _ hw264_6)).trans hw264_6),((HB.out.cell (World.block_lt_of_cell? w _ hw265_0)).trans hw265_0),((HB.out.cell (World.block_lt_of_cell? w _ hw265_1)).trans hw265_1),((HB.out.cell (World.block_lt_of_cell? w _ hw265_2)).trans hw265_2),((HB.out.cell (World.block_lt_of_cell? w _ hw265_3)).trans hw265_3),((HB.out.cell (World.block_lt_of_cell? w _ hw265_4)).trans hw265_4),((HB.out.cell (World.block_lt_of_cell? w _ hw265_5)).trans hw265_5),((HB.out.cell (World.block_lt_of_cell? w _ hw265_6)).trans hw265_6)⟩ (fun hHeld=>?_)
          clear hK K
          refine no_ (some 14) ?_
          refine pu 5 (some 15) HT_ rfl rfl ?_
          refine pu 6 (some 16) HT_ rfl rfl ?_
          refine pu 7 (some 17) HT_ rfl rfl ?_
          refine pu 8 (some 18) HT_ rfl rfl ?_
          refine pu 9 (some 19) HT_ rfl rfl ?_
          refine pu 10 (some 20) HT_ rfl rfl ?_
          refine pu 11 (some 21) HT_ rfl rfl ?_
          refine pu 12 (some 22) HT_ rfl rfl ?_
          refine pu 13 (some 23) HT_ rfl rfl ?_
          refine pu 14 (some 24) HT_ rfl rfl ?_
          refine pu 16 (some 26) HT_ rfl rfl ?_
          refine pu 17 (some 27) HT_ rfl rfl ?_
          refine pu 18 (some 28) HT_ rfl rfl ?_
          refine pu 19 (some 29) HT_ rfl rfl ?_
          refine ta 15 (some 25) HT_ HW_ hHeld rfl rfl (by rintro w' ⟨s0,s1,s2,s3,s4,s5,s6,s7,s8,s9,s10,s11,s12,s13,s14,s15,s16,s17,s18,s19,s20⟩;go_simp;with_reducible rfl) ?_
          refine ta 20 (some 30) HT_ HW_ hHeld rfl rfl (by rintro w' ⟨s0,s1,s2,s3,s4,s5,s6,s7,s8,s9,s10,s11,s12,s13,s14,s15,s16,s17,s18,s19,s20⟩;go_simp;with_reducible rfl) ?_
          refine pu 21 (some 31) HT_ rfl rfl ?_
          refine pu 22 (some 32) HT_ rfl rfl ?_
          refine pu 23 (some 33) HT_ rfl rfl ?_
          refine done_ (done_of HT_.out (by kernel_rfl)) ?_
          try go_wp2
          go_roundg k1
          case measure=>have:=HK1.out;omega
          case rel=>exact ⟨(wrap64 (x3_1 + 1)),(by first | rfl),H',⟨by have:=HK1.out;omega⟩,⟨by repeat ((with_reducible first | exact HB.out))⟩⟩
        ·rw [if_neg c9] at H
         exact absurd H (by simp)
       ·rw [if_neg c8] at H
        exact absurd H (by simp)
      ·rw [if_neg c6] at H
       have c6b0 : decide (0 < x3_1) = false:=decide_eq_false c6
       clear c6
       have H':=Aside0.mk H
       clear H
       try go_wp2
       replace HB:=Aside0.mk (below_drew1 HB.out)
       have p262 : 0 ≤ (x3_1 : Int):=of_decide_eq_true (by (with_reducible assumption))
       have q262 : x3_1 < (l0.length : Int):=of_decide_eq_true (by (with_reducible assumption))
       obtain ⟨ad262,e262,hx262_0,hx262_1,hx262_2,hx262_3,hx262_4,hx262_5,hx262_6⟩:=at_T62 HR0.out x3_1 p262 q262
       have hw262_6:=hx262_6
       have hw262_5:=hx262_5
       have hw262_4:=hx262_4
       have hw262_3:=hx262_3
       have hw262_2:=hx262_2
       have hw262_1:=hx262_1
       have hw262_0:=hx262_0
       cases e262
       replace hx262_0:=(HB.out.cell (World.block_lt_of_cell? w _ hx262_0)).trans hx262_0
       replace hx262_1:=(HB.out.cell (World.block_lt_of_cell? w _ hx262_1)).trans hx262_1
       replace hx262_2:=(HB.out.cell (World.block_lt_of_cell? w _ hx262_2)).trans hx262_2
       replace hx262_3:=(HB.out.cell (World.block_lt_of_cell? w _ hx262_3)).trans hx262_3
       replace hx262_4:=(HB.out.cell (World.block_lt_of_cell? w _ hx262_4)).trans hx262_4
       replace hx262_5:=(HB.out.cell (World.block_lt_of_cell? w _ hx262_5)).trans hx262_5
       replace hx262_6:=(HB.out.cell (World.block_lt_of_cell? w _ hx262_6)).trans hx262_6
       replace p262:=eq_true p262
       replace q262:=eq_true q262
       refine start_ (n:=24) (S:=fun w'=>w'.cell? (ad262.add ((x3_1).toNat * 7)) = some (.int .u8 ((rd_T62 l0 x3_1).f0)) ∧ w'.cell? ⟨(ad262.add ((x3_1).toNat * 7)).block,(ad262.add ((x3_1).toNat * 7)).off + 1,none⟩ = some (.int .u8 ((rd_T62 l0 x3_1).f1.f0)) ∧ w'.cell? ⟨(ad262.add ((x3_1).toNat * 7)).block,(ad262.add ((x3_1).toNat * 7)).off + 2,none⟩ = some (.int .u32 ((rd_T62 l0 x3_1).f1.f1)) ∧ w'.cell? ⟨(ad262.add ((x3_1).toNat * 7)).block,(ad262.add ((x3_1).toNat * 7)).off + 3,none⟩ = some (.int .u32 ((rd_T62 l0 x3_1).f1.f2)) ∧ w'.cell? ⟨(ad262.add ((x3_1).toNat * 7)).block,(ad262.add ((x3_1).toNat * 7)).off + 4,none⟩ = some (.int .i64 ((rd_T62 l0 x3_1).f2)) ∧ w'.cell? ⟨(ad262.add ((x3_1).toNat * 7)).block,(ad262.add ((x3_1).toNat * 7)).off + 5,none⟩ = some (.int .u8 ((rd_T62 l0 x3_1).f3)) ∧ w'.cell? ⟨(ad262.add ((x3_1).toNat * 7)).block,(ad262.add ((x3_1).toNat * 7)).off + 6,none⟩ = some (.int .u32 ((rd_T62 l0 x3_1).f4))) (ds:=[]) #[false,false,false,false,false,false,false,false,false,false,false,false,false,false,false,false,false,false,false,false,false,false,false,false] (by kernel_rfl) rfl rfl ⟨((HB.out.cell (World.block_lt_of_cell? w _ hw262_0)).trans hw262_0),((HB.out.cell (World.block_lt_of_cell? w _ hw262_1)).trans hw262_1),((HB.out.cell (World.block_lt_of_cell? w _ hw262_2)).trans hw262_2),((HB.out.cell (World.block_lt_of_cell? w _ hw262_3)).trans hw262_3),((HB.out.cell (World.block_lt_of_cell? w _ hw262_4)).trans hw262_4),((HB.out.cell (World.block_lt_of_cell? w _ hw262_5)).trans hw262_5),((HB.out.cell (World.block_lt_of_cell? w _ hw262_6)).trans hw262_6)⟩ (fun hHeld=>?_);refine with_tabW tidingsref02_Right.tab4 tidingsref02_Right.bits4 (fun HT_ HW_=>?_)
       generalize wr.drew = w15 at HB hx262_0 hx262_1 hx262_2 hx262_3 hx262_4 hx262_5 hx262_6 hHeld ⊢
       refine pu 0 (some 10) HT_ rfl rfl ?_
       refine pu 1 (some 11) HT_ rfl rfl ?_
       refine pu 2 (some 12) HT_ rfl rfl ?_
       refine ta 3 (some 13) HT_ HW_ hHeld rfl rfl (by rintro w' ⟨s0,s1,s2,s3,s4,s5,s6⟩;go_simp;with_reducible rfl) ?_
       refine one_ (i:=4) (N:=some 14) #[true,true,true,true,true,false,false,false,false,false,false,false,false,false,false,false,false,false,false,false,false,false,false,false] rfl rfl (one_of HT_.out (by kernel_rfl)) (by decide) (fun K hK=>?_)
       refine goes_ Tryz.func91 (by kernel_rfl) rfl #[.agg #[.int .u8 ((rd_T62 l0 x3_1).f0),.int .u8 ((rd_T62 l0 x3_1).f1.f0),.int .u32 ((rd_T62 l0 x3_1).f1.f1),.int .u32 ((rd_T62 l0 x3_1).f1.f2),.int .i64 ((rd_T62 l0 x3_1).f2),.int .u8 ((rd_T62 l0 x3_1).f3),.int .u32 ((rd_T62 l0 x3_1).f4)]] (by rfl) rfl rfl (by (try simp only [List.map_toArray,List.map_cons,List.map_nil]);first | rfl) ?_
       with_reducible refine (tidingsref02_RightEntry.calls k1 ((rd_T62 l0 x3_1).f0) ((rd_T62 l0 x3_1).f1.f0) ((rd_T62 l0 x3_1).f1.f1) ((rd_T62 l0 x3_1).f1.f2) ((rd_T62 l0 x3_1).f2) ((rd_T62 l0 x3_1).f3) ((rd_T62 l0 x3_1).f4) true _ A4.out).mono ?_
       rintro e w16 ⟨rfl,hb⟩
       refine ⟨_,rfl,?_⟩
       replace HB:=Aside0.mk (below_step (by repeat ((with_reducible first | exact HB.out))) hb)
       (try clear hb)
       refine hK.out _ _ ⟨((HB.out.cell (World.block_lt_of_cell? w _ hw262_0)).trans hw262_0),((HB.out.cell (World.block_lt_of_cell? w _ hw262_1)).trans hw262_1),((HB.out.cell (World.block_lt_of_cell? w _ hw262_2)).trans hw262_2),((HB.out.cell (World.block_lt_of_cell? w _ hw262_3)).trans hw262_3),((HB.out.cell (World.block_lt_of_cell? w _ hw262_4)).trans hw262_4),((HB.out.cell (World.block_lt_of_cell? w _ hw262_5)).trans hw262_5),((HB.out.cell (World.block_lt_of_cell? w _ hw262_6)).trans hw262_6)⟩ (fun hHeld=>?_)
       clear hK K
       refine no_ (some 14) ?_
       refine pu 5 (some 15) HT_ rfl rfl ?_
       refine pu 6 (some 16) HT_ rfl rfl ?_
       refine pu 7 (some 17) HT_ rfl rfl ?_
       refine pu 8 (some 18) HT_ rfl rfl ?_
       refine pu 9 (some 19) HT_ rfl rfl ?_
       refine sk 10 (some 20) HT_ rfl rfl ?_
       refine sk 11 (some 21) HT_ rfl rfl ?_
       refine sk 12 (some 22) HT_ rfl rfl ?_
       refine sk 13 (some 23) HT_ rfl rfl ?_
       refine sk 14 (some 24) HT_ rfl rfl ?_
       refine sk 15 (some 25) HT_ rfl rfl ?_
       refine sk 16 (some 26) HT_ rfl rfl ?_
       refine sk 17 (some 27) HT_ rfl rfl ?_
       refine sk 18 (some 28) HT_ rfl rfl ?_
       refine sk 19 (some 29) HT_ rfl rfl ?_
       refine sk 20 (some 30) HT_ rfl rfl ?_
       refine sk 21 (some 31) HT_ rfl rfl ?_
       refine pu 22 (some 32) HT_ rfl rfl ?_
       refine pu 23 (some 33) HT_ rfl rfl ?_
       refine done_ (done_of HT_.out (by kernel_rfl)) ?_
       try go_wp2
       go_roundg k1
       case measure=>have:=HK1.out;omega
       case rel=>exact ⟨(wrap64 (x3_1 + 1)),(by first | rfl),H',⟨by have:=HK1.out;omega⟩,⟨by repeat ((with_reducible first | exact HB.out))⟩⟩
     ·replace c5:=Bool.eq_false_iff.mpr c5
      subst c5
      rw [if_neg (show ¬ (false = true) by decide)] at H
      obtain rfl:=Option.some.inj H
      try go_wp2
      replace HB:=Aside0.mk (below_drew1 HB.out)
      have p262 : 0 ≤ (x3_1 : Int):=of_decide_eq_true (by (with_reducible assumption))
      have q262 : x3_1 < (l0.length : Int):=of_decide_eq_true (by (with_reducible assumption))
      obtain ⟨ad262,e262,hx262_0,hx262_1,hx262_2,hx262_3,hx262_4,hx262_5,hx262_6⟩:=at_T62 HR0.out x3_1 p262 q262
      have hw262_6:=hx262_6
      have hw262_5:=hx262_5
      have hw262_4:=hx262_4
      have hw262_3:=hx262_3
      have hw262_2:=hx262_2
      have hw262_1:=hx262_1
      have hw262_0:=hx262_0
      cases e262
      replace hx262_0:=(HB.out.cell (World.block_lt_of_cell? w _ hx262_0)).trans hx262_0
      replace hx262_1:=(HB.out.cell (World.block_lt_of_cell? w _ hx262_1)).trans hx262_1
      replace hx262_2:=(HB.out.cell (World.block_lt_of_cell? w _ hx262_2)).trans hx262_2
      replace hx262_3:=(HB.out.cell (World.block_lt_of_cell? w _ hx262_3)).trans hx262_3
      replace hx262_4:=(HB.out.cell (World.block_lt_of_cell? w _ hx262_4)).trans hx262_4
      replace hx262_5:=(HB.out.cell (World.block_lt_of_cell? w _ hx262_5)).trans hx262_5
      replace hx262_6:=(HB.out.cell (World.block_lt_of_cell? w _ hx262_6)).trans hx262_6
      replace p262:=eq_true p262
      replace q262:=eq_true q262
      refine start_ (n:=24) (S:=fun w'=>w'.cell? (ad262.add ((x3_1).toNat * 7)) = some (.int .u8 ((rd_T62 l0 x3_1).f0)) ∧ w'.cell? ⟨(ad262.add ((x3_1).toNat * 7)).block,(ad262.add ((x3_1).toNat * 7)).off + 1,none⟩ = some (.int .u8 ((rd_T62 l0 x3_1).f1.f0)) ∧ w'.cell? ⟨(ad262.add ((x3_1).toNat * 7)).block,(ad262.add ((x3_1).toNat * 7)).off + 2,none⟩ = some (.int .u32 ((rd_T62 l0 x3_1).f1.f1)) ∧ w'.cell? ⟨(ad262.add ((x3_1).toNat * 7)).block,(ad262.add ((x3_1).toNat * 7)).off + 3,none⟩ = some (.int .u32 ((rd_T62 l0 x3_1).f1.f2)) ∧ w'.cell? ⟨(ad262.add ((x3_1).toNat * 7)).block,(ad262.add ((x3_1).toNat * 7)).off + 4,none⟩ = some (.int .i64 ((rd_T62 l0 x3_1).f2)) ∧ w'.cell? ⟨(ad262.add ((x3_1).toNat * 7)).block,(ad262.add ((x3_1).toNat * 7)).off + 5,none⟩ = some (.int .u8 ((rd_T62 l0 x3_1).f3)) ∧ w'.cell? ⟨(ad262.add ((x3_1).toNat * 7)).block,(ad262.add ((x3_1).toNat * 7)).off + 6,none⟩ = some (.int .u32 ((rd_T62 l0 x3_1).f4))) (ds:=[]) #[false,false,false,false,false,false,false,false,false,false,false,false,false,false,false,false,false,false,false,false,false,false,false,false] (by kernel_rfl) rfl rfl ⟨((HB.out.cell (World.block_lt_of_cell? w _ hw262_0)).trans hw262_0),((HB.out.cell (World.block_lt_of_cell? w _ hw262_1)).trans hw262_1),((HB.out.cell (World.block_lt_of_cell? w _ hw262_2)).trans hw262_2),((HB.out.cell (World.block_lt_of_cell? w _ hw262_3)).trans hw262_3),((HB.out.cell (World.block_lt_of_cell? w _ hw262_4)).trans hw262_4),((HB.out.cell (World.block_lt_of_cell? w _ hw262_5)).trans hw262_5),((HB.out.cell (World.block_lt_of_cell? w _ hw262_6)).trans hw262_6)⟩ (fun hHeld=>?_);refine with_tabW tidingsref02_Right.tab4 tidingsref02_Right.bits4 (fun HT_ HW_=>?_)
      generalize wr.drew = w17 at HB hx262_0 hx262_1 hx262_2 hx262_3 hx262_4 hx262_5 hx262_6 hHeld ⊢
      refine pu 0 (some 10) HT_ rfl rfl ?_
      refine pu 1 (some 11) HT_ rfl rfl ?_
      refine pu 2 (some 12) HT_ rfl rfl ?_
      refine ta 3 (some 13) HT_ HW_ hHeld rfl rfl (by rintro w' ⟨s0,s1,s2,s3,s4,s5,s6⟩;go_simp;with_reducible rfl) ?_
      refine one_ (i:=4) (N:=some 14) #[true,true,true,true,true,false,false,false,false,false,false,false,false,false,false,false,false,false,false,false,false,false,false,false] rfl rfl (one_of HT_.out (by kernel_rfl)) (by decide) (fun K hK=>?_)
      refine goes_ Tryz.func91 (by kernel_rfl) rfl #[.agg #[.int .u8 ((rd_T62 l0 x3_1).f0),.int .u8 ((rd_T62 l0 x3_1).f1.f0),.int .u32 ((rd_T62 l0 x3_1).f1.f1),.int .u32 ((rd_T62 l0 x3_1).f1.f2),.int .i64 ((rd_T62 l0 x3_1).f2),.int .u8 ((rd_T62 l0 x3_1).f3),.int .u32 ((rd_T62 l0 x3_1).f4)]] (by rfl) rfl rfl (by (try simp only [List.map_toArray,List.map_cons,List.map_nil]);first | rfl) ?_
      with_reducible refine (tidingsref02_RightEntry.calls k1 ((rd_T62 l0 x3_1).f0) ((rd_T62 l0 x3_1).f1.f0) ((rd_T62 l0 x3_1).f1.f1) ((rd_T62 l0 x3_1).f1.f2) ((rd_T62 l0 x3_1).f2) ((rd_T62 l0 x3_1).f3) ((rd_T62 l0 x3_1).f4) false _ A4.out).mono ?_
      rintro e w18 ⟨rfl,hb⟩
      refine ⟨_,rfl,?_⟩
      replace HB:=Aside0.mk (below_step (by repeat ((with_reducible first | exact HB.out))) hb)
      (try clear hb)
      refine hK.out _ _ ⟨((HB.out.cell (World.block_lt_of_cell? w _ hw262_0)).trans hw262_0),((HB.out.cell (World.block_lt_of_cell? w _ hw262_1)).trans hw262_1),((HB.out.cell (World.block_lt_of_cell? w _ hw262_2)).trans hw262_2),((HB.out.cell (World.block_lt_of_cell? w _ hw262_3)).trans hw262_3),((HB.out.cell (World.block_lt_of_cell? w _ hw262_4)).trans hw262_4),((HB.out.cell (World.block_lt_of_cell? w _ hw262_5)).trans hw262_5),((HB.out.cell (World.block_lt_of_cell? w _ hw262_6)).trans hw262_6)⟩ (fun hHeld=>?_)
      clear hK K
      refine no_ (some 14) ?_
      refine pu 5 (some 15) HT_ rfl rfl ?_
      refine pu 6 (some 16) HT_ rfl rfl ?_
      refine sk 7 (some 17) HT_ rfl rfl ?_
      refine sk 8 (some 18) HT_ rfl rfl ?_
      refine sk 9 (some 19) HT_ rfl rfl ?_
      refine sk 10 (some 20) HT_ rfl rfl ?_
      refine sk 11 (some 21) HT_ rfl rfl ?_
      refine sk 12 (some 22) HT_ rfl rfl ?_
      refine sk 13 (some 23) HT_ rfl rfl ?_
      refine sk 14 (some 24) HT_ rfl rfl ?_
      refine sk 15 (some 25) HT_ rfl rfl ?_
      refine sk 16 (some 26) HT_ rfl rfl ?_
      refine sk 17 (some 27) HT_ rfl rfl ?_
      refine sk 18 (some 28) HT_ rfl rfl ?_
      refine sk 19 (some 29) HT_ rfl rfl ?_
      refine sk 20 (some 30) HT_ rfl rfl ?_
      refine sk 21 (some 31) HT_ rfl rfl ?_
      refine sk 22 (some 32) HT_ rfl rfl ?_
      refine pu 23 (some 33) HT_ rfl rfl ?_
      refine done_ (done_of HT_.out (by kernel_rfl)) ?_
      try go_wp2
      go_ret
      exact ⟨by first | rfl,by repeat ((with_reducible first | exact HB.out))⟩
    ·rw [if_neg c3] at H
     exact absurd H (by simp)
   ·rw [if_neg c2] at H
    have c2b0 : decide (x3_1 < (l0.length : Int)) = false:=decide_eq_false c2
    clear c2
    obtain rfl:=Option.some.inj H
    go_wp2
    go_ret
    exact ⟨by first | rfl,by repeat ((with_reducible first | exact HB.out))⟩
end Go.Proofs.YtiminjibcafkaaaGreatDoor.X
