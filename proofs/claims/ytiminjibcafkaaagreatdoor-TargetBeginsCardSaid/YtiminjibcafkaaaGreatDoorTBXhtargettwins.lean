-- MADE BY wip/prx.py (the kit's printer, with contracts proved by hand). Not trusted: Lean checks it.
import Derived.Test.YtiminjibcafkaaaGreatDoorTBJ4
import Derived.Test.YtiminjibcafkaaaGreatDoorTBJ5
import Derived.Test.YtiminjibcafkaaaGreatDoorTBJ6
namespace Go.Proofs.YtiminjibcafkaaaGreatDoor.X
open Go.RowKit Go.Proofs.YtiminjibcafkaaaGreatDoorW.PrintWords Go.Proofs.YtiminjibcafkaaaGreatDoorW.PrintLast Go.Proofs.YtiminjibcafkaaaGreatDoorW.PrintMore
attribute [local go_sem] max2_int min2_int max_two min_two max_three min_three max_four min_four   -- for this text's walks alone
set_option linter.unusedVariables false
set_option linter.unusedSimpArgs false
--EXT 
/-! ### target_twins: function 32, by hand -/
/-- Is it of another item, and of the same number? -/
def like (v : S62) (x : S62) : Bool:=decide (x.f0 ≠ v.f0) && (decide (x.f1.f0 = v.f1.f0) && decide (x.f1.f1 = v.f1.f1))
def twinsB (l h : List S62) : Nat → Nat → Bool
 | 0,_=>false
 | d + 1,i=>(l.take i).any (like (l.getD i z62)) || (h.any (like (l.getD i z62)) || twinsB l h d (i + 1))
/-- target.twins. -/
def target_twins.f (a0_0 a0_1 a0_2 a0_3 : Int) (l0_4 : List S67) (l0_5 : List S62) (a0_6 : Bool) (a0_7 a0_8 a0_9 a0_10 : Int) (l0_11 : List S67) (a0_12 a1_0 a1_1 a1_2 a1_3 a1_4 a1_5 : Int) (l1_6 : List S67) (a1_7 : Int) (l1_8 : List S62) (a1_9 : Int) (a1_10 : Bool) (l1_11 : List S67) : Option Bool:=some (twinsB l1_8 l0_5 l1_8.length 0)
theorem target_twins.pred (v : S62) (B1 : Nat) (w : World) (hB1 : B1 < w.heap.size) (h1 : w.heap[B1]? = some (.cells #[.int .u8 v.f0,.int .u8 v.f1.f0,.int .u32 v.f1.f1,.int .u32 v.f1.f2,.int .i64 v.f2,.int .u8 v.f3,.int .u32 v.f4] 62 (0,0))) :
 ∀ (W : World) (x : S62),Below w.heap.size w W → Calls Tryz.prog 74 (#[.agg #[.int .u8 x.f0,.int .u8 x.f1.f0,.int .u32 x.f1.f1,.int .u32 x.f1.f2,.int .i64 x.f2,.int .u8 x.f3,.int .u32 x.f4]] ++ #[.pointer (some ⟨B1,0,none⟩)]) W fun e w'=>e = .returned (.bool (like v x)) ∧ Below W.heap.size W w':=fun W x hb=>by
 have n1 : B1 < W.heap.size:=Nat.lt_of_lt_of_le hB1 hb.size
 have e1 : B1 ≠ W.heap.size:=by omega
 have hW:=blk_below h1 hb
 clear hb h1 hB1
 obtain ⟨f0,⟨g0,g1,g2⟩,f2,f3,f4⟩:=x
 obtain ⟨q0,q1,q2,q3,q4,q5,q6⟩:=cells7 (blk_alloc hW (.cells #[.int .u8 f0,.int .u8 g0,.int .u32 g1,.int .u32 g2,.int .i64 f2,.int .u8 f3,.int .u32 f4] 62))
 obtain ⟨k0,k1,k2,k3,k4,k5,k6⟩:=cells7 hW
 show Calls Tryz.prog 74 #[.agg #[.int .u8 f0,.int .u8 g0,.int .u32 g1,.int .u32 g2,.int .i64 f2,.int .u8 f3,.int .u32 f4],.pointer (some ⟨B1,0,none⟩)] W _
 have hu:=Tryz.underlying62
 unfold like
 dsimp only
 by_cases p0 : f0 = v.f0
 ·subst p0
  go_enter Tryz.func74,Tryz.ntmps74
  go_wp2
  go_ret
  exact ⟨by simp,(Below.refl _ _).alloc (Nat.le_refl _) _⟩
 ·have p0a : decide (f0 ≠ v.f0) = true:=decide_eq_true p0
  have p0b : (f0 != v.f0) = true:=by simp [p0]
  by_cases p1 : g0 = v.f1.f0
  ·subst p1
   by_cases p2 : g1 = v.f1.f1
   ·subst p2
    go_enter Tryz.func74,Tryz.ntmps74
    go_wp2
    go_ret
    exact ⟨by simp [p0],(Below.refl _ _).alloc (Nat.le_refl _) _⟩
   ·have p2a : decide (g1 = v.f1.f1) = false:=decide_eq_false p2
    have p2b : (g1 == v.f1.f1) = false:=by simp [p2]
    go_enter Tryz.func74,Tryz.ntmps74
    go_wp2
    go_ret
    exact ⟨by simp [p2],(Below.refl _ _).alloc (Nat.le_refl _) _⟩
  ·have p1a : decide (g0 = v.f1.f0) = false:=decide_eq_false p1
   have p1b : (g0 == v.f1.f0) = false:=by simp [p1]
   go_enter Tryz.func74,Tryz.ntmps74
   go_wp2
   go_ret
   exact ⟨by simp [p1],(Below.refl _ _).alloc (Nat.le_refl _) _⟩
set_option maxHeartbeats 8000000 in
set_option maxRecDepth 100000 in
theorem target_twins.calls (a0_0 : Int) (a0_1 : Int) (a0_2 : Int) (a0_3 : Int) (A0_4 : Option Addr) (c0_4 : Nat) (l0_4 : List (S67)) (A0_5 : Option Addr) (c0_5 : Nat) (l0_5 : List (S62)) (a0_6 : Bool) (a0_7 : Int) (a0_8 : Int) (a0_9 : Int) (a0_10 : Int) (A0_11 : Option Addr) (c0_11 : Nat) (l0_11 : List (S67)) (a0_12 : Int) (a1_0 : Int) (a1_1 : Int) (a1_2 : Int) (a1_3 : Int) (a1_4 : Int) (a1_5 : Int) (A1_6 : Option Addr) (c1_6 : Nat) (l1_6 : List (S67)) (a1_7 : Int) (A1_8 : Option Addr) (c1_8 : Nat) (l1_8 : List (S62)) (a1_9 : Int) (a1_10 : Bool) (A1_11 : Option Addr) (c1_11 : Nat) (l1_11 : List (S67)) (r : Bool) (w : World) (hr0_4 : Kd.C k67 w A0_4 l0_4.length l0_4) (hc0_4 : l0_4.length ≤ c0_4) (hr0_5 : Kd.C k62 w A0_5 l0_5.length l0_5) (hc0_5 : l0_5.length ≤ c0_5) (hr0_11 : Kd.C k67 w A0_11 l0_11.length l0_11) (hc0_11 : l0_11.length ≤ c0_11) (hr1_6 : Kd.C k67 w A1_6 l1_6.length l1_6) (hc1_6 : l1_6.length ≤ c1_6) (hr1_8 : Kd.C k62 w A1_8 l1_8.length l1_8) (hc1_8 : l1_8.length ≤ c1_8) (hr1_11 : Kd.C k67 w A1_11 l1_11.length l1_11) (hc1_11 : l1_11.length ≤ c1_11) (h : target_twins.f a0_0 a0_1 a0_2 a0_3 l0_4 l0_5 a0_6 a0_7 a0_8 a0_9 a0_10 l0_11 a0_12 a1_0 a1_1 a1_2 a1_3 a1_4 a1_5 l1_6 a1_7 l1_8 a1_9 a1_10 l1_11 = some r) :
 Calls Tryz.prog 32 #[.agg #[.int .u8 a0_0,.int .u8 a0_1,.int .u32 a0_2,.int .u32 a0_3,.slice A0_4 l0_4.length c0_4,.slice A0_5 l0_5.length c0_5,.bool a0_6,.int .u32 a0_7,.int .u8 a0_8,.int .u8 a0_9,.int .u32 a0_10,.slice A0_11 l0_11.length c0_11,.int .u32 a0_12],.agg #[.int .i64 a1_0,.int .u8 a1_1,.int .u8 a1_2,.int .u32 a1_3,.int .u8 a1_4,.int .u8 a1_5,.slice A1_6 l1_6.length c1_6,.int .u32 a1_7,.slice A1_8 l1_8.length c1_8,.int .u8 a1_9,.bool a1_10,.slice A1_11 l1_11.length c1_11]] w fun e w'=>e = .returned (.bool r) ∧ Below w.heap.size w w':=by
 have hmf : ∀ (fn : Fn) (first cap : Array Value) (w : World),(Instr.makeFunc fn first cap).run Tryz.prog w = .ok (.func fn first cap) w:=fun _ _ _ _=>rfl
 have huR:=Tryz.underlying28
 have huN:=Tryz.underlying30
 have huE:=Tryz.underlying62
 have HR4:=Aside0.mk hr0_4
 have HR5:=Aside0.mk hr0_5
 have HR11:=Aside0.mk hr0_11
 have HN6:=Aside0.mk hr1_6
 have HN8:=Aside0.mk hr1_8
 have HN11:=Aside0.mk hr1_11
 have HC5:=Aside0.mk hc0_5
 have HD8:=Aside0.mk hc1_8
 have HD11:=Aside0.mk hc1_11
 clear hr0_4 hr0_5 hr0_11 hr1_6 hr1_8 hr1_11 hc0_4 hc0_5 hc0_11 hc1_6 hc1_8 hc1_11
 have EG1:=Aside0.mk (show ∀ args w,(callFunc 74 args).run Tryz.prog w = .ok (.enter 74 args) w from enters_of Tryz.func74 (by kernel_rfl) rfl)
 unfold target_twins.f at h
 have HL:=Aside0.mk (Option.some.inj h)
 clear h
 have hmax : l1_8.length ≤ 9223372036854775807:=HN8.out.2.1
 go_enter Tryz.func32,Tryz.ntmps32
 go_wp2_with fail
 have B0:=Aside0.mk (blk_alloc (blk_new w (.cells #[.int .u8 a0_0,.int .u8 a0_1,.int .u32 a0_2,.int .u32 a0_3,.slice A0_4 l0_4.length c0_4,.slice A0_5 l0_5.length c0_5,.bool a0_6,.int .u32 a0_7,.int .u8 a0_8,.int .u8 a0_9,.int .u32 a0_10,.slice A0_11 l0_11.length c0_11,.int .u32 a0_12] 28)) (.cells #[.int .i64 a1_0,.int .u8 a1_1,.int .u8 a1_2,.int .u32 a1_3,.int .u8 a1_4,.int .u8 a1_5,.slice A1_6 l1_6.length c1_6,.int .u32 a1_7,.slice A1_8 l1_8.length c1_8,.int .u8 a1_9,.bool a1_10,.slice A1_11 l1_11.length c1_11] 30))
 have P0:=Aside0.mk (show ((w.alloc (.cells #[.int .u8 a0_0,.int .u8 a0_1,.int .u32 a0_2,.int .u32 a0_3,.slice A0_4 l0_4.length c0_4,.slice A0_5 l0_5.length c0_5,.bool a0_6,.int .u32 a0_7,.int .u8 a0_8,.int .u8 a0_9,.int .u32 a0_10,.slice A0_11 l0_11.length c0_11,.int .u32 a0_12] 28)).alloc (.cells #[.int .i64 a1_0,.int .u8 a1_1,.int .u8 a1_2,.int .u32 a1_3,.int .u8 a1_4,.int .u8 a1_5,.slice A1_6 l1_6.length c1_6,.int .u32 a1_7,.slice A1_8 l1_8.length c1_8,.int .u8 a1_9,.bool a1_10,.slice A1_11 l1_11.length c1_11] 30)).heap[w.heap.size + 1]? = some (.cells #[.int .i64 a1_0,.int .u8 a1_1,.int .u8 a1_2,.int .u32 a1_3,.int .u8 a1_4,.int .u8 a1_5,.slice A1_6 l1_6.length c1_6,.int .u32 a1_7,.slice A1_8 l1_8.length c1_8,.int .u8 a1_9,.bool a1_10,.slice A1_11 l1_11.length c1_11] 30 (0,0)) by simpa using blk_new (w.alloc (.cells #[.int .u8 a0_0,.int .u8 a0_1,.int .u32 a0_2,.int .u32 a0_3,.slice A0_4 l0_4.length c0_4,.slice A0_5 l0_5.length c0_5,.bool a0_6,.int .u32 a0_7,.int .u8 a0_8,.int .u8 a0_9,.int .u32 a0_10,.slice A0_11 l0_11.length c0_11,.int .u32 a0_12] 28)) (.cells #[.int .i64 a1_0,.int .u8 a1_1,.int .u8 a1_2,.int .u32 a1_3,.int .u8 a1_4,.int .u8 a1_5,.slice A1_6 l1_6.length c1_6,.int .u32 a1_7,.slice A1_8 l1_8.length c1_8,.int .u8 a1_9,.bool a1_10,.slice A1_11 l1_11.length c1_11] 30))
 have HB0:=Aside0.mk (((Below.refl _ w).alloc (Nat.le_refl _) (.cells #[.int .u8 a0_0,.int .u8 a0_1,.int .u32 a0_2,.int .u32 a0_3,.slice A0_4 l0_4.length c0_4,.slice A0_5 l0_5.length c0_5,.bool a0_6,.int .u32 a0_7,.int .u8 a0_8,.int .u8 a0_9,.int .u32 a0_10,.slice A0_11 l0_11.length c0_11,.int .u32 a0_12] 28)).alloc (by simp) (.cells #[.int .i64 a1_0,.int .u8 a1_1,.int .u8 a1_2,.int .u32 a1_3,.int .u8 a1_4,.int .u8 a1_5,.slice A1_6 l1_6.length c1_6,.int .u32 a1_7,.slice A1_8 l1_8.length c1_8,.int .u8 a1_9,.bool a1_10,.slice A1_11 l1_11.length c1_11] 30))
 generalize (w.alloc (.cells #[.int .u8 a0_0,.int .u8 a0_1,.int .u32 a0_2,.int .u32 a0_3,.slice A0_4 l0_4.length c0_4,.slice A0_5 l0_5.length c0_5,.bool a0_6,.int .u32 a0_7,.int .u8 a0_8,.int .u8 a0_9,.int .u32 a0_10,.slice A0_11 l0_11.length c0_11,.int .u32 a0_12] 28)).alloc (.cells #[.int .i64 a1_0,.int .u8 a1_1,.int .u8 a1_2,.int .u32 a1_3,.int .u8 a1_4,.int .u8 a1_5,.slice A1_6 l1_6.length c1_6,.int .u32 a1_7,.slice A1_8 l1_8.length c1_8,.int .u8 a1_9,.bool a1_10,.slice A1_11 l1_11.length c1_11] 30) = w0 at B0 P0 HB0 ⊢
 obtain ⟨s0,s1,s2,s3,s4,s5,s6,s7,s8,s9,s10,s11⟩:=cells12 P0.out
 go_wp2_with fail
 go_loopg [11] l1_8.length (fun gg ss wr=>∃ kk : Nat,kk ≤ l1_8.length ∧ l1_8.length - kk ≤ gg ∧ ss = .int .i64 kk ∧ Aside0 (Below w0.heap.size w0 wr) ∧ Aside0 (twinsB l1_8 l0_5 (l1_8.length - kk) kk = r))
 case atStart=>exact ⟨0,Nat.zero_le _,by omega,rfl,⟨Below.refl _ _⟩,HL⟩
 case round =>
  obtain ⟨kk,hkk,hgg,rfl,BW,HW⟩:=hrel
  clear s0 s1 s2 s3 s4 s5 s6 s7 s8 s9 s10 s11
  clear HL
  have hLL:=HW.out
  clear HW
  by_cases hlt : kk < l1_8.length
  ·have hltz : (kk : Int) < (l1_8.length : Int):=by omega
   have h0k : (0 : Int) ≤ (kk : Int):=by omega
   rw [show l1_8.length - kk = (l1_8.length - (kk + 1)) + 1 by omega] at hLL
   have B8:=Aside0.mk (blk_below B0.out BW.out)
   have P8:=Aside0.mk (blk_below P0.out BW.out)
   have HB8:=Aside0.mk (below_step HB0.out BW.out)
   obtain ⟨ax,e,p0,p1,p2,p3,p4,p5,p6⟩:=at_T62 (Kd.C_below HN8.out HB8.out) (kk : Int) h0k hltz
   subst e
   have hX : rd_T62 l1_8 (kk : Int) = l1_8.getD kk z62:=rfl
   rw [hX] at p0 p1 p2 p3 p4 p5 p6
   clear hX
   simp only [Int.toNat_natCast] at p0 p1 p2 p3 p4 p5 p6
   replace hLL : ((l1_8.take kk).any (like (l1_8.getD kk z62)) || (l0_5.any (like (l1_8.getD kk z62)) || twinsB l1_8 l0_5 (l1_8.length - (kk + 1)) (kk + 1))) = r:=hLL
   generalize l1_8.getD kk z62 = X at hLL p0 p1 p2 p3 p4 p5 p6
   have hkc : (kk : Int) ≤ (c1_8 : Int):=by have:=HD8.out;omega
   have B9:=Aside0.mk (blk_alloc B8.out (.cells #[.int .u8 X.f0,.int .u8 X.f1.f0,.int .u32 X.f1.f1,.int .u32 X.f1.f2,.int .i64 X.f2,.int .u8 X.f3,.int .u32 X.f4] 62))
   have P9:=Aside0.mk (blk_alloc P8.out (.cells #[.int .u8 X.f0,.int .u8 X.f1.f0,.int .u32 X.f1.f1,.int .u32 X.f1.f2,.int .i64 X.f2,.int .u8 X.f3,.int .u32 X.f4] 62))
   have E9:=Aside0.mk (blk_new wr (.cells #[.int .u8 X.f0,.int .u8 X.f1.f0,.int .u32 X.f1.f1,.int .u32 X.f1.f2,.int .i64 X.f2,.int .u8 X.f3,.int .u32 X.f4] 62))
   have HB9:=Aside0.mk (HB8.out.alloc HB8.out.size (.cells #[.int .u8 X.f0,.int .u8 X.f1.f0,.int .u32 X.f1.f1,.int .u32 X.f1.f2,.int .i64 X.f2,.int .u8 X.f3,.int .u32 X.f4] 62))
   have HBW9:=Aside0.mk (BW.out.alloc BW.out.size (.cells #[.int .u8 X.f0,.int .u8 X.f1.f0,.int .u32 X.f1.f1,.int .u32 X.f1.f2,.int .i64 X.f2,.int .u8 X.f3,.int .u32 X.f4] 62))
   obtain ⟨s0,s1,s2,s3,s4,s5,s6,s7,s8,s9,s10,s11⟩:=cells12 P9.out
   have HN:=Aside0.mk hLL
   clear hLL
   go_wp2_with fail
   generalize wr.alloc (.cells #[.int .u8 X.f0,.int .u8 X.f1.f0,.int .u32 X.f1.f1,.int .u32 X.f1.f2,.int .i64 X.f2,.int .u8 X.f3,.int .u32 X.f4] 62) = w9 at B9 P9 E9 HB9 HBW9 ⊢
   generalize wr.heap.size = g9 at E9 ⊢
   clear p0 p1 p2 p3 p4 p5 p6 B8 P8 HB8 BW s0 s1 s2 s3 s4 s5 s6 s7 s8 s9 s10 s11
   have hLL:=HN.out
   clear HN
   have hc1:=slices_ContainsFunc_Entry.calls (like X) 74 #[.pointer (some ⟨g9,0,none⟩)] EG1.out (some ax) c1_8 (l1_8.take kk) w9 (Kd.C_take (Kd.C_below HN8.out HB9.out) hkk) (target_twins.pred X g9 w9 (blk_lt E9.out) E9.out)
   rw [List.length_take,Nat.min_eq_left hkk] at hc1
   generalize (l1_8.take kk).any (like X) = b1 at hc1 hLL
   refine hc1.mono ?_
   rintro e w10 ⟨rfl,hx⟩
   clear hc1
   have P10:=Aside0.mk (blk_below P9.out hx)
   have B10:=Aside0.mk (blk_below B9.out hx)
   have E10:=Aside0.mk (blk_below E9.out hx)
   have HB10:=Aside0.mk (below_step HB9.out hx)
   have HBW10:=Aside0.mk (below_step HBW9.out hx)
   clear hx P9 B9 E9 HB9 HBW9
   cases b1 with
   | true =>
    obtain rfl : true = r:=hLL
    go_wp2_with fail
    go_ret
    exact ⟨rfl,HB10.out⟩
   | false =>
    rw [Bool.false_or] at hLL
    obtain ⟨q0,q1,q2,q3,q4,q5,q6,q7,q8,q9,q10,q11,q12⟩:=cells13 B10.out
    have HN:=Aside0.mk hLL
    clear hLL
    go_wp2_with fail
    have hLL:=HN.out
    clear HN
    have hc2:=slices_ContainsFunc_Entry.calls (like X) 74 #[.pointer (some ⟨g9,0,none⟩)] EG1.out _ c0_5 l0_5 w10 (Kd.C_below HR5.out HB10.out) (target_twins.pred X g9 w10 (blk_lt E10.out) E10.out)
    generalize l0_5.any (like X) = b2 at hc2 hLL
    refine hc2.mono ?_
    rintro e w11 ⟨rfl,hx⟩
    clear hc2
    have HB11:=Aside0.mk (below_step HB10.out hx)
    have HBW11:=Aside0.mk (below_step HBW10.out hx)
    clear hx
    cases b2 with
    | true =>
     obtain rfl : true = r:=hLL
     go_wp2_with fail
     go_ret
     exact ⟨rfl,HB11.out⟩
    | false =>
     rw [Bool.false_or] at hLL
     have HM:=Aside0.mk hLL
     clear hLL
     go_wp2_with fail
     go_roundg (l1_8.length - (kk + 1))
     case measure=>omega
     case rel=>exact ⟨kk + 1,by omega,Nat.le_refl _,by go_num,HBW11,HM⟩
  ·have hltz : ¬ (kk : Int) < (l1_8.length : Int):=by omega
   rw [show l1_8.length - kk = 0 by omega] at hLL
   obtain rfl : false = r:=hLL
   go_wp2_with fail
   go_ret
   exact ⟨rfl,below_step HB0.out BW.out⟩
end Go.Proofs.YtiminjibcafkaaaGreatDoor.X
