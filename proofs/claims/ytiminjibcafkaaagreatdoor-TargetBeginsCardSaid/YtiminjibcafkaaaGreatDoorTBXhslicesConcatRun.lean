-- MADE BY wip/prx.py (the kit's printer, with contracts proved by hand). Not trusted: Lean checks it.
import Derived.Test.YtiminjibcafkaaaGreatDoorTBJ4
import Derived.Test.YtiminjibcafkaaaGreatDoorTBJ5
import Derived.Lib.AppendZeros
import Derived.Laws.OwnMore
namespace Go.Proofs.YtiminjibcafkaaaGreatDoor.X
open Go.RowKit Go.Proofs.YtiminjibcafkaaaGreatDoorW.PrintWords Go.Proofs.YtiminjibcafkaaaGreatDoorW.PrintLast Go.Proofs.YtiminjibcafkaaaGreatDoorW.PrintMore
attribute [local go_sem] max2_int min2_int max_two min_two max_three min_three max_four min_four   -- for this text's walks alone
set_option linter.unusedVariables false
set_option linter.unusedSimpArgs false
--EXT Derived.Lib.AppendZeros Derived.Laws.OwnMore
/-! ### slices_Concat_Run: function 55, by hand -/
theorem grown_lim (w : World) (n : Nat) (e : TypeId) (h : n ≤ 1000000) : grownCap w n 0 e ≤ maxLen:=grownCap_le_maxLen w n 0 e (by unfold maxLen;omega)
theorem zeroCells_size (cs : Array Value) (n : Nat) : (Builtin.zeroCells cs n).size = n * cs.size:=by
 unfold Builtin.zeroCells
 first
  | simp
  | (induction n with
     | zero=>simp
     | succ n ih=>simp_all [Nat.succ_mul])
set_option maxRecDepth 100000 in
set_option maxHeartbeats 4000000 in
/-- slices.Grow at api.Run, of the nil slice. -/
theorem slices_Grow_Run.calls (n : Nat) (hn : n ≤ 1000000) (w : World) :
 Calls Tryz.prog 88 #[.slice none 0 0,.int .i64 n] w fun e w'=>∃ v0_ : Value,e = .returned v0_ ∧ Kd.R k67 67 w' w.heap.size (fun _=>True) v0_ [] ∧ Below w.heap.size w w':=by
 by_cases h0 : n = 0
 ·subst h0
  go_enter Tryz.func88,Tryz.ntmps88
  go_wp2
  go_ret
  exact ⟨_,rfl,Kd.R_nil _ _ _ _ _,Below.refl _ _⟩
 ·have hpos : 0 < n:=by omega
  have hd1 : decide ((n : Int) < 0) = false:=decide_eq_false (by omega)
  have hd2 : decide ((n : Int) > 0) = true:=decide_eq_true (by omega)
  have hd3 : decide ((0 : Int) < n) = true:=decide_eq_true (by omega)
  have hd4 : decide (0 < n) = true:=decide_eq_true (by omega)
  obtain ⟨i0,hi0,hz0,hs0,hb0⟩:=info_parts info67
  have hk:=Lib.run_append_nil_zeros (P:=Tryz.prog) w 23 3 23 67 i0 (.agg #[.int .u8 0,.int .u32 0,.int .u32 0]) .i64 .i64 Tryz.underlying23 Tryz.underlying3 hi0 hz0 n hpos (by omega) (by omega) (by rw [hb0];omega)
  have HK:=Aside0.mk hk
  have HN:=Aside0.mk hn
  have hcap : 0 ≤ grownCap w n 0 67:=Nat.zero_le _
  have HW:=Aside0.mk (World.ownsRow_made (base:=w.heap.size) (e:=67) (size:=3) w.drew (Builtin.zeroCells (Value.agg #[.int .u8 0,.int .u32 0,.int .u32 0]).cells n ++ Builtin.zeroCells (Value.agg #[.int .u8 0,.int .u32 0,.int .u32 0]).cells (grownCap w n 0 67 - n)) (grownCap w n 0 67) (Nat.le_refl _) (grown_lim w n _ hn) (by
   have hge:=grownCap_ge w n 0 67
   rw [Array.size_append,zeroCells_size,zeroCells_size]
   show n * 3 + (grownCap w n 0 67 - n) * 3 = grownCap w n 0 67 * 3
   omega))
  clear hk hi0 hz0 hs0 hb0
  have hnz : (n : Int) ≤ 1000000:=by omega
  have HBe:=Aside0.mk (((Below.refl w.heap.size w).drew).alloc (Nat.le_refl _) (.cells (Builtin.zeroCells (Value.agg #[.int .u8 0,.int .u32 0,.int .u32 0]).cells n ++ Builtin.zeroCells (Value.agg #[.int .u8 0,.int .u32 0,.int .u32 0]).cells (grownCap w n 0 67 - n)) 67))
  generalize hw2 : w.drew.alloc _ = w2 at HK HW HBe
  generalize grownCap w n 0 67 = cc at HK HW hcap
  clear hw2
  have hccz : (0 : Int) ≤ (cc : Int):=Int.natCast_nonneg _
  go_enter Tryz.func88,Tryz.ntmps88
  go_wp2_with (at_builtin;refine Lib.wpList_append_run _ rfl _ _ _ _ rfl _ _ rfl rfl _ _ HK.out ?_)
  go_ret
  exact ⟨_,rfl,⟨fun _ _=>trivial,[],HW.out,Reps.none _ _⟩,HBe.out⟩
set_option maxRecDepth 100000 in
set_option maxHeartbeats 4000000 in
/-- slices.Concat at api.Run, of two rows. -/
theorem slices_Concat_Run.calls (B : Nat) (A0 A1 : Option Addr) (c0 c1 : Nat) (l0 l1 : List (S67)) (w : World) (hB : w.heap[B]? = some (.cells #[.slice A0 l0.length c0,.slice A1 l1.length c1] 23 (0,0)))
 (hr0 : Kd.C k67 w A0 l0.length l0) (hr1 : Kd.C k67 w A1 l1.length l1) (h0 : l0.length ≤ 400000) (h1 : l1.length ≤ 400000) :
 Calls Tryz.prog 55 #[.slice (some ⟨B,0,none⟩) 2 2] w fun e w'=>∃ v0_ : Value,e = .returned v0_ ∧ Kd.R k67 67 w' w.heap.size (fun _=>True) v0_ (l0 ++ l1) ∧ Below w.heap.size w w':=by
 obtain ⟨q0,q1⟩:=cells2 hB
 have HB:=Aside0.mk hB
 have HR0:=Aside0.mk hr0
 have HR1:=Aside0.mk hr1
 have hd1 : decide ((l0.length : Int) < 0) = false:=decide_eq_false (by omega)
 have hd2 : decide ((l0.length : Int) + (l1.length : Int) < 0) = false:=decide_eq_false (by omega)
 clear hB hr0 hr1
 have HG:=Aside0.mk (show ∀ W : World,Calls Tryz.prog 88 #[.slice none 0 0,.int .i64 ((l0.length : Int) + (l1.length : Int))] W fun e w'=>∃ v0_ : Value,e = .returned v0_ ∧ Kd.R k67 67 w' W.heap.size (fun _=>True) v0_ [] ∧ Below W.heap.size W w' from fun W=>by
  have h:=slices_Grow_Run.calls (l0.length + l1.length) (by omega) W
  rwa [Int.natCast_add] at h)
 go_enter Tryz.func55,Tryz.ntmps55
 go_wp2_with fail
 refine wp_loop_rounds 3 ?_
 rw [rounds_succ]
 go_wp2_with fail
 rw [rounds_succ]
 go_wp2_with fail
 rw [rounds_succ]
 go_wp2_with fail
 refine (HG.out _).mono ?_
 rintro e w1 ⟨v0,rfl,hR1,hb1⟩
 have B1:=Aside0.mk (blk_below HB.out hb1)
 have R0:=Aside0.mk (Kd.C_below HR0.out hb1)
 have R1:=Aside0.mk (Kd.C_below HR1.out hb1)
 have HV:=Aside0.mk hR1
 have HBe:=Aside0.mk hb1
 clear hR1 hb1 HG q0 q1
 obtain ⟨q0,q1⟩:=cells2 B1.out
 go_wp2_with fail
 refine wp_loop_rounds 3 ?_
 rw [rounds_succ]
 go_wp2_with (at_builtin;(refine Kd.R_append_rows k67 (w0:=w) (Rr:=k67.K w1) w.heap.size rfl _ _ 23 67 _ 12 rfl Tryz.underlying23 info67 rfl (by decide) (by decide) v0 [] l0 A0 l0.length c0 (fun _=>True) (fun k_=>False) rfl rfl ?c1 ?c2 ?c3 (fun _ h=>h.elim) (fun _ _=>trivial) ?c4 ?c5 ?c6 ?_))
 case c1=>exact HV.out
 case c2=>exact R0.out
 case c3 =>
  intro x cs h
  obtain rfl:=k67_open h
  exact k67_mkM _ _ _ x
 case c4=>exact HBe.out
 case c5=>exact HBe.out.size
 case c6=>simp;omega
 intro v1 w2 hV2 hb2 _ _
 have B2:=Aside0.mk (blk_below HB.out hb2)
 have R2:=Aside0.mk (Kd.C_below HR1.out hb2)
 have HV2:=Aside0.mk hV2
 have HB2:=Aside0.mk hb2
 clear hV2 hb2 q0 q1
 obtain ⟨q0,q1⟩:=cells2 B2.out
 go_wp2_with fail
 rw [rounds_succ]
 go_wp2_with (at_builtin;(refine Kd.R_append_rows k67 (w0:=w) (Rr:=k67.K w2) w.heap.size rfl _ _ 23 67 _ 12 rfl Tryz.underlying23 info67 rfl (by decide) (by decide) v1 ([] ++ l0) l1 A1 l1.length c1 (fun _=>True) (fun k_=>False) rfl rfl ?d1 ?d2 ?d3 (fun _ h=>h.elim) (fun _ _=>trivial) ?d4 ?d5 ?d6 ?_))
 case d1=>exact HV2.out
 case d2=>exact R2.out
 case d3 =>
  intro x cs h
  obtain rfl:=k67_open h
  exact k67_mkM _ _ _ x
 case d4=>exact HB2.out
 case d5=>exact HB2.out.size
 case d6=>simp;omega
 intro v2 w3 hV3 hb3 _ _
 have HV3:=Aside0.mk hV3
 have HB3:=Aside0.mk hb3
 clear hV3 hb3 q0 q1
 go_wp2_with fail
 rw [rounds_succ]
 go_wp2_with fail
 go_ret
 exact ⟨_,rfl,HV3.out,HB3.out⟩
end Go.Proofs.YtiminjibcafkaaaGreatDoor.X
