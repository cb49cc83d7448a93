/- Texts that this claim's law comes to, joined by wip/slim.py: XhslicesCloneRun, XhslicesCloneEntry. -/
import Derived.Test.YtiminjibcafkaaaGreatDoorTGTAJ4
import Derived.Lib.SliceRun
set_option linter.unusedSimpArgs false
set_option linter.unusedVariables false
section
namespace Go.Proofs.YtiminjibcafkaaaGreatDoor.X
open RowKit YtiminjibcafkaaaGreatDoorW.PrintWords YtiminjibcafkaaaGreatDoorW.PrintLast YtiminjibcafkaaaGreatDoorW.PrintMore
attribute [local go_sem] max2_int min2_int max_two min_two max_three min_three max_four min_four
def slices_Clone_Run.f (l0 : List (S67)) : Option (List (S67)):=if l0.length < 11728124029610 then some l0 else none
set_option maxHeartbeats 8000000 in
set_option maxRecDepth 100000 in
theorem slices_Clone_Run.calls (A0 : Option Addr) (c0 : Nat) (l0 : List (S67)) (r : List (S67)) (w : World) (hr0 : Kd.C k67 w A0 l0.length l0) (hc0 : l0.length ≤ c0) (h : slices_Clone_Run.f l0 = some r) :
 Calls Tryz.prog 36 #[.slice A0 l0.length c0] w fun e w'=>∃ v0_ : Value,e = .returned (v0_) ∧ Kd.R k67 67 w' w.heap.size (fun _=>True) v0_ r ∧ Below w.heap.size w w':=by
 have hq : ∀ (w : World) (a : Option Addr) (n c n' c' : Nat),(binOp .eql 23 (.slice a n c) (.slice none n' c')).run Tryz.prog w = .ok (.bool a.isNone) w:=fun w a n c n' c'=>Lib.run_eql_slice_nil w _ _ a n c n' c' Tryz.underlying23
 unfold slices_Clone_Run.f at h;by_cases hlt : l0.length < 11728124029610
 case neg=>rw [if_neg hlt] at h;cases h
 rw [if_pos hlt] at h;obtain rfl:=zH h;clear h;have HL:=zA hlt;have HR:=zA hr0;clear hlt hr0 hc0;rcases A0 with _ | ad
 ·have h0 : l0 = []:=by
   rcases Nat.eq_zero_or_pos l0.length with h0 | h0
   ·exact List.eq_nil_of_length_eq_zero h0
   ·obtain ⟨ad,he,_⟩:=HR.out.2.2 h0;cases he
  have H0:=zA h0;clear h0;go_enter Tryz.func36,Tryz.ntmps36;go_wp2;go_ret;exact ⟨_,rfl,by rw [H0.out];exact Kd.R_nil _ _ _ _ _,zS _ _⟩
 ·go_enter Tryz.func36,Tryz.ntmps36;go_wp2_with (at_builtin;(refine Kd.R_append_rows k67 (w0:=w) (Rr:=k67.K (w.alloc (.cells #[] 67))) w.heap.size rfl _ _ 23 67 _ 12 rfl Tryz.underlying23 info67 rfl (by decide) (by decide) (.slice (some ⟨w.heap.size,0,none⟩) 0 0) [] l0 (some ad) l0.length c0 (fun _=>True) (fun k_=>False) rfl rfl ?c1 ?c2 ?c3 (fun _ h=>h.elim) (fun _ _=>trivial) ?c4 ?c5 ?c6 ?_))
  case c1=>exact ⟨fun _ _=>trivial,OwnRow.lit w w.heap.size (Reps.none _ _) (zM _) (by simp)⟩
  case c2=>exact Kd.C_alloc HR.out _
  case c3 =>
   intro x cs h;obtain rfl:=k67_open h;exact k67_mkM _ _ _ x
  case c4=>exact (zS _ _).alloc (zM _) _
  case c5=>simp
  case c6=>have:=HL.out;simp;omega
  intro v1 w1 hr1 hb1 _ _;go_wp2;go_ret;exact ⟨_,rfl,hr1,hb1⟩
def slices_Clone_Entry.f (l0 : List (S62)) : Option (List (S62)):=if l0.length < 4398046511104 then some l0 else none
set_option maxHeartbeats 8000000 in
set_option maxRecDepth 100000 in
theorem slices_Clone_Entry.calls (A0 : Option Addr) (c0 : Nat) (l0 : List (S62)) (r : List (S62)) (w : World) (hr0 : Kd.C k62 w A0 l0.length l0) (hc0 : l0.length ≤ c0) (h : slices_Clone_Entry.f l0 = some r) :
 Calls Tryz.prog 102 #[.slice A0 l0.length c0] w fun e w'=>∃ v0_ : Value,e = .returned (v0_) ∧ Kd.R k62 62 w' w.heap.size (fun _=>True) v0_ r ∧ Below w.heap.size w w':=by
 have hq : ∀ (w : World) (a : Option Addr) (n c n' c' : Nat),(binOp .eql 24 (.slice a n c) (.slice none n' c')).run Tryz.prog w = .ok (.bool a.isNone) w:=fun w a n c n' c'=>Lib.run_eql_slice_nil w _ _ a n c n' c' Tryz.underlying24
 unfold slices_Clone_Entry.f at h;by_cases hlt : l0.length < 4398046511104
 case neg=>rw [if_neg hlt] at h;cases h
 rw [if_pos hlt] at h;obtain rfl:=zH h;clear h;have HL:=zA hlt;have HR:=zA hr0;clear hlt hr0 hc0;rcases A0 with _ | ad
 ·have h0 : l0 = []:=by
   rcases Nat.eq_zero_or_pos l0.length with h0 | h0
   ·exact List.eq_nil_of_length_eq_zero h0
   ·obtain ⟨ad,he,_⟩:=HR.out.2.2 h0;cases he
  have H0:=zA h0;clear h0;go_enter Tryz.func102,Tryz.ntmps102;go_wp2;go_ret;exact ⟨_,rfl,by rw [H0.out];exact Kd.R_nil _ _ _ _ _,zS _ _⟩
 ·go_enter Tryz.func102,Tryz.ntmps102;go_wp2_with (at_builtin;(refine Kd.R_append_rows k62 (w0:=w) (Rr:=k62.K (w.alloc (.cells #[] 62))) w.heap.size rfl _ _ 24 62 _ 32 rfl Tryz.underlying24 info62 rfl (by decide) (by decide) (.slice (some ⟨w.heap.size,0,none⟩) 0 0) [] l0 (some ad) l0.length c0 (fun _=>True) (fun k_=>False) rfl rfl ?c1 ?c2 ?c3 (fun _ h=>h.elim) (fun _ _=>trivial) ?c4 ?c5 ?c6 ?_))
  case c1=>exact ⟨fun _ _=>trivial,OwnRow.lit w w.heap.size (Reps.none _ _) (zM _) (by simp)⟩
  case c2=>exact Kd.C_alloc HR.out _
  case c3 =>
   intro x cs h;obtain rfl:=k62_open h;exact k62_mkM _ _ _ x
  case c4=>exact (zS _ _).alloc (zM _) _
  case c5=>simp
  case c6=>have:=HL.out;simp;omega
  intro v1 w1 hr1 hb1 _ _;go_wp2;go_ret;exact ⟨_,rfl,hr1,hb1⟩
end Go.Proofs.YtiminjibcafkaaaGreatDoor.X
end
