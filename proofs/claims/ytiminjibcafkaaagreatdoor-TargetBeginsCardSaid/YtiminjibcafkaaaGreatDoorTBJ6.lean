/- Texts that this claim's law comes to, joined by wip/slim.py: XhslicesIndexFuncRun, XhslicesContainsFuncRun, XhslicesIndexFuncEntry, XhslicesContainsFuncEntry, Xhreplicatwin, XhitemFind, XhslicesBinarySearchFuncEntryuint8. -/
import Derived.Test.YtiminjibcafkaaaGreatDoorTBJ4
import Derived.Test.YtiminjibcafkaaaGreatDoorTBJ5
import Derived.Shelf.Abstract
section
-- MADE BY wip/prx.py (the kit's printer, with contracts proved by hand). Not trusted: Lean checks it.
namespace Go.Proofs.YtiminjibcafkaaaGreatDoor.X
open Go.RowKit Go.Proofs.YtiminjibcafkaaaGreatDoorW.PrintWords Go.Proofs.YtiminjibcafkaaaGreatDoorW.PrintLast Go.Proofs.YtiminjibcafkaaaGreatDoorW.PrintMore
attribute [local go_sem] max2_int min2_int max_two min_two max_three min_three max_four min_four   -- for this text's walks alone
set_option linter.unusedVariables false
set_option linter.unusedSimpArgs false
--EXT Derived.Shelf.Abstract
/-! ### slices_IndexFunc_Run: function 87, by hand -/
set_option maxHeartbeats 4000000 in
/-- slices.IndexFunc at api.Run, whatever function value that leaves what was. -/
theorem slices_IndexFunc_Run.calls (p : S67 → Bool) (g : Nat) (lb : Array Value) (eg : ∀ args w,(callFunc g args).run Tryz.prog w = .ok (.enter g args) w) (A0 : Option Addr) (c0 : Nat) (l0 : List (S67)) (w : World) (hr0 : Kd.C k67 w A0 l0.length l0)
 (hp : ∀ (W : World) (x : S67),Below w.heap.size w W → Calls Tryz.prog g (#[.agg #[.int .u8 x.f0,.int .u32 x.f1,.int .u32 x.f2]] ++ lb) W fun e w'=>e = .returned (.bool (p x)) ∧ Below W.heap.size W w') :
 Calls Tryz.prog 87 #[.slice A0 l0.length c0,.func (.func g) #[] lb] w fun e w'=>e = .returned (.int .i64 (idxL p l0 0)) ∧ Below w.heap.size w w':=by
 have hu:=Tryz.underlying67
 have HR:=Aside0.mk hr0
 have HP:=Aside0.mk hp
 have HM : l0.length ≤ 9223372036854775807:=hr0.2.1
 clear hr0 hp
 go_enter Tryz.func87,Tryz.ntmps87
 go_wp2
 go_loopg [5,8] l0.length (fun gg _ s8 wr=>∃ kk : Nat,kk ≤ l0.length ∧ l0.length - kk ≤ gg ∧ s8 = .int .i64 kk ∧ Aside0 (Below w.heap.size w wr) ∧ Aside0 (∀ j,j < kk → p (l0.getD j z67) = false))
 case atStart=>exact ⟨0,Nat.zero_le _,by omega,rfl,⟨Below.refl _ w⟩,⟨fun j hj=>absurd hj (Nat.not_lt_zero _)⟩⟩
 case round =>
  obtain ⟨kk,hkk,hg,rfl,BW,AF⟩:=hrel
  by_cases hlt : kk < l0.length
  ·have hltz : (kk : Int) < (l0.length : Int):=by omega
   obtain ⟨ad,rfl,h0,h1,h2⟩:=at_T67 (Kd.C_below HR.out BW.out) (kk : Int) (by omega) hltz
   have hcall:=HP.out wr (rd_T67 l0 kk) BW.out
   have E0 : rd_T67 l0 (kk : Int) = l0.getD kk z67:=rfl
   have E:=Aside0.mk E0
   clear E0
   simp only [Int.toNat_natCast] at h0 h1 h2
   generalize rd_T67 l0 (kk : Int) = y at h0 h1 h2 hcall E
   cases hq : p y with
   | true =>
    rw [hq] at hcall
    have Q:=Aside0.mk hq
    clear hq
    go_wp2_with (go_at_fn g;refine hcall.mono ?_;rintro e w' ⟨rfl,hb'⟩)
    go_ret
    refine ⟨?_,BW.out.trans (hb'.mono BW.out.size)⟩
    rw [idxL_hit p z67 l0 0 kk hlt AF.out (by rw [← E.out];exact Q.out),Nat.zero_add]
    (try rfl)
   | false =>
    rw [hq] at hcall
    have Q:=Aside0.mk hq
    clear hq
    go_wp2_with (go_at_fn g;refine hcall.mono ?_;rintro e w' ⟨rfl,hb'⟩)
    go_roundg (l0.length - (kk + 1))
    case measure=>omega
    case rel =>
     refine ⟨kk + 1,by omega,by omega,by go_num,⟨BW.out.trans (hb'.mono BW.out.size)⟩,⟨fun j hj=>?_⟩⟩
     by_cases e : j = kk
     ·subst e
      rw [← E.out];exact Q.out
     ·exact AF.out j (by omega)
  ·have hltz : ¬ (kk : Int) < (l0.length : Int):=by omega
   have hk : kk = l0.length:=by omega
   subst hk
   go_wp2
   go_ret
   refine ⟨?_,BW.out⟩
   rw [idxL_miss p z67 l0 0 AF.out]
   (try rfl)
end Go.Proofs.YtiminjibcafkaaaGreatDoor.X
end
section
-- MADE BY wip/prx.py (the kit's printer, with contracts proved by hand). Not trusted: Lean checks it.
namespace Go.Proofs.YtiminjibcafkaaaGreatDoor.X
open Go.RowKit Go.Proofs.YtiminjibcafkaaaGreatDoorW.PrintWords Go.Proofs.YtiminjibcafkaaaGreatDoorW.PrintLast Go.Proofs.YtiminjibcafkaaaGreatDoorW.PrintMore
attribute [local go_sem] max2_int min2_int max_two min_two max_three min_three max_four min_four   -- for this text's walks alone
set_option linter.unusedVariables false
set_option linter.unusedSimpArgs false
--EXT 
/-! ### slices_ContainsFunc_Run: function 54, by hand -/
/-- slices.ContainsFunc at api.Run. -/
theorem slices_ContainsFunc_Run.calls (p : S67 → Bool) (g : Nat) (lb : Array Value) (eg : ∀ args w,(callFunc g args).run Tryz.prog w = .ok (.enter g args) w) (A0 : Option Addr) (c0 : Nat) (l0 : List (S67)) (w : World) (hr0 : Kd.C k67 w A0 l0.length l0)
 (hp : ∀ (W : World) (x : S67),Below w.heap.size w W → Calls Tryz.prog g (#[.agg #[.int .u8 x.f0,.int .u32 x.f1,.int .u32 x.f2]] ++ lb) W fun e w'=>e = .returned (.bool (p x)) ∧ Below W.heap.size W w') :
 Calls Tryz.prog 54 #[.slice A0 l0.length c0,.func (.func g) #[] lb] w fun e w'=>e = .returned (.bool (l0.any p)) ∧ Below w.heap.size w w':=by
 have hcon:=slices_IndexFunc_Run.calls p g lb eg A0 c0 l0 w hr0 hp
 rw [← idxL_any p l0 0]
 generalize idxL p l0 0 = r at hcon ⊢
 clear hp hr0 eg
 go_enter Tryz.func54,Tryz.ntmps54
 go_wp2_with (go_at_call 87;refine hcon.mono ?_;rintro e w' ⟨rfl,hb'⟩)
 go_ret
 exact ⟨rfl,hb'⟩
end Go.Proofs.YtiminjibcafkaaaGreatDoor.X
end
section
-- MADE BY wip/prx.py (the kit's printer, with contracts proved by hand). Not trusted: Lean checks it.
namespace Go.Proofs.YtiminjibcafkaaaGreatDoor.X
open Go.RowKit Go.Proofs.YtiminjibcafkaaaGreatDoorW.PrintWords Go.Proofs.YtiminjibcafkaaaGreatDoorW.PrintLast Go.Proofs.YtiminjibcafkaaaGreatDoorW.PrintMore
attribute [local go_sem] max2_int min2_int max_two min_two max_three min_three max_four min_four   -- for this text's walks alone
set_option linter.unusedVariables false
set_option linter.unusedSimpArgs false
--EXT Derived.Shelf.Abstract
/-! ### slices_IndexFunc_Entry: function 96, by hand -/
set_option maxHeartbeats 4000000 in
/-- slices.IndexFunc at api.Entry, whatever function value that leaves what was. -/
theorem slices_IndexFunc_Entry.calls (p : S62 → Bool) (g : Nat) (lb : Array Value) (eg : ∀ args w,(callFunc g args).run Tryz.prog w = .ok (.enter g args) w) (A0 : Option Addr) (c0 : Nat) (l0 : List (S62)) (w : World) (hr0 : Kd.C k62 w A0 l0.length l0)
 (hp : ∀ (W : World) (x : S62),Below w.heap.size w W → Calls Tryz.prog g (#[.agg #[.int .u8 x.f0,.int .u8 x.f1.f0,.int .u32 x.f1.f1,.int .u32 x.f1.f2,.int .i64 x.f2,.int .u8 x.f3,.int .u32 x.f4]] ++ lb) W fun e w'=>e = .returned (.bool (p x)) ∧ Below W.heap.size W w') :
 Calls Tryz.prog 96 #[.slice A0 l0.length c0,.func (.func g) #[] lb] w fun e w'=>e = .returned (.int .i64 (idxL p l0 0)) ∧ Below w.heap.size w w':=by
 have hu:=Tryz.underlying62
 have HR:=Aside0.mk hr0
 have HP:=Aside0.mk hp
 have HM : l0.length ≤ 9223372036854775807:=hr0.2.1
 clear hr0 hp
 go_enter Tryz.func96,Tryz.ntmps96
 go_wp2
 go_loopg [5,8] l0.length (fun gg _ s8 wr=>∃ kk : Nat,kk ≤ l0.length ∧ l0.length - kk ≤ gg ∧ s8 = .int .i64 kk ∧ Aside0 (Below w.heap.size w wr) ∧ Aside0 (∀ j,j < kk → p (l0.getD j z62) = false))
 case atStart=>exact ⟨0,Nat.zero_le _,by omega,rfl,⟨Below.refl _ w⟩,⟨fun j hj=>absurd hj (Nat.not_lt_zero _)⟩⟩
 case round =>
  obtain ⟨kk,hkk,hg,rfl,BW,AF⟩:=hrel
  by_cases hlt : kk < l0.length
  ·have hltz : (kk : Int) < (l0.length : Int):=by omega
   obtain ⟨ad,rfl,h0,h1,h2,h3,h4,h5,h6⟩:=at_T62 (Kd.C_below HR.out BW.out) (kk : Int) (by omega) hltz
   have hcall:=HP.out wr (rd_T62 l0 kk) BW.out
   have E0 : rd_T62 l0 (kk : Int) = l0.getD kk z62:=rfl
   have E:=Aside0.mk E0
   clear E0
   simp only [Int.toNat_natCast] at h0 h1 h2 h3 h4 h5 h6
   generalize rd_T62 l0 (kk : Int) = y at h0 h1 h2 h3 h4 h5 h6 hcall E
   cases hq : p y with
   | true =>
    rw [hq] at hcall
    have Q:=Aside0.mk hq
    clear hq
    go_wp2_with (go_at_fn g;refine hcall.mono ?_;rintro e w' ⟨rfl,hb'⟩)
    go_ret
    refine ⟨?_,BW.out.trans (hb'.mono BW.out.size)⟩
    rw [idxL_hit p z62 l0 0 kk hlt AF.out (by rw [← E.out];exact Q.out),Nat.zero_add]
    (try rfl)
   | false =>
    rw [hq] at hcall
    have Q:=Aside0.mk hq
    clear hq
    go_wp2_with (go_at_fn g;refine hcall.mono ?_;rintro e w' ⟨rfl,hb'⟩)
    go_roundg (l0.length - (kk + 1))
    case measure=>omega
    case rel =>
     refine ⟨kk + 1,by omega,by omega,by go_num,⟨BW.out.trans (hb'.mono BW.out.size)⟩,⟨fun j hj=>?_⟩⟩
     by_cases e : j = kk
     ·subst e
      rw [← E.out];exact Q.out
     ·exact AF.out j (by omega)
  ·have hltz : ¬ (kk : Int) < (l0.length : Int):=by omega
   have hk : kk = l0.length:=by omega
   subst hk
   go_wp2
   go_ret
   refine ⟨?_,BW.out⟩
   rw [idxL_miss p z62 l0 0 AF.out]
   (try rfl)
end Go.Proofs.YtiminjibcafkaaaGreatDoor.X
end
section
-- MADE BY wip/prx.py (the kit's printer, with contracts proved by hand). Not trusted: Lean checks it.
namespace Go.Proofs.YtiminjibcafkaaaGreatDoor.X
open Go.RowKit Go.Proofs.YtiminjibcafkaaaGreatDoorW.PrintWords Go.Proofs.YtiminjibcafkaaaGreatDoorW.PrintLast Go.Proofs.YtiminjibcafkaaaGreatDoorW.PrintMore
attribute [local go_sem] max2_int min2_int max_two min_two max_three min_three max_four min_four   -- for this text's walks alone
set_option linter.unusedVariables false
set_option linter.unusedSimpArgs false
--EXT 
/-! ### slices_ContainsFunc_Entry: function 71, by hand -/
/-- slices.ContainsFunc at api.Entry. -/
theorem slices_ContainsFunc_Entry.calls (p : S62 → Bool) (g : Nat) (lb : Array Value) (eg : ∀ args w,(callFunc g args).run Tryz.prog w = .ok (.enter g args) w) (A0 : Option Addr) (c0 : Nat) (l0 : List (S62)) (w : World) (hr0 : Kd.C k62 w A0 l0.length l0)
 (hp : ∀ (W : World) (x : S62),Below w.heap.size w W → Calls Tryz.prog g (#[.agg #[.int .u8 x.f0,.int .u8 x.f1.f0,.int .u32 x.f1.f1,.int .u32 x.f1.f2,.int .i64 x.f2,.int .u8 x.f3,.int .u32 x.f4]] ++ lb) W fun e w'=>e = .returned (.bool (p x)) ∧ Below W.heap.size W w') :
 Calls Tryz.prog 71 #[.slice A0 l0.length c0,.func (.func g) #[] lb] w fun e w'=>e = .returned (.bool (l0.any p)) ∧ Below w.heap.size w w':=by
 have hcon:=slices_IndexFunc_Entry.calls p g lb eg A0 c0 l0 w hr0 hp
 rw [← idxL_any p l0 0]
 generalize idxL p l0 0 = r at hcon ⊢
 clear hp hr0 eg
 go_enter Tryz.func71,Tryz.ntmps71
 go_wp2_with (go_at_call 96;refine hcon.mono ?_;rintro e w' ⟨rfl,hb'⟩)
 go_ret
 exact ⟨rfl,hb'⟩
end Go.Proofs.YtiminjibcafkaaaGreatDoor.X
end
section
-- MADE BY wip/prx.py (the kit's printer, with contracts proved by hand). Not trusted: Lean checks it.
namespace Go.Proofs.YtiminjibcafkaaaGreatDoor.X
open Go.RowKit Go.Proofs.YtiminjibcafkaaaGreatDoorW.PrintWords Go.Proofs.YtiminjibcafkaaaGreatDoorW.PrintLast Go.Proofs.YtiminjibcafkaaaGreatDoorW.PrintMore
attribute [local go_sem] max2_int min2_int max_two min_two max_three min_three max_four min_four   -- for this text's walks alone
set_option linter.unusedVariables false
set_option linter.unusedSimpArgs false
--EXT 
/-! ### replica_twin: function 58, by hand -/
/-- Is it of the number, of the replica? -/
def isTwin (g0 g1 : Int) (x : S62) : Bool:=decide (x.f1.f0 = g0) && decide (x.f1.f1 = g1)
/-- replica.twin. -/
def replica_twin.f (l0 : List (S62)) (a1_0 a1_1 a1_2 a1_3 a1_4 a1_5 a1_6 : Int) : Option Bool:=some (l0.any (isTwin a1_1 a1_2))
theorem replica_twin.pred (v0 v1 v2 v3 v4 v5 v6 : Int) (B1 : Nat) (w : World) (hB1 : B1 < w.heap.size) (h1 : w.heap[B1]? = some (.cells #[.int .u8 v0,.int .u8 v1,.int .u32 v2,.int .u32 v3,.int .i64 v4,.int .u8 v5,.int .u32 v6] 62 (0,0))) :
 ∀ (W : World) (x : S62),Below w.heap.size w W → Calls Tryz.prog 90 (#[.agg #[.int .u8 x.f0,.int .u8 x.f1.f0,.int .u32 x.f1.f1,.int .u32 x.f1.f2,.int .i64 x.f2,.int .u8 x.f3,.int .u32 x.f4]] ++ #[.pointer (some ⟨B1,0,none⟩)]) W fun e w'=>e = .returned (.bool (isTwin v1 v2 x)) ∧ Below W.heap.size W w':=fun W x hb=>by
 obtain ⟨q0,q1,q2,q3,q4,q5,q6⟩:=cells7 (blk_below h1 hb)
 have n1 : B1 < W.heap.size:=Nat.lt_of_lt_of_le hB1 hb.size
 have e1 : B1 ≠ W.heap.size:=by omega
 clear hb h1 hB1
 obtain ⟨f0,⟨g0,g1,g2⟩,f2,f3,f4⟩:=x
 show Calls Tryz.prog 90 #[.agg #[.int .u8 f0,.int .u8 g0,.int .u32 g1,.int .u32 g2,.int .i64 f2,.int .u8 f3,.int .u32 f4],.pointer (some ⟨B1,0,none⟩)] W _
 have hu:=Tryz.underlying62
 unfold isTwin
 dsimp only
 by_cases p1 : g0 = v1
 ·subst p1
  by_cases p2 : g1 = v2
  ·subst p2
   go_enter Tryz.func90,Tryz.ntmps90
   go_wp2
   go_ret
   exact ⟨by simp,(Below.refl _ _).alloc (Nat.le_refl _) _⟩
  ·go_enter Tryz.func90,Tryz.ntmps90
   go_wp2
   go_ret
   exact ⟨by simp [p2],(Below.refl _ _).alloc (Nat.le_refl _) _⟩
 ·go_enter Tryz.func90,Tryz.ntmps90
  go_wp2
  go_ret
  exact ⟨by simp [p1],(Below.refl _ _).alloc (Nat.le_refl _) _⟩
set_option maxHeartbeats 8000000 in
set_option maxRecDepth 100000 in
theorem replica_twin.calls (A0 : Option Addr) (c0 : Nat) (l0 : List (S62)) (a1_0 : Int) (a1_1 : Int) (a1_2 : Int) (a1_3 : Int) (a1_4 : Int) (a1_5 : Int) (a1_6 : Int) (r : Bool) (w : World) (hr0 : Kd.C k62 w A0 l0.length l0) (hc0 : l0.length ≤ c0) (h : replica_twin.f l0 a1_0 a1_1 a1_2 a1_3 a1_4 a1_5 a1_6 = some r) :
 Calls Tryz.prog 58 #[.slice A0 l0.length c0,.agg #[.int .u8 a1_0,.int .u8 a1_1,.int .u32 a1_2,.int .u32 a1_3,.int .i64 a1_4,.int .u8 a1_5,.int .u32 a1_6]] w fun e w'=>e = .returned (.bool r) ∧ Below w.heap.size w w':=by
 have eg : ∀ args w,(callFunc 90 args).run Tryz.prog w = .ok (.enter 90 args) w:=enters_of Tryz.func90 (by kernel_rfl) rfl
 have hmf : ∀ (fn : Fn) (first cap : Array Value) (w : World),(Instr.makeFunc fn first cap).run Tryz.prog w = .ok (.func fn first cap) w:=fun _ _ _ _=>rfl
 unfold replica_twin.f at h
 obtain rfl:=Option.some.inj h
 clear h
 have HR:=Aside0.mk hr0
 have HC:=Aside0.mk hc0
 clear hr0 hc0
 have EG:=Aside0.mk eg
 clear eg
 go_enter Tryz.func58,Tryz.ntmps58
 go_wp2_with fail
 refine (slices_ContainsFunc_Entry.calls (isTwin a1_1 a1_2) 90 #[.pointer (some ⟨w.heap.size,0,none⟩)] EG.out A0 c0 l0 _ (Kd.C_alloc HR.out _) (replica_twin.pred a1_0 a1_1 a1_2 a1_3 a1_4 a1_5 a1_6 w.heap.size _ (by simp) (blk_new w _))).mono ?_
 rintro e w2 ⟨rfl,hb2⟩
 go_wp2
 go_ret
 exact ⟨rfl,((Below.refl _ w).alloc (Nat.le_refl _) _).trans (hb2.mono (by simp))⟩
end Go.Proofs.YtiminjibcafkaaaGreatDoor.X
end
section
-- MADE BY wip/prx.py (the kit's printer, with contracts proved by hand). Not trusted: Lean checks it.
namespace Go.Proofs.YtiminjibcafkaaaGreatDoor.X
open Go.RowKit Go.Proofs.YtiminjibcafkaaaGreatDoorW.PrintWords Go.Proofs.YtiminjibcafkaaaGreatDoorW.PrintLast Go.Proofs.YtiminjibcafkaaaGreatDoorW.PrintMore
attribute [local go_sem] max2_int min2_int max_two min_two max_three min_three max_four min_four   -- for this text's walks alone
set_option linter.unusedVariables false
set_option linter.unusedSimpArgs false
--EXT 
/-! ### item_Find: function 70, by hand -/
def isID (a1 : Int) (x : S62) : Bool:=decide (x.f0 = a1)
/-- item.Find. -/
def item_Find.f (l0 : List (S62)) (a1 : Int) : Option (Int × Int × Int × Int × Int × Int × Int × Bool) :=
 match l0.find? (isID a1) with
 | some x=>some (x.f0,x.f1.f0,x.f1.f1,x.f1.f2,x.f2,x.f3,x.f4,true)
 | none=>some (0,0,0,0,0,0,0,false)
theorem item_Find.pred (a1 : Int) (B1 : Nat) (w : World) (hB1 : B1 < w.heap.size) (h1 : w.cell? ⟨B1,0,none⟩ = some (.int .u8 a1)) :
 ∀ (W : World) (x : S62),Below w.heap.size w W → Calls Tryz.prog 97 (#[.agg #[.int .u8 x.f0,.int .u8 x.f1.f0,.int .u32 x.f1.f1,.int .u32 x.f1.f2,.int .i64 x.f2,.int .u8 x.f3,.int .u32 x.f4]] ++ #[.pointer (some ⟨B1,0,none⟩)]) W fun e w'=>e = .returned (.bool (isID a1 x)) ∧ Below W.heap.size W w':=fun W x hb=>by
 have c1 : W.cell? ⟨B1,0,none⟩ = some (.int .u8 a1):=(hb.cell (p:=⟨B1,0,none⟩) hB1).trans h1
 have n1 : B1 < W.heap.size:=Nat.lt_of_lt_of_le hB1 hb.size
 have e1 : B1 ≠ W.heap.size:=by omega
 clear hb h1 hB1
 obtain ⟨f0,⟨g0,g1,g2⟩,f2,f3,f4⟩:=x
 show Calls Tryz.prog 97 #[.agg #[.int .u8 f0,.int .u8 g0,.int .u32 g1,.int .u32 g2,.int .i64 f2,.int .u8 f3,.int .u32 f4],.pointer (some ⟨B1,0,none⟩)] W _
 have hu:=Tryz.underlying62
 unfold isID
 dsimp only
 by_cases p1 : f0 = a1
 ·subst p1
  go_enter Tryz.func97,Tryz.ntmps97
  go_wp2
  go_ret
  exact ⟨by simp,(Below.refl _ _).alloc (Nat.le_refl _) _⟩
 ·go_enter Tryz.func97,Tryz.ntmps97
  go_wp2
  go_ret
  exact ⟨by simp [p1],(Below.refl _ _).alloc (Nat.le_refl _) _⟩
set_option maxHeartbeats 8000000 in
set_option maxRecDepth 100000 in
theorem item_Find.calls (A0 : Option Addr) (c0 : Nat) (l0 : List (S62)) (a1 : Int) (r1 : Int) (r2 : Int) (r3 : Int) (r4 : Int) (r5 : Int) (r6 : Int) (r7 : Int) (r8 : Bool) (w : World) (hr0 : Kd.C k62 w A0 l0.length l0) (hc0 : l0.length ≤ c0) (h : item_Find.f l0 a1 = some (r1,r2,r3,r4,r5,r6,r7,r8)) :
 Calls Tryz.prog 70 #[.slice A0 l0.length c0,.int .u8 a1] w fun e w'=>e = .returned (.tuple #[.agg #[.int .u8 r1,.int .u8 r2,.int .u32 r3,.int .u32 r4,.int .i64 r5,.int .u8 r6,.int .u32 r7],.bool r8]) ∧ Below w.heap.size w w':=by
 have eg : ∀ args w,(callFunc 97 args).run Tryz.prog w = .ok (.enter 97 args) w:=enters_of Tryz.func97 (by kernel_rfl) rfl
 have hmf : ∀ (fn : Fn) (first cap : Array Value) (w : World),(Instr.makeFunc fn first cap).run Tryz.prog w = .ok (.func fn first cap) w:=fun _ _ _ _=>rfl
 have hu:=Tryz.underlying62
 have HR:=Aside0.mk hr0
 have HC:=Aside0.mk hc0
 clear hr0 hc0
 have EG:=Aside0.mk eg
 clear eg
 unfold item_Find.f at h
 have HM : l0.length ≤ 9223372036854775807:=HR.out.2.1
 rcases idxL_find (isID a1) z62 l0 0 with ⟨k,ei,hk,hf⟩ | ⟨ei,hf⟩
 ·rw [hf] at h
  simp only [Option.some.injEq,Prod.mk.injEq] at h
  obtain ⟨rfl,rfl,rfl,rfl,rfl,rfl,rfl,rfl⟩:=h
  have EI:=Aside0.mk ei
  have E0 : rd_T62 l0 (k : Int) = l0.getD k z62:=rfl
  rw [← E0]
  clear ei hf E0
  generalize hy : rd_T62 l0 (k : Int) = y
  have HY:=Aside0.mk hy
  clear hy
  have hltz : (k : Int) < (l0.length : Int):=by omega
  go_enter Tryz.func70,Tryz.ntmps70
  go_wp2_with fail
  refine (slices_IndexFunc_Entry.calls (isID a1) 97 #[.pointer (some ⟨w.heap.size,0,none⟩)] EG.out A0 c0 l0 _ (Kd.C_alloc (Kd.C_alloc HR.out _) _) (item_Find.pred a1 w.heap.size _ (by simp;omega) (by simp))).mono ?_
  rw [EI.out,Nat.zero_add]
  rintro e w1 ⟨rfl,hb1⟩
  have HB:=Aside0.mk hb1
  have hblk:=blk_below (g:=w.heap.size + 1) (by simpa using blk_new (w.alloc (.cells #[.int .u8 a1] 5)) (.cells #[.int .u8 0,.int .u8 0,.int .u32 0,.int .u32 0,.int .i64 0,.int .u8 0,.int .u32 0] 62)) hb1
  have HK:=Aside0.mk hblk
  clear hblk hb1
  obtain ⟨ad,rfl,h0,h1,h2,h3,h4,h5,h6⟩:=at_T62 (Kd.C_below (Kd.C_alloc (Kd.C_alloc HR.out _) _) HB.out) (k : Int) (by omega) hltz
  simp only [Int.toNat_natCast] at h0 h1 h2 h3 h4 h5 h6
  have q0:=(blk_cell HK.out 0).trans (show _ = some (.int .u8 0) from rfl)
  have q1:=(blk_cell HK.out 1).trans (show _ = some (.int .u8 0) from rfl)
  have q2:=(blk_cell HK.out 2).trans (show _ = some (.int .u32 0) from rfl)
  have q3:=(blk_cell HK.out 3).trans (show _ = some (.int .u32 0) from rfl)
  have q4:=(blk_cell HK.out 4).trans (show _ = some (.int .i64 0) from rfl)
  have q5:=(blk_cell HK.out 5).trans (show _ = some (.int .u8 0) from rfl)
  have q6:=(blk_cell HK.out 6).trans (show _ = some (.int .u32 0) from rfl)
  have z0:=blk_frozen HK.out 0
  have z1:=blk_frozen HK.out 1
  have z2:=blk_frozen HK.out 2
  have z3:=blk_frozen HK.out 3
  have z4:=blk_frozen HK.out 4
  have z5:=blk_frozen HK.out 5
  have z6:=blk_frozen HK.out 6
  rw [HY.out] at h0 h1 h2 h3 h4 h5 h6
  go_wp2
  refine bodyPost_ret (results_ct rfl _ _ (w.heap.size + 1) 62 #[.int .u8 y.f0,.int .u8 y.f1.f0,.int .u32 y.f1.f1,.int .u32 y.f1.f2,.int .i64 y.f2,.int .u8 y.f3,.int .u32 y.f4] (0,0) _ rfl (blk_put7 HK.out _ _ _ _ _ _ _) Tryz.underlying62 rfl (by kernel_rfl)) rfl ?_
  refine ⟨rfl,below_put7 ?_ (by omega) _ _ _ _ _ _ _⟩
  exact (((Below.refl _ w).alloc (Nat.le_refl _) _).alloc (by simp) _).trans (HB.out.mono (by simp;omega))
 ·rw [hf] at h
  simp only [Option.some.injEq,Prod.mk.injEq] at h
  obtain ⟨rfl,rfl,rfl,rfl,rfl,rfl,rfl,rfl⟩:=h
  have EI:=Aside0.mk ei
  clear ei hf
  go_enter Tryz.func70,Tryz.ntmps70
  go_wp2_with fail
  refine (slices_IndexFunc_Entry.calls (isID a1) 97 #[.pointer (some ⟨w.heap.size,0,none⟩)] EG.out A0 c0 l0 _ (Kd.C_alloc (Kd.C_alloc HR.out _) _) (item_Find.pred a1 w.heap.size _ (by simp;omega) (by simp))).mono ?_
  rw [EI.out]
  rintro e w1 ⟨rfl,hb1⟩
  have HB:=Aside0.mk hb1
  have hblk:=blk_below (g:=w.heap.size + 1) (by simpa using blk_new (w.alloc (.cells #[.int .u8 a1] 5)) (.cells #[.int .u8 0,.int .u8 0,.int .u32 0,.int .u32 0,.int .i64 0,.int .u8 0,.int .u32 0] 62)) hb1
  have HK:=Aside0.mk hblk
  clear hblk hb1
  have q0:=(blk_cell HK.out 0).trans (show _ = some (.int .u8 0) from rfl)
  have q1:=(blk_cell HK.out 1).trans (show _ = some (.int .u8 0) from rfl)
  have q2:=(blk_cell HK.out 2).trans (show _ = some (.int .u32 0) from rfl)
  have q3:=(blk_cell HK.out 3).trans (show _ = some (.int .u32 0) from rfl)
  have q4:=(blk_cell HK.out 4).trans (show _ = some (.int .i64 0) from rfl)
  have q5:=(blk_cell HK.out 5).trans (show _ = some (.int .u8 0) from rfl)
  have q6:=(blk_cell HK.out 6).trans (show _ = some (.int .u32 0) from rfl)
  have z0:=blk_frozen HK.out 0
  have z1:=blk_frozen HK.out 1
  have z2:=blk_frozen HK.out 2
  have z3:=blk_frozen HK.out 3
  have z4:=blk_frozen HK.out 4
  have z5:=blk_frozen HK.out 5
  have z6:=blk_frozen HK.out 6
  go_wp2
  refine bodyPost_ret (results_ct rfl _ _ (w.heap.size + 1) 62 #[.int .u8 0,.int .u8 0,.int .u32 0,.int .u32 0,.int .i64 0,.int .u8 0,.int .u32 0] (0,0) _ rfl (blk_put7 HK.out _ _ _ _ _ _ _) Tryz.underlying62 rfl (by kernel_rfl)) rfl ?_
  refine ⟨rfl,below_put7 ?_ (by omega) _ _ _ _ _ _ _⟩
  exact (((Below.refl _ w).alloc (Nat.le_refl _) _).alloc (by simp) _).trans (HB.out.mono (by simp;omega))
end Go.Proofs.YtiminjibcafkaaaGreatDoor.X
end
section
-- MADE BY wip/prx.py (the kit's printer, with contracts proved by hand). Not trusted: Lean checks it.
namespace Go.Proofs.YtiminjibcafkaaaGreatDoor.X
open Go.RowKit Go.Proofs.YtiminjibcafkaaaGreatDoorW.PrintWords Go.Proofs.YtiminjibcafkaaaGreatDoorW.PrintLast Go.Proofs.YtiminjibcafkaaaGreatDoorW.PrintMore
attribute [local go_sem] max2_int min2_int max_two min_two max_three min_three max_four min_four   -- for this text's walks alone
set_option linter.unusedVariables false
set_option linter.unusedSimpArgs false
--EXT Derived.Shelf.Abstract
/-! ### slices_BinarySearchFunc_Entry_uint8: function 98, by hand -/
/-- cmp.Compare of two numbers. -/
def cmpI (a b : Int) : Int:=if a < b then -1 else if a > b then 1 else 0
theorem cmp_Compare_uint8.is (a b : Int) : cmp_Compare_uint8.f a b = some (cmpI a b):=by
 simp only [cmp_Compare_uint8.f,cmp_isNaN_uint8.f,cmpI,bne_self_eq_false,Option.bind_some,Bool.false_eq_true,if_false]
 by_cases h1 : a < b
 ·simp [h1]
 ·by_cases h2 : a > b<;>simp [h1,h2]
/-- Do the entries rise by ID? -/
def incB : List S62 → Bool
 | []=>true
 | x :: l=>l.all (fun y=>decide (x.f0 < y.f0)) && incB l
theorem incB_get : ∀ (l : List S62),incB l = true → ∀ i j,i < j → j < l.length → (l.getD i z62).f0 < (l.getD j z62).f0:=by
 intro l
 induction l with
 | nil=>intro _ i j _ hj;simp at hj
 | cons x l ih =>
  intro h i j hij hj
  simp only [incB,Bool.and_eq_true,List.all_eq_true,decide_eq_true_eq] at h
  cases j with
  | zero=>omega
  | succ j =>
   have hj' : j < l.length:=by simpa using hj
   cases i with
   | zero =>
    have:=h.1 (l.getD j z62) (by rw [List.getD_eq_getElem?_getD,List.getElem?_eq_getElem hj'];exact List.getElem_mem hj')
    simpa using this
   | succ i=>simpa using ih h.2 i j (by omega) hj'
theorem countP_at {α : Type} (p : α → Bool) (z : α) : ∀ (l : List α) (i : Nat),i ≤ l.length → (∀ t,t < i → p (l.getD t z) = true) → (∀ t,i ≤ t → t < l.length → p (l.getD t z) = false) → l.countP p = i:=by
 intro l
 induction l with
 | nil=>intro i hi _ _;simp at hi;simp [hi]
 | cons x l ih =>
  intro i hi h1 h2
  cases i with
  | zero =>
   rw [List.countP_eq_zero]
   intro y hy
   obtain ⟨t,ht,rfl⟩:=List.getElem_of_mem hy
   have:=h2 t (Nat.zero_le _) ht
   rw [List.getD_eq_getElem?_getD,List.getElem?_eq_getElem ht] at this
   simpa using this
  | succ i =>
   have hx : p x = true:=by simpa using h1 0 (by omega)
   rw [List.countP_cons_of_pos hx,ih i (by simpa using hi) (fun t ht=>by simpa using h1 (t + 1) (by omega)) (fun t h3 h4=>by simpa using h2 (t + 1) (by omega) (by simpa using h4))]
/-- How many stand ahead of an ID. -/
def lowB (t : Int) (l : List S62) : Nat:=l.countP fun x=>decide (x.f0 < t)
/-- slices.BinarySearchFunc by ID: of entries that rise. -/
def slices_BinarySearchFunc_Entry_uint8.f (l0 : List (S62)) (a1 : Int) : Option (Int × Bool) :=
 if incB l0 = true then (if l0.length < 4611686018427387904 then some ((lowB a1 l0 : Int),decide (lowB a1 l0 < l0.length) && decide ((l0.getD (lowB a1 l0) z62).f0 = a1)) else none) else none
theorem item_Take_1.calls (x : S62) (t : Int) (W : World) :
 Calls Tryz.prog 99 #[.agg #[.int .u8 x.f0,.int .u8 x.f1.f0,.int .u32 x.f1.f1,.int .u32 x.f1.f2,.int .i64 x.f2,.int .u8 x.f3,.int .u32 x.f4],.int .u8 t] W fun e w'=>e = .returned (.int .i64 (cmpI x.f0 t)) ∧ Below W.heap.size W w':=by
 have hc:=fun W=>cmp_Compare_uint8.calls x.f0 t (cmpI x.f0 t) W (cmp_Compare_uint8.is x.f0 t)
 have hu:=Tryz.underlying62
 generalize cmpI x.f0 t = r at hc ⊢
 go_enter Tryz.func99,Tryz.ntmps99
 go_wp2_with (go_at_call 100;refine (hc _).mono ?_;rintro e w' ⟨rfl,⟨nd,rfl⟩⟩)
 go_ret
 exact ⟨rfl,pw_below_drewN ((Below.refl _ _).alloc (Nat.le_refl _) _) _⟩
set_option maxHeartbeats 8000000 in
set_option maxRecDepth 100000 in
theorem slices_BinarySearchFunc_Entry_uint8.calls (A0 : Option Addr) (c0 : Nat) (l0 : List (S62)) (a1 : Int) (r1 : Int) (r2 : Bool) (w : World) (hr0 : Kd.C k62 w A0 l0.length l0) (hc0 : l0.length ≤ c0) (h : slices_BinarySearchFunc_Entry_uint8.f l0 a1 = some (r1,r2)) :
 Calls Tryz.prog 98 #[.slice A0 l0.length c0,.int .u8 a1,.func (.func 99) #[] #[]] w fun e w'=>e = .returned (.tuple #[.int .i64 r1,.bool r2]) ∧ Below w.heap.size w w':=by
 have eg : ∀ args w,(callFunc 99 args).run Tryz.prog w = .ok (.enter 99 args) w:=enters_of Tryz.func99 (by kernel_rfl) rfl
 have hu:=Tryz.underlying62
 unfold slices_BinarySearchFunc_Entry_uint8.f at h
 by_cases hinc : incB l0 = true
 case neg=>rw [if_neg hinc] at h;cases h
 rw [if_pos hinc] at h
 by_cases hsz : l0.length < 4611686018427387904
 case neg=>rw [if_neg hsz] at h;cases h
 rw [if_pos hsz] at h
 simp only [Option.some.injEq,Prod.mk.injEq] at h
 obtain ⟨rfl,h2⟩:=h
 have M:=Aside0.mk (incB_get l0 hinc)
 have HR:=Aside0.mk hr0
 clear hr0 hc0 hinc
 generalize hcnt : lowB a1 l0 = cnt at h2 ⊢
 have CN:=Aside0.mk hcnt
 have FIN:=Aside0.mk h2
 clear hcnt h2
 go_enter Tryz.func98,Tryz.ntmps98
 go_wp2
 go_loopg [9,10] l0.length (fun kx s9 s10 wr=>∃ lo hi : Nat,s9 = .int .i64 lo ∧ s10 = .int .i64 hi ∧ lo ≤ hi ∧ hi ≤ l0.length ∧ hi - lo ≤ kx ∧ Aside0 (Below w.heap.size w wr) ∧
  Aside0 ((∀ t,t < lo → (l0.getD t z62).f0 < a1) ∧ (∀ t,hi ≤ t → t < l0.length → a1 ≤ (l0.getD t z62).f0)))
 case atStart=>exact ⟨0,l0.length,rfl,rfl,Nat.zero_le _,Nat.le_refl _,by omega,⟨Below.refl _ _⟩,⟨⟨fun t ht=>absurd ht (Nat.not_lt_zero _),fun t h1 h2=>by omega⟩⟩⟩
 case round =>
  obtain ⟨lo,hi,rfl,rfl,hlh,hin,hg,BW,I⟩:=hrel
  by_cases hlt : lo < hi
  ·have hltz : (((lo + hi) / 2 : Nat) : Int) < (l0.length : Int):=by omega
   obtain ⟨ad,rfl,h0,h1,h2,h3,h4,h5,h6⟩:=at_T62 (Kd.C_below HR.out BW.out) (((lo + hi) / 2 : Nat) : Int) (by omega) hltz
   have E0 : rd_T62 l0 (((lo + hi) / 2 : Nat) : Int) = l0.getD ((lo + hi) / 2) z62:=rfl
   have E:=Aside0.mk E0
   clear E0 hltz
   simp only [Int.toNat_natCast] at h0 h1 h2 h3 h4 h5 h6
   generalize rd_T62 l0 (((lo + hi) / 2 : Nat) : Int) = y at h0 h1 h2 h3 h4 h5 h6 E
   have hc:=item_Take_1.calls y a1
   by_cases hyx : y.f0 < a1
   ·rw [show cmpI y.f0 a1 = -1 by simp [cmpI,hyx]] at hc
    have Y:=Aside0.mk hyx
    clear hyx
    go_wp2_with (go_at_fn 99;refine (hc _).mono ?_;rintro e w' ⟨rfl,hb'⟩)
    go_roundg (hi - ((lo + hi) / 2 + 1))
    case measure=>omega
    case rel =>
     refine ⟨(lo + hi) / 2 + 1,hi,by rw [show ((lo : Int) + (hi : Int)) / 2 + 1 = (((lo + hi) / 2 + 1 : Nat) : Int) by omega],rfl,by omega,hin,Nat.le_refl _,⟨BW.out.trans (hb'.mono BW.out.size)⟩,⟨⟨fun t ht=>?_,I.out.2⟩⟩⟩
     rcases Nat.lt_or_ge t ((lo + hi) / 2) with hh | hh
     ·have:=M.out t ((lo + hi) / 2) hh (by omega)
      have:=Y.out
      rw [E.out] at this
      omega
     ·obtain rfl : t = (lo + hi) / 2:=by omega
      rw [← E.out];exact Y.out
   ·have hcv : cmpI y.f0 a1 = 0 ∨ cmpI y.f0 a1 = 1:=by simp only [cmpI,if_neg hyx];split<;>simp
    have Y:=Aside0.mk hyx
    clear hyx
    have hcn : ¬ cmpI y.f0 a1 < 0:=by omega
    generalize cmpI y.f0 a1 = cv at hc hcn
    clear hcv
    go_wp2_with (go_at_fn 99;refine (hc _).mono ?_;rintro e w' ⟨rfl,hb'⟩)
    go_roundg ((lo + hi) / 2 - lo)
    case measure=>omega
    case rel =>
     refine ⟨lo,(lo + hi) / 2,rfl,by rw [show ((lo : Int) + (hi : Int)) / 2 = (((lo + hi) / 2 : Nat) : Int) by omega],by omega,by omega,Nat.le_refl _,⟨BW.out.trans (hb'.mono BW.out.size)⟩,⟨⟨I.out.1,fun t h3 h4=>?_⟩⟩⟩
     rcases Nat.lt_or_ge ((lo + hi) / 2) t with hh | hh
     ·have:=M.out ((lo + hi) / 2) t hh h4
      have:=Y.out
      rw [E.out] at this
      omega
     ·obtain rfl : t = (lo + hi) / 2:=by omega
      rw [← E.out];have:=Y.out;omega
  ·obtain rfl : hi = lo:=by omega
   have ecnt : cnt = hi:=by
    rw [← CN.out]
    exact countP_at _ z62 l0 hi hin (fun t ht=>decide_eq_true (I.out.1 t ht)) (fun t h3 h4=>decide_eq_false (by have:=I.out.2 t h3 h4;omega))
   subst ecnt
   by_cases hn : cnt < l0.length
   ·have hltz : (cnt : Int) < (l0.length : Int):=by omega
    obtain ⟨ad,rfl,h0,h1,h2,h3,h4,h5,h6⟩:=at_T62 (Kd.C_below HR.out BW.out) (cnt : Int) (by omega) hltz
    have E0 : rd_T62 l0 (cnt : Int) = l0.getD cnt z62:=rfl
    have E:=Aside0.mk E0
    clear E0
    simp only [Int.toNat_natCast] at h0 h1 h2 h3 h4 h5 h6
    generalize rd_T62 l0 (cnt : Int) = y at h0 h1 h2 h3 h4 h5 h6 E
    have hc:=item_Take_1.calls y a1
    by_cases hyx : y.f0 = a1
    ·rw [show cmpI y.f0 a1 = 0 by simp [cmpI,hyx]] at hc
     have hr : r2 = true:=by rw [← FIN.out,← E.out];simp [hn,hyx]
     subst hr
     clear hyx FIN
     go_wp2_with (go_at_fn 99;refine (hc _).mono ?_;rintro e w' ⟨rfl,hb'⟩)
     go_ret2
     exact ⟨by simp,BW.out.trans (hb'.mono BW.out.size)⟩
    ·have hr : r2 = false:=by rw [← FIN.out,← E.out];simp [hyx]
     subst hr
     have hcn : (cmpI y.f0 a1 == 0) = false:=by
      simp only [cmpI]
      by_cases hq : y.f0 < a1
      ·simp [hq]
      ·have : y.f0 > a1:=by omega
       simp [hq,this]
     generalize cmpI y.f0 a1 = cv at hc hcn
     clear hyx FIN
     go_wp2_with (go_at_fn 99;refine (hc _).mono ?_;rintro e w' ⟨rfl,hb'⟩)
     go_ret2
     exact ⟨by simp,BW.out.trans (hb'.mono BW.out.size)⟩
   ·have hr : r2 = false:=by rw [← FIN.out];simp [hn]
    subst hr
    clear FIN
    go_wp2
    go_ret2
    exact ⟨by simp,BW.out⟩
end Go.Proofs.YtiminjibcafkaaaGreatDoor.X
end
