/- Texts that this claim's law comes to, joined by wip/slim.py: X0, X1, X2, X3, X22, X24, X23, X4, X9. -/
import Derived.Test.YtiminjibcafkaaaGreatDoorProg
import Derived.Below
import Derived.Deep.Draws
import Derived.Deep.AppendLies
import Derived.Maps.AppendAt
import Derived.OwnWalk
import Derived.Laws.BytesArg
import Derived.Laws.MakeOwn
import Derived.Laws.OwnMore
import Derived.Deep.OwnRows
import Derived.Tactics
import Derived.Lib.ConvBytes
import Derived.Laws.Slices
import Derived.WalkKit
import Derived.KernelRfl
import Derived.RowKit3
import Derived.Deep.LoopGhost
import Derived.Deep.QuietTactic
import Derived.BigQuiet
import Derived.WideLaws
import Derived.Deep.DeepCutAuto
import Derived.Deep.CutBlock
import Derived.Deep.RegionHeld3
import Derived.Laws.Rows
import Derived.Lib.AppendStr
import Derived.ArgAppend
import Derived.Laws.IdiomCopy
import Derived.OrdersHeld
import Derived.Laws.BitsLemmas
import Derived.RowKit
import Derived.Test.YtiminjibcafkaaaGreatDoorTBWWords
import Derived.Test.YtiminjibcafkaaaGreatDoorTBWLast
import Derived.Test.YtiminjibcafkaaaGreatDoorTBJ3
import Derived.Test.YtiminjibcafkaaaGreatDoorTBJ1
section
-- MADE BY wip/prx.py (the kit's printer, with contracts proved by hand). Not trusted: Lean checks it.
namespace Go.Proofs.YtiminjibcafkaaaGreatDoor.X
open Go.RowKit Go.Proofs.YtiminjibcafkaaaGreatDoorW.PrintWords Go.Proofs.YtiminjibcafkaaaGreatDoorW.PrintLast Go.Proofs.YtiminjibcafkaaaGreatDoorW.PrintMore
attribute [local go_sem] max2_int min2_int max_two min_two max_three min_three max_four min_four   -- for this text's walks alone
set_option linter.unusedVariables false
set_option linter.unusedSimpArgs false
def errW : Option Int → Value
 | none=>.nilIface
 | some c=>.iface 70 (.int .i64 c)
theorem errW_none : errW none = .nilIface:=rfl
theorem errW_some (c : Int) : errW (some c) = .iface 70 (.int .i64 c):=rfl
theorem info62 : (Tryz.prog.info? 62).map (fun i=>(i.zero,i.size,i.bytes)) = some (some (.agg #[(.int .u8 0),(.int .u8 0),(.int .u32 0),(.int .u32 0),(.int .i64 0),(.int .u8 0),(.int .u32 0)]),7,32):=by kernel_rfl
theorem info67 : (Tryz.prog.info? 67).map (fun i=>(i.zero,i.size,i.bytes)) = some (some (.agg #[(.int .u8 0),(.int .u32 0),(.int .u32 0)]),3,12):=by kernel_rfl
-- the values' own types
/-! #### struct type 67 -/
structure S67 where
 f0 : Int
 f1 : Int
 f2 : Int
def z67 : S67:=⟨(0 : Int),(0 : Int),(0 : Int)⟩
def k67 : Kd S67:=Kd.iso (Kd.pair (Kd.int .u8) (Kd.pair (Kd.int .u32) (Kd.int .u32))) (fun x : S67=>(x.f0,x.f1,x.f2))
theorem k67_open {w : World} {x : S67} {cs : List Value} (h : k67.K w x cs) : cs = [.int .u8 x.f0,.int .u32 x.f1,.int .u32 x.f2]:=by
 obtain ⟨_,_,rfl,rfl,⟨_,_,rfl,rfl,rfl⟩⟩:=h
 exact rfl
theorem k67_openM {w : World} {base : Nat} {ok : Nat → Prop} {x : S67} {cs : List Value} (h : k67.M w base ok x cs) : cs = [.int .u8 x.f0,.int .u32 x.f1,.int .u32 x.f2]:=by
 obtain ⟨_,_,rfl,rfl,⟨_,_,rfl,rfl,rfl⟩⟩:=h
 exact rfl
theorem k67_mk (w : World) (x : S67)  : k67.K w x [.int .u8 x.f0,.int .u32 x.f1,.int .u32 x.f2]:=⟨[.int .u8 x.f0],[.int .u32 x.f1,.int .u32 x.f2],rfl,rfl,⟨[.int .u32 x.f1],[.int .u32 x.f2],rfl,rfl,rfl⟩⟩
theorem k67_mkM (w : World) (base : Nat) (ok : Nat → Prop) (x : S67)  : k67.M w base ok x [.int .u8 x.f0,.int .u32 x.f1,.int .u32 x.f2]:=⟨[.int .u8 x.f0],[.int .u32 x.f1,.int .u32 x.f2],rfl,rfl,⟨[.int .u32 x.f1],[.int .u32 x.f2],rfl,rfl,rfl⟩⟩
def rd_T67 (xs : List S67) (i : Int) : S67:=xs.getD i.toNat z67
theorem at_T67 {w : World} {A : Option Addr} {n : Nat} {xs : List S67} (h : Kd.C k67 w A n xs) (i : Int) (h0 : 0 ≤ i) (h1 : i < n) : ∃ ad ,A = some ad ∧ w.cell? (ad.add (i.toNat * 3)) = some (.int .u8 (rd_T67 xs i).f0) ∧ w.cell? ⟨(ad.add (i.toNat * 3)).block,(ad.add (i.toNat * 3)).off + 1,none⟩ = some (.int .u32 (rd_T67 xs i).f1) ∧ w.cell? ⟨(ad.add (i.toNat * 3)).block,(ad.add (i.toNat * 3)).off + 2,none⟩ = some (.int .u32 (rd_T67 xs i).f2):=by
 obtain ⟨ad,c,e,_,hK,hc0⟩:=Kd.C_get h z67 i h0 h1
 have hc : ∀ j u,c[j]? = some u → w.cell? (ad.add (i.toNat * 3 + j)) = some u:=hc0
 obtain rfl:=k67_open hK
 exact ⟨ad,e,hc 0 _ rfl,by rw [← add_field _ _ 1 (by omega)];exact hc 1 _ rfl,by rw [← add_field _ _ 2 (by omega)];exact hc 2 _ rfl⟩
/-! #### struct type 60 -/
structure S60 where
 f0 : Int
 f1 : Int
 f2 : Int
def z60 : S60:=⟨(0 : Int),(0 : Int),(0 : Int)⟩
def k60 : Kd S60:=Kd.iso (Kd.pair (Kd.int .u8) (Kd.pair (Kd.int .u32) (Kd.int .u32))) (fun x : S60=>(x.f0,x.f1,x.f2))
theorem k60_open {w : World} {x : S60} {cs : List Value} (h : k60.K w x cs) : cs = [.int .u8 x.f0,.int .u32 x.f1,.int .u32 x.f2]:=by
 obtain ⟨_,_,rfl,rfl,⟨_,_,rfl,rfl,rfl⟩⟩:=h
 exact rfl
theorem k60_openM {w : World} {base : Nat} {ok : Nat → Prop} {x : S60} {cs : List Value} (h : k60.M w base ok x cs) : cs = [.int .u8 x.f0,.int .u32 x.f1,.int .u32 x.f2]:=by
 obtain ⟨_,_,rfl,rfl,⟨_,_,rfl,rfl,rfl⟩⟩:=h
 exact rfl
theorem k60_mk (w : World) (x : S60)  : k60.K w x [.int .u8 x.f0,.int .u32 x.f1,.int .u32 x.f2]:=⟨[.int .u8 x.f0],[.int .u32 x.f1,.int .u32 x.f2],rfl,rfl,⟨[.int .u32 x.f1],[.int .u32 x.f2],rfl,rfl,rfl⟩⟩
theorem k60_mkM (w : World) (base : Nat) (ok : Nat → Prop) (x : S60)  : k60.M w base ok x [.int .u8 x.f0,.int .u32 x.f1,.int .u32 x.f2]:=⟨[.int .u8 x.f0],[.int .u32 x.f1,.int .u32 x.f2],rfl,rfl,⟨[.int .u32 x.f1],[.int .u32 x.f2],rfl,rfl,rfl⟩⟩
/-! #### struct type 62 -/
structure S62 where
 f0 : Int
 f1 : S60
 f2 : Int
 f3 : Int
 f4 : Int
def z62 : S62:=⟨(0 : Int),z60,(0 : Int),(0 : Int),(0 : Int)⟩
def k62 : Kd S62:=Kd.iso (Kd.pair (Kd.int .u8) (Kd.pair k60 (Kd.pair (Kd.int .i64) (Kd.pair (Kd.int .u8) (Kd.int .u32))))) (fun x : S62=>(x.f0,x.f1,x.f2,x.f3,x.f4))
theorem k62_open {w : World} {x : S62} {cs : List Value} (h : k62.K w x cs) : cs = [.int .u8 x.f0,.int .u8 x.f1.f0,.int .u32 x.f1.f1,.int .u32 x.f1.f2,.int .i64 x.f2,.int .u8 x.f3,.int .u32 x.f4]:=by
 obtain ⟨_,_,rfl,rfl,⟨_,_,rfl,s1,⟨_,_,rfl,rfl,⟨_,_,rfl,rfl,rfl⟩⟩⟩⟩:=h
 obtain rfl:=k60_open s1
 exact rfl
theorem k62_openM {w : World} {base : Nat} {ok : Nat → Prop} {x : S62} {cs : List Value} (h : k62.M w base ok x cs) : cs = [.int .u8 x.f0,.int .u8 x.f1.f0,.int .u32 x.f1.f1,.int .u32 x.f1.f2,.int .i64 x.f2,.int .u8 x.f3,.int .u32 x.f4]:=by
 obtain ⟨_,_,rfl,rfl,⟨_,_,rfl,s1,⟨_,_,rfl,rfl,⟨_,_,rfl,rfl,rfl⟩⟩⟩⟩:=h
 obtain rfl:=k60_openM s1
 exact rfl
theorem k62_mk (w : World) (x : S62)  : k62.K w x [.int .u8 x.f0,.int .u8 x.f1.f0,.int .u32 x.f1.f1,.int .u32 x.f1.f2,.int .i64 x.f2,.int .u8 x.f3,.int .u32 x.f4]:=⟨[.int .u8 x.f0],[.int .u8 x.f1.f0,.int .u32 x.f1.f1,.int .u32 x.f1.f2,.int .i64 x.f2,.int .u8 x.f3,.int .u32 x.f4],rfl,rfl,⟨[.int .u8 x.f1.f0,.int .u32 x.f1.f1,.int .u32 x.f1.f2],[.int .i64 x.f2,.int .u8 x.f3,.int .u32 x.f4],rfl,(k60_mk w x.f1 ),⟨[.int .i64 x.f2],[.int .u8 x.f3,.int .u32 x.f4],rfl,rfl,⟨[.int .u8 x.f3],[.int .u32 x.f4],rfl,rfl,rfl⟩⟩⟩⟩
theorem k62_mkM (w : World) (base : Nat) (ok : Nat → Prop) (x : S62)  : k62.M w base ok x [.int .u8 x.f0,.int .u8 x.f1.f0,.int .u32 x.f1.f1,.int .u32 x.f1.f2,.int .i64 x.f2,.int .u8 x.f3,.int .u32 x.f4]:=⟨[.int .u8 x.f0],[.int .u8 x.f1.f0,.int .u32 x.f1.f1,.int .u32 x.f1.f2,.int .i64 x.f2,.int .u8 x.f3,.int .u32 x.f4],rfl,rfl,⟨[.int .u8 x.f1.f0,.int .u32 x.f1.f1,.int .u32 x.f1.f2],[.int .i64 x.f2,.int .u8 x.f3,.int .u32 x.f4],rfl,(k60_mkM w base ok x.f1 ),⟨[.int .i64 x.f2],[.int .u8 x.f3,.int .u32 x.f4],rfl,rfl,⟨[.int .u8 x.f3],[.int .u32 x.f4],rfl,rfl,rfl⟩⟩⟩⟩
def rd_T62 (xs : List S62) (i : Int) : S62:=xs.getD i.toNat z62
theorem at_T62 {w : World} {A : Option Addr} {n : Nat} {xs : List S62} (h : Kd.C k62 w A n xs) (i : Int) (h0 : 0 ≤ i) (h1 : i < n) : ∃ ad ,A = some ad ∧ w.cell? (ad.add (i.toNat * 7)) = some (.int .u8 (rd_T62 xs i).f0) ∧ w.cell? ⟨(ad.add (i.toNat * 7)).block,(ad.add (i.toNat * 7)).off + 1,none⟩ = some (.int .u8 (rd_T62 xs i).f1.f0) ∧ w.cell? ⟨(ad.add (i.toNat * 7)).block,(ad.add (i.toNat * 7)).off + 2,none⟩ = some (.int .u32 (rd_T62 xs i).f1.f1) ∧ w.cell? ⟨(ad.add (i.toNat * 7)).block,(ad.add (i.toNat * 7)).off + 3,none⟩ = some (.int .u32 (rd_T62 xs i).f1.f2) ∧ w.cell? ⟨(ad.add (i.toNat * 7)).block,(ad.add (i.toNat * 7)).off + 4,none⟩ = some (.int .i64 (rd_T62 xs i).f2) ∧ w.cell? ⟨(ad.add (i.toNat * 7)).block,(ad.add (i.toNat * 7)).off + 5,none⟩ = some (.int .u8 (rd_T62 xs i).f3) ∧ w.cell? ⟨(ad.add (i.toNat * 7)).block,(ad.add (i.toNat * 7)).off + 6,none⟩ = some (.int .u32 (rd_T62 xs i).f4):=by
 obtain ⟨ad,c,e,_,hK,hc0⟩:=Kd.C_get h z62 i h0 h1
 have hc : ∀ j u,c[j]? = some u → w.cell? (ad.add (i.toNat * 7 + j)) = some u:=hc0
 obtain rfl:=k62_open hK
 exact ⟨ad,e,hc 0 _ rfl,by rw [← add_field _ _ 1 (by omega)];exact hc 1 _ rfl,by rw [← add_field _ _ 2 (by omega)];exact hc 2 _ rfl,by rw [← add_field _ _ 3 (by omega)];exact hc 3 _ rfl,by rw [← add_field _ _ 4 (by omega)];exact hc 4 _ rfl,by rw [← add_field _ _ 5 (by omega)];exact hc 5 _ rfl,by rw [← add_field _ _ 6 (by omega)];exact hc 6 _ rfl⟩
/-! #### struct type 26 -/
structure S26 where
 f0 : Bool
 f1 : Int
 f2 : Int
 f3 : Int
 f4 : Int
 f5 : (List S67)
 f6 : Int
def k26 : Kd S26:=Kd.iso (Kd.pair Kd.bool (Kd.pair (Kd.int .u32) (Kd.pair (Kd.int .u8) (Kd.pair (Kd.int .u8) (Kd.pair (Kd.int .u32) (Kd.pair (Kd.slice 67 k67) (Kd.int .u32))))))) (fun x : S26=>(x.f0,x.f1,x.f2,x.f3,x.f4,x.f5,x.f6))
theorem k26_open {w : World} {x : S26} {cs : List Value} (h : k26.K w x cs) : ∃ A5 c5,cs = [.bool x.f0,.int .u32 x.f1,.int .u8 x.f2,.int .u8 x.f3,.int .u32 x.f4,.slice A5 x.f5.length c5,.int .u32 x.f6] ∧ x.f5.length ≤ c5 ∧ k67.C w A5 x.f5.length x.f5:=by
 obtain ⟨_,_,rfl,rfl,⟨_,_,rfl,rfl,⟨_,_,rfl,rfl,⟨_,_,rfl,rfl,⟨_,_,rfl,rfl,⟨_,_,rfl,⟨A5,c5,rfl,l5,g5⟩,rfl⟩⟩⟩⟩⟩⟩:=h
 exact ⟨A5,c5,rfl,l5,g5⟩
theorem k26_mk (w : World) (x : S26) {A5 : Option Addr} {c5 : Nat} (l5 : x.f5.length ≤ c5) (g5 : k67.C w A5 x.f5.length x.f5) : k26.K w x [.bool x.f0,.int .u32 x.f1,.int .u8 x.f2,.int .u8 x.f3,.int .u32 x.f4,.slice A5 x.f5.length c5,.int .u32 x.f6]:=⟨[.bool x.f0],[.int .u32 x.f1,.int .u8 x.f2,.int .u8 x.f3,.int .u32 x.f4,.slice A5 x.f5.length c5,.int .u32 x.f6],rfl,rfl,⟨[.int .u32 x.f1],[.int .u8 x.f2,.int .u8 x.f3,.int .u32 x.f4,.slice A5 x.f5.length c5,.int .u32 x.f6],rfl,rfl,⟨[.int .u8 x.f2],[.int .u8 x.f3,.int .u32 x.f4,.slice A5 x.f5.length c5,.int .u32 x.f6],rfl,rfl,⟨[.int .u8 x.f3],[.int .u32 x.f4,.slice A5 x.f5.length c5,.int .u32 x.f6],rfl,rfl,⟨[.int .u32 x.f4],[.slice A5 x.f5.length c5,.int .u32 x.f6],rfl,rfl,⟨[.slice A5 x.f5.length c5],[.int .u32 x.f6],rfl,⟨A5,c5,rfl,l5,g5⟩,rfl⟩⟩⟩⟩⟩⟩
/-! #### struct type 28 -/
structure S28 where
 f0 : Int
 f1 : Int
 f2 : Int
 f3 : Int
 f4 : (List S67)
 f5 : (List S62)
 f6 : S26
def k28 : Kd S28:=Kd.iso (Kd.pair (Kd.int .u8) (Kd.pair (Kd.int .u8) (Kd.pair (Kd.int .u32) (Kd.pair (Kd.int .u32) (Kd.pair (Kd.slice 67 k67) (Kd.pair (Kd.slice 62 k62) k26)))))) (fun x : S28=>(x.f0,x.f1,x.f2,x.f3,x.f4,x.f5,x.f6))
theorem k28_open {w : World} {x : S28} {cs : List Value} (h : k28.K w x cs) : ∃ A4 c4 A5 c5 A11 c11,cs = [.int .u8 x.f0,.int .u8 x.f1,.int .u32 x.f2,.int .u32 x.f3,.slice A4 x.f4.length c4,.slice A5 x.f5.length c5,.bool x.f6.f0,.int .u32 x.f6.f1,.int .u8 x.f6.f2,.int .u8 x.f6.f3,.int .u32 x.f6.f4,.slice A11 x.f6.f5.length c11,.int .u32 x.f6.f6] ∧ x.f4.length ≤ c4 ∧ k67.C w A4 x.f4.length x.f4 ∧ x.f5.length ≤ c5 ∧ k62.C w A5 x.f5.length x.f5 ∧ x.f6.f5.length ≤ c11 ∧ k67.C w A11 x.f6.f5.length x.f6.f5:=by
 obtain ⟨_,_,rfl,rfl,⟨_,_,rfl,rfl,⟨_,_,rfl,rfl,⟨_,_,rfl,rfl,⟨_,_,rfl,⟨A4,c4,rfl,l4,g4⟩,⟨_,_,rfl,⟨A5,c5,rfl,l5,g5⟩,s6⟩⟩⟩⟩⟩⟩:=h
 obtain ⟨A11,c11,rfl,l11,g11⟩:=k26_open s6
 exact ⟨A4,c4,A5,c5,A11,c11,rfl,l4,g4,l5,g5,l11,g11⟩
theorem k28_mk (w : World) (x : S28) {A4 : Option Addr} {c4 : Nat} (l4 : x.f4.length ≤ c4) (g4 : k67.C w A4 x.f4.length x.f4) {A5 : Option Addr} {c5 : Nat} (l5 : x.f5.length ≤ c5) (g5 : k62.C w A5 x.f5.length x.f5) {A11 : Option Addr} {c11 : Nat} (l11 : x.f6.f5.length ≤ c11) (g11 : k67.C w A11 x.f6.f5.length x.f6.f5) : k28.K w x [.int .u8 x.f0,.int .u8 x.f1,.int .u32 x.f2,.int .u32 x.f3,.slice A4 x.f4.length c4,.slice A5 x.f5.length c5,.bool x.f6.f0,.int .u32 x.f6.f1,.int .u8 x.f6.f2,.int .u8 x.f6.f3,.int .u32 x.f6.f4,.slice A11 x.f6.f5.length c11,.int .u32 x.f6.f6]:=⟨[.int .u8 x.f0],[.int .u8 x.f1,.int .u32 x.f2,.int .u32 x.f3,.slice A4 x.f4.length c4,.slice A5 x.f5.length c5,.bool x.f6.f0,.int .u32 x.f6.f1,.int .u8 x.f6.f2,.int .u8 x.f6.f3,.int .u32 x.f6.f4,.slice A11 x.f6.f5.length c11,.int .u32 x.f6.f6],rfl,rfl,⟨[.int .u8 x.f1],[.int .u32 x.f2,.int .u32 x.f3,.slice A4 x.f4.length c4,.slice A5 x.f5.length c5,.bool x.f6.f0,.int .u32 x.f6.f1,.int .u8 x.f6.f2,.int .u8 x.f6.f3,.int .u32 x.f6.f4,.slice A11 x.f6.f5.length c11,.int .u32 x.f6.f6],rfl,rfl,⟨[.int .u32 x.f2],[.int .u32 x.f3,.slice A4 x.f4.length c4,.slice A5 x.f5.length c5,.bool x.f6.f0,.int .u32 x.f6.f1,.int .u8 x.f6.f2,.int .u8 x.f6.f3,.int .u32 x.f6.f4,.slice A11 x.f6.f5.length c11,.int .u32 x.f6.f6],rfl,rfl,⟨[.int .u32 x.f3],[.slice A4 x.f4.length c4,.slice A5 x.f5.length c5,.bool x.f6.f0,.int .u32 x.f6.f1,.int .u8 x.f6.f2,.int .u8 x.f6.f3,.int .u32 x.f6.f4,.slice A11 x.f6.f5.length c11,.int .u32 x.f6.f6],rfl,rfl,⟨[.slice A4 x.f4.length c4],[.slice A5 x.f5.length c5,.bool x.f6.f0,.int .u32 x.f6.f1,.int .u8 x.f6.f2,.int .u8 x.f6.f3,.int .u32 x.f6.f4,.slice A11 x.f6.f5.length c11,.int .u32 x.f6.f6],rfl,⟨A4,c4,rfl,l4,g4⟩,⟨[.slice A5 x.f5.length c5],[.bool x.f6.f0,.int .u32 x.f6.f1,.int .u8 x.f6.f2,.int .u8 x.f6.f3,.int .u32 x.f6.f4,.slice A11 x.f6.f5.length c11,.int .u32 x.f6.f6],rfl,⟨A5,c5,rfl,l5,g5⟩,(k26_mk w x.f6 l11 g11)⟩⟩⟩⟩⟩⟩
/-! #### struct type 30 -/
end Go.Proofs.YtiminjibcafkaaaGreatDoor.X
end
section
-- MADE BY wip/prx.py (the kit's printer, with contracts proved by hand). Not trusted: Lean checks it.
namespace Go.Proofs.YtiminjibcafkaaaGreatDoor.X
open Go.RowKit Go.Proofs.YtiminjibcafkaaaGreatDoorW.PrintWords Go.Proofs.YtiminjibcafkaaaGreatDoorW.PrintLast Go.Proofs.YtiminjibcafkaaaGreatDoorW.PrintMore
attribute [local go_sem] max2_int min2_int max_two min_two max_three min_three max_four min_four   -- for this text's walks alone
set_option linter.unusedVariables false
set_option linter.unusedSimpArgs false
theorem eqA60 (d : Nat) (w : World) (x0 y0 : Int) (x1 y1 : Int) (x2 y2 : Int) :
 (Op.equalIn (d + 2) 60 (.agg #[.int .u8 x0,.int .u32 x1,.int .u32 x2]) (.agg #[.int .u8 y0,.int .u32 y1,.int .u32 y2])).run Tryz.prog w = .ok (x0 == y0 && (x1 == y1 && (x2 == y2))) w:=by
 refine eqA_of Tryz.underlying60 (by kernel_rfl) ?_
 refine eqf_cons (by rfl) (by go_simp;rfl) (by go_simp;rfl) (by go_simp) ?_
 refine eqf_cons (by rfl) (by go_simp;rfl) (by go_simp;rfl) (by go_simp) ?_
 exact eqf_last (by rfl) (by go_simp;rfl) (by go_simp;rfl) (by go_simp)
end Go.Proofs.YtiminjibcafkaaaGreatDoor.X
end
section
-- MADE BY wip/prx.py (the kit's printer, with contracts proved by hand). Not trusted: Lean checks it.
namespace Go.Proofs.YtiminjibcafkaaaGreatDoor.X
open Go.RowKit Go.Proofs.YtiminjibcafkaaaGreatDoorW.PrintWords Go.Proofs.YtiminjibcafkaaaGreatDoorW.PrintLast Go.Proofs.YtiminjibcafkaaaGreatDoorW.PrintMore
attribute [local go_sem] max2_int min2_int max_two min_two max_three min_three max_four min_four   -- for this text's walks alone
set_option linter.unusedVariables false
set_option linter.unusedSimpArgs false
theorem eqA62 (d : Nat) (w : World) (x0 y0 : Int) (x1 y1 : Int) (x2 y2 : Int) (x3 y3 : Int) (x4 y4 : Int) (x5 y5 : Int) (x6 y6 : Int) :
 (Op.equalIn (d + 3) 62 (.agg #[.int .u8 x0,.int .u8 x1,.int .u32 x2,.int .u32 x3,.int .i64 x4,.int .u8 x5,.int .u32 x6]) (.agg #[.int .u8 y0,.int .u8 y1,.int .u32 y2,.int .u32 y3,.int .i64 y4,.int .u8 y5,.int .u32 y6])).run Tryz.prog w = .ok (x0 == y0 && ((x1 == y1 && (x2 == y2 && (x3 == y3))) && (x4 == y4 && (x5 == y5 && (x6 == y6))))) w:=by
 refine eqA_of Tryz.underlying62 (by kernel_rfl) ?_
 refine eqf_cons (by rfl) (by go_simp;rfl) (by go_simp;rfl) (by go_simp) ?_
 refine eqf_cons (by rfl) (by go_simp) (by go_simp) (eqA60 (d + 0) w _ _ _ _ _ _) ?_
 refine eqf_cons (by rfl) (by go_simp;rfl) (by go_simp;rfl) (by go_simp) ?_
 refine eqf_cons (by rfl) (by go_simp;rfl) (by go_simp;rfl) (by go_simp) ?_
 exact eqf_last (by rfl) (by go_simp;rfl) (by go_simp;rfl) (by go_simp)
end Go.Proofs.YtiminjibcafkaaaGreatDoor.X
end
section
-- MADE BY wip/prx.py (the kit's printer, with contracts proved by hand). Not trusted: Lean checks it.
namespace Go.Proofs.YtiminjibcafkaaaGreatDoor.X
open Go.RowKit Go.Proofs.YtiminjibcafkaaaGreatDoorW.PrintWords Go.Proofs.YtiminjibcafkaaaGreatDoorW.PrintLast Go.Proofs.YtiminjibcafkaaaGreatDoorW.PrintMore
attribute [local go_sem] max2_int min2_int max_two min_two max_three min_three max_four min_four   -- for this text's walks alone
set_option linter.unusedVariables false
set_option linter.unusedSimpArgs false
theorem eqA67 (d : Nat) (w : World) (x0 y0 : Int) (x1 y1 : Int) (x2 y2 : Int) :
 (Op.equalIn (d + 2) 67 (.agg #[.int .u8 x0,.int .u32 x1,.int .u32 x2]) (.agg #[.int .u8 y0,.int .u32 y1,.int .u32 y2])).run Tryz.prog w = .ok (x0 == y0 && (x1 == y1 && (x2 == y2))) w:=by
 refine eqA_of Tryz.underlying67 (by kernel_rfl) ?_
 refine eqf_cons (by rfl) (by go_simp;rfl) (by go_simp;rfl) (by go_simp) ?_
 refine eqf_cons (by rfl) (by go_simp;rfl) (by go_simp;rfl) (by go_simp) ?_
 exact eqf_last (by rfl) (by go_simp;rfl) (by go_simp;rfl) (by go_simp)
end Go.Proofs.YtiminjibcafkaaaGreatDoor.X
end
section
-- MADE BY wip/prx.py (the kit's printer, with contracts proved by hand). Not trusted: Lean checks it.
namespace Go.Proofs.YtiminjibcafkaaaGreatDoor.X
open Go.RowKit Go.Proofs.YtiminjibcafkaaaGreatDoorW.PrintWords Go.Proofs.YtiminjibcafkaaaGreatDoorW.PrintLast Go.Proofs.YtiminjibcafkaaaGreatDoorW.PrintMore
attribute [local go_sem] max2_int min2_int max_two min_two max_three min_three max_four min_four   -- for this text's walks alone
set_option linter.unusedVariables false
set_option linter.unusedSimpArgs false
attribute [local go_sem high] eqA62 eqA67
/-! ### tidingsref01_Same: function 46 -/
def tidingsref01_Same.l0 : Nat → List (S67) → List (S67) → Int → Option (Bool)
 | 0,_,_,_=>none
 | k + 1,x0,x1,x5=>if x5 < (x0.length : Int) then (if 0 ≤ x5 then (if x5 < (x1.length : Int) then (if (!(((rd_T67 x0 x5).f0) == ((rd_T67 x1 x5).f0)) || (!(((rd_T67 x0 x5).f1) == ((rd_T67 x1 x5).f1)) || (!(((rd_T67 x0 x5).f2) == ((rd_T67 x1 x5).f2))))) = true then (some false) else (tidingsref01_Same.l0 k x0 x1 (wrap64 (x5 + 1)))) else (none)) else (none)) else (some true)
def tidingsref01_Same.f (k : Nat) (l0 : List (S67)) (l1 : List (S67)) : Option (Bool):=if (l0.length : Int) = (l1.length : Int) then (tidingsref01_Same.l0 k l0 l1 0) else (some false)
set_option maxHeartbeats 8000000 in
set_option maxRecDepth 100000 in
theorem tidingsref01_Same.calls (k : Nat) (A0 : Option Addr) (c0 : Nat) (l0 : List (S67)) (A1 : Option Addr) (c1 : Nat) (l1 : List (S67)) (r : Bool) (w : World) (hr0 : Kd.C k67 w A0 l0.length l0) (hc0 : l0.length ≤ c0) (hr1 : Kd.C k67 w A1 l1.length l1) (hc1 : l1.length ≤ c1) (h : tidingsref01_Same.f k l0 l1 = some r) :
 Calls Tryz.prog 46 #[.slice A0 l0.length c0,.slice A1 l1.length c1] w fun e w'=>e = .returned (.bool r) ∧ Drawn0 w w':=by
 have hu67:=Tryz.underlying67
 have HR0:=Aside0.mk hr0
 have HC0:=Aside0.mk hc0
 clear hr0 hc0
 have HR1:=Aside0.mk hr1
 have HC1:=Aside0.mk hc1
 clear hr1 hc1
 have H : (if (l0.length : Int) = (l1.length : Int) then (tidingsref01_Same.l0 k l0 l1 0) else (some false)) = some r:=h
 clear h
 by_cases c3 : (l0.length : Int) = (l1.length : Int)
 ·rw [if_pos c3] at H
  have c3b0 : ((l0.length : Int) == (l1.length : Int)) = true:=beq_iff_eq.mpr c3
  have c3b1 : ((l0.length : Int) != (l1.length : Int)) = false:=bne_eq_false_iff_eq.mpr c3
  have c3b2 : (l0.length == l1.length) = true:=by first | simpa using c3 | (simp at c3 ⊢;omega)
  clear c3
  have H':=Aside0.mk H
  clear H
  go_enter Tryz.func46,Tryz.ntmps46
  go_wp2
  repeat (go_quiet (fail))
  go_loopg [5] k (fun kq v5 w'=>∃ (x5_1 : Int),v5 = .int .i64 x5_1 ∧ Aside0 (tidingsref01_Same.l0 kq l0 l1 x5_1 = some r) ∧ Aside0 (kq ≤ k) ∧ Drawn0 w w')
  case atStart=>exact ⟨(0),(by first | rfl),H',⟨Nat.le_refl _⟩,by repeat (first | exact Drawn0.refl _ | apply Drawn0.step)⟩
  case round =>
   clear H'
   try clear c1
   try clear p2
   try clear c3
   try clear c3b0
   try clear c3b1
   try clear c3b2
   obtain ⟨x5_1,rfl,HA,HK1,⟨m1,rfl⟩⟩:=hrel
   cases gk with
   | zero=>exact absurd HA.out (by simp [tidingsref01_Same.l0])
   | succ k1 =>
    have H:=HA.out
    clear HA
    simp only [tidingsref01_Same.l0] at H
    by_cases c4 : x5_1 < (l0.length : Int)
    ·rw [if_pos c4] at H
     have c4b0 : decide (x5_1 < (l0.length : Int)) = true:=decide_eq_true c4
     clear c4
     by_cases c5 : 0 ≤ x5_1
     ·rw [if_pos c5] at H
      have c5b0 : decide (0 ≤ x5_1) = true:=decide_eq_true c5
      clear c5
      by_cases c6 : x5_1 < (l1.length : Int)
      ·rw [if_pos c6] at H
       have c6b0 : decide (x5_1 < (l1.length : Int)) = true:=decide_eq_true c6
       clear c6
       by_cases c7 : (!(((rd_T67 l0 x5_1).f0) == ((rd_T67 l1 x5_1).f0)) || (!(((rd_T67 l0 x5_1).f1) == ((rd_T67 l1 x5_1).f1)) || (!(((rd_T67 l0 x5_1).f2) == ((rd_T67 l1 x5_1).f2))))) = true
       ·rw [if_pos c7] at H
        have c7b0 : (!(((rd_T67 l0 x5_1).f0) == ((rd_T67 l1 x5_1).f0)) || (!(((rd_T67 l0 x5_1).f1) == ((rd_T67 l1 x5_1).f1)) || (!(((rd_T67 l0 x5_1).f2) == ((rd_T67 l1 x5_1).f2))))) = true:=c7
        clear c7
        obtain rfl:=Option.some.inj H
        have p278 : 0 ≤ (x5_1 : Int):=of_decide_eq_true (by (with_reducible assumption))
        have q278 : x5_1 < (l0.length : Int):=of_decide_eq_true (by (with_reducible assumption))
        obtain ⟨ad278,e278,hx278_0,hx278_1,hx278_2⟩:=at_T67 HR0.out x5_1 p278 q278
        cases e278
        replace p278:=eq_true p278
        replace q278:=eq_true q278
        have p279 : 0 ≤ (x5_1 : Int):=of_decide_eq_true (by (with_reducible assumption))
        have q279 : x5_1 < (l1.length : Int):=of_decide_eq_true (by (with_reducible assumption))
        obtain ⟨ad279,e279,hx279_0,hx279_1,hx279_2⟩:=at_T67 HR1.out x5_1 p279 q279
        cases e279
        replace p279:=eq_true p279
        replace q279:=eq_true q279
        go_wp2
        repeat (go_quiet (fail);try go_wp2)
        go_ret
        exact ⟨by first | rfl,by repeat (first | exact Drawn0.refl _ | apply Drawn0.step)⟩
       ·rw [if_neg c7] at H
        have c7b0 : (!(((rd_T67 l0 x5_1).f0) == ((rd_T67 l1 x5_1).f0)) || (!(((rd_T67 l0 x5_1).f1) == ((rd_T67 l1 x5_1).f1)) || (!(((rd_T67 l0 x5_1).f2) == ((rd_T67 l1 x5_1).f2))))) = false:=by simpa using c7
        clear c7
        have H':=Aside0.mk H
        clear H
        have p278 : 0 ≤ (x5_1 : Int):=of_decide_eq_true (by (with_reducible assumption))
        have q278 : x5_1 < (l0.length : Int):=of_decide_eq_true (by (with_reducible assumption))
        obtain ⟨ad278,e278,hx278_0,hx278_1,hx278_2⟩:=at_T67 HR0.out x5_1 p278 q278
        cases e278
        replace p278:=eq_true p278
        replace q278:=eq_true q278
        have p279 : 0 ≤ (x5_1 : Int):=of_decide_eq_true (by (with_reducible assumption))
        have q279 : x5_1 < (l1.length : Int):=of_decide_eq_true (by (with_reducible assumption))
        obtain ⟨ad279,e279,hx279_0,hx279_1,hx279_2⟩:=at_T67 HR1.out x5_1 p279 q279
        cases e279
        replace p279:=eq_true p279
        replace q279:=eq_true q279
        go_wp2
        repeat (go_quiet (fail);try go_wp2)
        go_roundg k1
        case measure=>have:=HK1.out;omega
        case rel=>exact ⟨(wrap64 (x5_1 + 1)),(by first | rfl),H',⟨by have:=HK1.out;omega⟩,by repeat (first | exact Drawn0.refl _ | apply Drawn0.step)⟩
      ·rw [if_neg c6] at H
       exact absurd H (by simp)
     ·rw [if_neg c5] at H
      exact absurd H (by simp)
    ·rw [if_neg c4] at H
     have c4b0 : decide (x5_1 < (l0.length : Int)) = false:=decide_eq_false c4
     clear c4
     obtain rfl:=Option.some.inj H
     go_wp2
     repeat (go_quiet (fail))
     go_ret
     exact ⟨by first | rfl,by repeat (first | exact Drawn0.refl _ | apply Drawn0.step)⟩
 ·rw [if_neg c3] at H
  have c3b0 : ((l0.length : Int) == (l1.length : Int)) = false:=beq_eq_false_iff_ne.mpr c3
  have c3b1 : ((l0.length : Int) != (l1.length : Int)) = true:=bne_iff_ne.mpr c3
  have c3b2 : (l0.length == l1.length) = false:=by first | simpa using c3 | (simp at c3 ⊢;omega)
  obtain rfl:=Option.some.inj H
  go_enter Tryz.func46,Tryz.ntmps46
  go_wp2
  repeat (go_quiet (fail))
  go_ret
  exact ⟨by first | rfl,by repeat (first | exact Drawn0.refl _ | apply Drawn0.step)⟩
/-! ### tidingsref02_Same: function 47 -/
def tidingsref02_Same.l0 : Nat → List (S62) → List (S62) → Int → Option (Bool)
 | 0,_,_,_=>none
 | k + 1,x0,x1,x5=>if x5 < (x0.length : Int) then (if 0 ≤ x5 then (if x5 < (x1.length : Int) then (if (!(((rd_T62 x0 x5).f0) == ((rd_T62 x1 x5).f0)) || ((!(((rd_T62 x0 x5).f1.f0) == ((rd_T62 x1 x5).f1.f0)) || (!(((rd_T62 x0 x5).f1.f1) == ((rd_T62 x1 x5).f1.f1)) || (!(((rd_T62 x0 x5).f1.f2) == ((rd_T62 x1 x5).f1.f2))))) || (!(((rd_T62 x0 x5).f2) == ((rd_T62 x1 x5).f2)) || (!(((rd_T62 x0 x5).f3) == ((rd_T62 x1 x5).f3)) || (!(((rd_T62 x0 x5).f4) == ((rd_T62 x1 x5).f4))))))) = true then (some false) else (tidingsref02_Same.l0 k x0 x1 (wrap64 (x5 + 1)))) else (none)) else (none)) else (some true)
def tidingsref02_Same.f (k : Nat) (l0 : List (S62)) (l1 : List (S62)) : Option (Bool):=if (l0.length : Int) = (l1.length : Int) then (tidingsref02_Same.l0 k l0 l1 0) else (some false)
set_option maxHeartbeats 8000000 in
set_option maxRecDepth 100000 in
theorem tidingsref02_Same.calls (k : Nat) (A0 : Option Addr) (c0 : Nat) (l0 : List (S62)) (A1 : Option Addr) (c1 : Nat) (l1 : List (S62)) (r : Bool) (w : World) (hr0 : Kd.C k62 w A0 l0.length l0) (hc0 : l0.length ≤ c0) (hr1 : Kd.C k62 w A1 l1.length l1) (hc1 : l1.length ≤ c1) (h : tidingsref02_Same.f k l0 l1 = some r) :
 Calls Tryz.prog 47 #[.slice A0 l0.length c0,.slice A1 l1.length c1] w fun e w'=>e = .returned (.bool r) ∧ Drawn0 w w':=by
 have hu62:=Tryz.underlying62
 have HR0:=Aside0.mk hr0
 have HC0:=Aside0.mk hc0
 clear hr0 hc0
 have HR1:=Aside0.mk hr1
 have HC1:=Aside0.mk hc1
 clear hr1 hc1
 have H : (if (l0.length : Int) = (l1.length : Int) then (tidingsref02_Same.l0 k l0 l1 0) else (some false)) = some r:=h
 clear h
 by_cases c3 : (l0.length : Int) = (l1.length : Int)
 ·rw [if_pos c3] at H
  have c3b0 : ((l0.length : Int) == (l1.length : Int)) = true:=beq_iff_eq.mpr c3
  have c3b1 : ((l0.length : Int) != (l1.length : Int)) = false:=bne_eq_false_iff_eq.mpr c3
  have c3b2 : (l0.length == l1.length) = true:=by first | simpa using c3 | (simp at c3 ⊢;omega)
  clear c3
  have H':=Aside0.mk H
  clear H
  go_enter Tryz.func47,Tryz.ntmps47
  go_wp2
  repeat (go_quiet (fail))
  go_loopg [5] k (fun kq v5 w'=>∃ (x5_1 : Int),v5 = .int .i64 x5_1 ∧ Aside0 (tidingsref02_Same.l0 kq l0 l1 x5_1 = some r) ∧ Aside0 (kq ≤ k) ∧ Drawn0 w w')
  case atStart=>exact ⟨(0),(by first | rfl),H',⟨Nat.le_refl _⟩,by repeat (first | exact Drawn0.refl _ | apply Drawn0.step)⟩
  case round =>
   clear H'
   try clear c1
   try clear p2
   try clear c3
   try clear c3b0
   try clear c3b1
   try clear c3b2
   obtain ⟨x5_1,rfl,HA,HK1,⟨m1,rfl⟩⟩:=hrel
   cases gk with
   | zero=>exact absurd HA.out (by simp [tidingsref02_Same.l0])
   | succ k1 =>
    have H:=HA.out
    clear HA
    simp only [tidingsref02_Same.l0] at H
    by_cases c4 : x5_1 < (l0.length : Int)
    ·rw [if_pos c4] at H
     have c4b0 : decide (x5_1 < (l0.length : Int)) = true:=decide_eq_true c4
     clear c4
     by_cases c5 : 0 ≤ x5_1
     ·rw [if_pos c5] at H
      have c5b0 : decide (0 ≤ x5_1) = true:=decide_eq_true c5
      clear c5
      by_cases c6 : x5_1 < (l1.length : Int)
      ·rw [if_pos c6] at H
       have c6b0 : decide (x5_1 < (l1.length : Int)) = true:=decide_eq_true c6
       clear c6
       by_cases c7 : (!(((rd_T62 l0 x5_1).f0) == ((rd_T62 l1 x5_1).f0)) || ((!(((rd_T62 l0 x5_1).f1.f0) == ((rd_T62 l1 x5_1).f1.f0)) || (!(((rd_T62 l0 x5_1).f1.f1) == ((rd_T62 l1 x5_1).f1.f1)) || (!(((rd_T62 l0 x5_1).f1.f2) == ((rd_T62 l1 x5_1).f1.f2))))) || (!(((rd_T62 l0 x5_1).f2) == ((rd_T62 l1 x5_1).f2)) || (!(((rd_T62 l0 x5_1).f3) == ((rd_T62 l1 x5_1).f3)) || (!(((rd_T62 l0 x5_1).f4) == ((rd_T62 l1 x5_1).f4))))))) = true
       ·rw [if_pos c7] at H
        have c7b0 : (!(((rd_T62 l0 x5_1).f0) == ((rd_T62 l1 x5_1).f0)) || ((!(((rd_T62 l0 x5_1).f1.f0) == ((rd_T62 l1 x5_1).f1.f0)) || (!(((rd_T62 l0 x5_1).f1.f1) == ((rd_T62 l1 x5_1).f1.f1)) || (!(((rd_T62 l0 x5_1).f1.f2) == ((rd_T62 l1 x5_1).f1.f2))))) || (!(((rd_T62 l0 x5_1).f2) == ((rd_T62 l1 x5_1).f2)) || (!(((rd_T62 l0 x5_1).f3) == ((rd_T62 l1 x5_1).f3)) || (!(((rd_T62 l0 x5_1).f4) == ((rd_T62 l1 x5_1).f4))))))) = true:=c7
        clear c7
        obtain rfl:=Option.some.inj H
        have p280 : 0 ≤ (x5_1 : Int):=of_decide_eq_true (by (with_reducible assumption))
        have q280 : x5_1 < (l0.length : Int):=of_decide_eq_true (by (with_reducible assumption))
        obtain ⟨ad280,e280,hx280_0,hx280_1,hx280_2,hx280_3,hx280_4,hx280_5,hx280_6⟩:=at_T62 HR0.out x5_1 p280 q280
        cases e280
        replace p280:=eq_true p280
        replace q280:=eq_true q280
        have p281 : 0 ≤ (x5_1 : Int):=of_decide_eq_true (by (with_reducible assumption))
        have q281 : x5_1 < (l1.length : Int):=of_decide_eq_true (by (with_reducible assumption))
        obtain ⟨ad281,e281,hx281_0,hx281_1,hx281_2,hx281_3,hx281_4,hx281_5,hx281_6⟩:=at_T62 HR1.out x5_1 p281 q281
        cases e281
        replace p281:=eq_true p281
        replace q281:=eq_true q281
        go_wp2
        repeat (go_quiet (fail);try go_wp2)
        go_ret
        exact ⟨by first | rfl,by repeat (first | exact Drawn0.refl _ | apply Drawn0.step)⟩
       ·rw [if_neg c7] at H
        have c7b0 : (!(((rd_T62 l0 x5_1).f0) == ((rd_T62 l1 x5_1).f0)) || ((!(((rd_T62 l0 x5_1).f1.f0) == ((rd_T62 l1 x5_1).f1.f0)) || (!(((rd_T62 l0 x5_1).f1.f1) == ((rd_T62 l1 x5_1).f1.f1)) || (!(((rd_T62 l0 x5_1).f1.f2) == ((rd_T62 l1 x5_1).f1.f2))))) || (!(((rd_T62 l0 x5_1).f2) == ((rd_T62 l1 x5_1).f2)) || (!(((rd_T62 l0 x5_1).f3) == ((rd_T62 l1 x5_1).f3)) || (!(((rd_T62 l0 x5_1).f4) == ((rd_T62 l1 x5_1).f4))))))) = false:=by simpa using c7
        clear c7
        have H':=Aside0.mk H
        clear H
        have p280 : 0 ≤ (x5_1 : Int):=of_decide_eq_true (by (with_reducible assumption))
        have q280 : x5_1 < (l0.length : Int):=of_decide_eq_true (by (with_reducible assumption))
        obtain ⟨ad280,e280,hx280_0,hx280_1,hx280_2,hx280_3,hx280_4,hx280_5,hx280_6⟩:=at_T62 HR0.out x5_1 p280 q280
        cases e280
        replace p280:=eq_true p280
        replace q280:=eq_true q280
        have p281 : 0 ≤ (x5_1 : Int):=of_decide_eq_true (by (with_reducible assumption))
        have q281 : x5_1 < (l1.length : Int):=of_decide_eq_true (by (with_reducible assumption))
        obtain ⟨ad281,e281,hx281_0,hx281_1,hx281_2,hx281_3,hx281_4,hx281_5,hx281_6⟩:=at_T62 HR1.out x5_1 p281 q281
        cases e281
        replace p281:=eq_true p281
        replace q281:=eq_true q281
        go_wp2
        repeat (go_quiet (fail);try go_wp2)
        go_roundg k1
        case measure=>have:=HK1.out;omega
        case rel=>exact ⟨(wrap64 (x5_1 + 1)),(by first | rfl),H',⟨by have:=HK1.out;omega⟩,by repeat (first | exact Drawn0.refl _ | apply Drawn0.step)⟩
      ·rw [if_neg c6] at H
       exact absurd H (by simp)
     ·rw [if_neg c5] at H
      exact absurd H (by simp)
    ·rw [if_neg c4] at H
     have c4b0 : decide (x5_1 < (l0.length : Int)) = false:=decide_eq_false c4
     clear c4
     obtain rfl:=Option.some.inj H
     go_wp2
     repeat (go_quiet (fail))
     go_ret
     exact ⟨by first | rfl,by repeat (first | exact Drawn0.refl _ | apply Drawn0.step)⟩
 ·rw [if_neg c3] at H
  have c3b0 : ((l0.length : Int) == (l1.length : Int)) = false:=beq_eq_false_iff_ne.mpr c3
  have c3b1 : ((l0.length : Int) != (l1.length : Int)) = true:=bne_iff_ne.mpr c3
  have c3b2 : (l0.length == l1.length) = false:=by first | simpa using c3 | (simp at c3 ⊢;omega)
  obtain rfl:=Option.some.inj H
  go_enter Tryz.func47,Tryz.ntmps47
  go_wp2
  repeat (go_quiet (fail))
  go_ret
  exact ⟨by first | rfl,by repeat (first | exact Drawn0.refl _ | apply Drawn0.step)⟩
end Go.Proofs.YtiminjibcafkaaaGreatDoor.X
end
section
-- MADE BY wip/prx.py (the kit's printer, with contracts proved by hand). Not trusted: Lean checks it.
namespace Go.Proofs.YtiminjibcafkaaaGreatDoor.X
open Go.RowKit Go.Proofs.YtiminjibcafkaaaGreatDoorW.PrintWords Go.Proofs.YtiminjibcafkaaaGreatDoorW.PrintLast Go.Proofs.YtiminjibcafkaaaGreatDoorW.PrintMore
attribute [local go_sem] max2_int min2_int max_two min_two max_three min_three max_four min_four   -- for this text's walks alone
set_option linter.unusedVariables false
set_option linter.unusedSimpArgs false
/-! ### tidingsref05_Short: function 7 -/
def tidingsref05_Short.f (a0_0 : Int) (a0_1 : Int) (a0_2 : Int) (a0_3 : Int) (l0_4 : List (S67)) (l0_5 : List (S62)) (a0_6 : Bool) (a0_7 : Int) (a0_8 : Int) (a0_9 : Int) (a0_10 : Int) (l0_11 : List (S67)) (a0_12 : Int) : Option (Bool):=if (l0_4.length : Int) ≤ 300 then (if (l0_5.length : Int) ≤ 300 then (some (decide ((l0_11.length : Int) ≤ 300))) else (some false)) else (some false)
set_option maxHeartbeats 8000000 in
set_option maxRecDepth 100000 in
theorem tidingsref05_Short.calls (a0_0 : Int) (a0_1 : Int) (a0_2 : Int) (a0_3 : Int) (A0_4 : Option Addr) (c0_4 : Nat) (l0_4 : List (S67)) (A0_5 : Option Addr) (c0_5 : Nat) (l0_5 : List (S62)) (a0_6 : Bool) (a0_7 : Int) (a0_8 : Int) (a0_9 : Int) (a0_10 : Int) (A0_11 : Option Addr) (c0_11 : Nat) (l0_11 : List (S67)) (a0_12 : Int) (r : Bool) (w : World) (hr0_4 : Kd.C k67 w A0_4 l0_4.length l0_4) (hc0_4 : l0_4.length ≤ c0_4) (hr0_5 : Kd.C k62 w A0_5 l0_5.length l0_5) (hc0_5 : l0_5.length ≤ c0_5) (hr0_11 : Kd.C k67 w A0_11 l0_11.length l0_11) (hc0_11 : l0_11.length ≤ c0_11) (h : tidingsref05_Short.f a0_0 a0_1 a0_2 a0_3 l0_4 l0_5 a0_6 a0_7 a0_8 a0_9 a0_10 l0_11 a0_12 = some r) :
 Calls Tryz.prog 7 #[.agg #[.int .u8 a0_0,.int .u8 a0_1,.int .u32 a0_2,.int .u32 a0_3,.slice A0_4 l0_4.length c0_4,.slice A0_5 l0_5.length c0_5,.bool a0_6,.int .u32 a0_7,.int .u8 a0_8,.int .u8 a0_9,.int .u32 a0_10,.slice A0_11 l0_11.length c0_11,.int .u32 a0_12]] w fun e w'=>e = .returned (.bool r) ∧ Below w.heap.size w w':=by
 have hu28:=Tryz.underlying28
 have HR0_4':=Aside0.mk hr0_4
 have HC0_4':=Aside0.mk hc0_4
 have HR0_5':=Aside0.mk hr0_5
 have HC0_5':=Aside0.mk hc0_5
 have HR0_11':=Aside0.mk hr0_11
 have HC0_11':=Aside0.mk hc0_11
 clear hr0_4 hc0_4 hr0_5 hc0_5 hr0_11 hc0_11
 have H:=Aside0.mk h
 clear h
 go_enter Tryz.func7,Tryz.ntmps7
 go_wp2
 all_goals (try go_ret)
 all_goals (have h:=H.out;clear H;simp only [tidingsref05_Short.f] at h)
 all_goals (refine ⟨?_,by first | ((repeat (first | exact Below.refl _ _ | refine Below.alloc ?_ (by first | exact Nat.le_refl _ | (simp;done) | (simp;omega)) _));done) | (refine below_step ?_ hx;(repeat (first | exact Below.refl _ _ | refine Below.alloc ?_ (by first | exact Nat.le_refl _ | (simp;done) | (simp;omega)) _));done)⟩)
 all_goals (first | (simp [*] at h;simp [*];done) | (simp [*] at h;simp [← h];done) | (simp [*] at h;subst h;first | rfl | (simp;done)) | (simp [*] at h ⊢;done) | (simp [*] at h;rw [← h];first | rfl | (simp [*];done)) | (simp [*] at h;simp [h];done) | ((repeat' (split at h))<;>first | (exfalso;omega) | (exfalso;simp_all;done) | (simp [*] at h;subst h;simp [*];done) | (simp [*] at h;simp [*,← h];done) | (simp [*] at h;simp [h];done) | (simp [*] at h;subst h;simp;omega) | (simp at h;subst h;simp [*];done)))
/-! ### tidingsref04_Same: function 13 -/
def tidingsref04_Same.f (k : Nat) (a0_0 : Int) (a0_1 : Int) (a0_2 : Int) (a0_3 : Int) (a0_4 : Int) (a0_5 : Int) (l0_6 : List (S67)) (a0_7 : Int) (l0_8 : List (S62)) (a0_9 : Int) (a0_10 : Bool) (l0_11 : List (S67)) (a1_0 : Int) (a1_1 : Int) (a1_2 : Int) (a1_3 : Int) (a1_4 : Int) (a1_5 : Int) (l1_6 : List (S67)) (a1_7 : Int) (l1_8 : List (S62)) (a1_9 : Int) (a1_10 : Bool) (l1_11 : List (S67)) : Option (Bool):=if a0_0 = a1_0 then (if a0_1 = a1_1 then (if a0_2 = a1_2 then (if a0_3 = a1_3 then (if a0_4 = a1_4 then (if a0_5 = a1_5 then ((tidingsref01_Same.f k l0_6 l1_6).bind fun t292=>(if t292 = true then (if a0_7 = a1_7 then ((tidingsref02_Same.f k l0_8 l1_8).bind fun t293=>(if t293 = true then (if a0_9 = a1_9 then (if (a0_10 == a1_10) = true then ((tidingsref01_Same.f k l0_11 l1_11).bind fun t294=>(some t294)) else (some false)) else (some false)) else (some false))) else (some false)) else (some false))) else (some false)) else (some false)) else (some false)) else (some false)) else (some false)) else (some false)
end Go.Proofs.YtiminjibcafkaaaGreatDoor.X
end
section
-- MADE BY wip/prx.py (the kit's printer, with contracts proved by hand). Not trusted: Lean checks it.
namespace Go.Proofs.YtiminjibcafkaaaGreatDoor.X
open Go.RowKit Go.Proofs.YtiminjibcafkaaaGreatDoorW.PrintWords Go.Proofs.YtiminjibcafkaaaGreatDoorW.PrintLast Go.Proofs.YtiminjibcafkaaaGreatDoorW.PrintMore
attribute [local go_sem] max2_int min2_int max_two min_two max_three min_three max_four min_four   -- for this text's walks alone
set_option linter.unusedVariables false
set_option linter.unusedSimpArgs false
/-! ### tidingsref05_Same: function 12 -/
def tidingsref05_Same.j0 : Nat → Bool → Int → Int → Int → Int → List (S67) → List (S62) → Bool → Int → Int → Int → Int → List (S67) → Int → Int → Int → Int → Int → List (S67) → List (S62) → Bool → Int → Int → Int → Int → List (S67) → Int → Option (Bool)
 | 0,_,_,_,_,_,_,_,_,_,_,_,_,_,_,_,_,_,_,_,_,_,_,_,_,_,_,_=>none
 | k + 1,x58,x283000,x283001,x283002,x283003,x283004,x283005,x283006,x283007,x283008,x283009,x283010,x283011,x283012,x284000,x284001,x284002,x284003,x284004,x284005,x284006,x284007,x284008,x284009,x284010,x284011,x284012=>if x58 = true then (some false) else (if x283000 = x284000 then (if x283001 = x284001 then (if x283002 = x284002 then (if x283003 = x284003 then ((tidingsref01_Same.f k x283004 x284004).bind fun t287=>(if t287 = true then ((tidingsref02_Same.f k x283005 x284005).bind fun t288=>(some t288)) else (some false))) else (some false)) else (some false)) else (some false)) else (some false))
def tidingsref05_Same.f (k : Nat) (a0_0 : Int) (a0_1 : Int) (a0_2 : Int) (a0_3 : Int) (l0_4 : List (S67)) (l0_5 : List (S62)) (a0_6 : Bool) (a0_7 : Int) (a0_8 : Int) (a0_9 : Int) (a0_10 : Int) (l0_11 : List (S67)) (a0_12 : Int) (a1_0 : Int) (a1_1 : Int) (a1_2 : Int) (a1_3 : Int) (l1_4 : List (S67)) (l1_5 : List (S62)) (a1_6 : Bool) (a1_7 : Int) (a1_8 : Int) (a1_9 : Int) (a1_10 : Int) (l1_11 : List (S67)) (a1_12 : Int) : Option (Bool):=if (a0_6 != a1_6) = true then (tidingsref05_Same.j0 k true a0_0 a0_1 a0_2 a0_3 l0_4 l0_5 a0_6 a0_7 a0_8 a0_9 a0_10 l0_11 a0_12 a1_0 a1_1 a1_2 a1_3 l1_4 l1_5 a1_6 a1_7 a1_8 a1_9 a1_10 l1_11 a1_12) else (if a0_7 = a1_7 then (if a0_8 = a1_8 then (if a0_9 = a1_9 then (if a0_10 = a1_10 then (if a0_12 = a1_12 then ((tidingsref01_Same.f k l0_11 l1_11).bind fun t286=>(tidingsref05_Same.j0 k (!t286) a0_0 a0_1 a0_2 a0_3 l0_4 l0_5 a0_6 a0_7 a0_8 a0_9 a0_10 l0_11 a0_12 a1_0 a1_1 a1_2 a1_3 l1_4 l1_5 a1_6 a1_7 a1_8 a1_9 a1_10 l1_11 a1_12)) else (tidingsref05_Same.j0 k true a0_0 a0_1 a0_2 a0_3 l0_4 l0_5 a0_6 a0_7 a0_8 a0_9 a0_10 l0_11 a0_12 a1_0 a1_1 a1_2 a1_3 l1_4 l1_5 a1_6 a1_7 a1_8 a1_9 a1_10 l1_11 a1_12)) else (tidingsref05_Same.j0 k true a0_0 a0_1 a0_2 a0_3 l0_4 l0_5 a0_6 a0_7 a0_8 a0_9 a0_10 l0_11 a0_12 a1_0 a1_1 a1_2 a1_3 l1_4 l1_5 a1_6 a1_7 a1_8 a1_9 a1_10 l1_11 a1_12)) else (tidingsref05_Same.j0 k true a0_0 a0_1 a0_2 a0_3 l0_4 l0_5 a0_6 a0_7 a0_8 a0_9 a0_10 l0_11 a0_12 a1_0 a1_1 a1_2 a1_3 l1_4 l1_5 a1_6 a1_7 a1_8 a1_9 a1_10 l1_11 a1_12)) else (tidingsref05_Same.j0 k true a0_0 a0_1 a0_2 a0_3 l0_4 l0_5 a0_6 a0_7 a0_8 a0_9 a0_10 l0_11 a0_12 a1_0 a1_1 a1_2 a1_3 l1_4 l1_5 a1_6 a1_7 a1_8 a1_9 a1_10 l1_11 a1_12)) else (tidingsref05_Same.j0 k true a0_0 a0_1 a0_2 a0_3 l0_4 l0_5 a0_6 a0_7 a0_8 a0_9 a0_10 l0_11 a0_12 a1_0 a1_1 a1_2 a1_3 l1_4 l1_5 a1_6 a1_7 a1_8 a1_9 a1_10 l1_11 a1_12))
end Go.Proofs.YtiminjibcafkaaaGreatDoor.X
end
section
-- MADE BY wip/prx.py (the kit's printer, with contracts proved by hand). Not trusted: Lean checks it.
namespace Go.Proofs.YtiminjibcafkaaaGreatDoor.X
open Go.RowKit Go.Proofs.YtiminjibcafkaaaGreatDoorW.PrintWords Go.Proofs.YtiminjibcafkaaaGreatDoorW.PrintLast Go.Proofs.YtiminjibcafkaaaGreatDoorW.PrintMore
attribute [local go_sem] max2_int min2_int max_two min_two max_three min_three max_four min_four   -- for this text's walks alone
set_option linter.unusedVariables false
set_option linter.unusedSimpArgs false
/-! ### know_run: function 84 -/
def know_run.f (a0_0 : Int) (a0_1 : Int) (a0_2 : Int) : Option (Bool):=if a0_0 < 8 then (if a0_1 ≥ 1 then (some (decide (a0_1 ≤ a0_2))) else (some false)) else (some false)
set_option maxHeartbeats 8000000 in
set_option maxRecDepth 100000 in
theorem know_run.calls (a0_0 : Int) (a0_1 : Int) (a0_2 : Int) (r : Bool) (w : World) (h : know_run.f a0_0 a0_1 a0_2 = some r) :
 Calls Tryz.prog 84 #[.agg #[.int .u8 a0_0,.int .u32 a0_1,.int .u32 a0_2]] w fun e w'=>e = .returned (.bool r) ∧ Below w.heap.size w w':=by
 have hu67:=Tryz.underlying67
 have H:=Aside0.mk h
 clear h
 go_enter Tryz.func84,Tryz.ntmps84
 go_wp2
 all_goals (try go_ret)
 all_goals (have h:=H.out;clear H;simp only [know_run.f] at h)
 all_goals (refine ⟨?_,by first | ((repeat (first | exact Below.refl _ _ | refine Below.alloc ?_ (by first | exact Nat.le_refl _ | (simp;done) | (simp;omega)) _));done) | (refine below_step ?_ hx;(repeat (first | exact Below.refl _ _ | refine Below.alloc ?_ (by first | exact Nat.le_refl _ | (simp;done) | (simp;omega)) _));done)⟩)
 all_goals (first | (simp [*] at h;simp [*];done) | (simp [*] at h;simp [← h];done) | (simp [*] at h;subst h;first | rfl | (simp;done)) | (simp [*] at h ⊢;done) | (simp [*] at h;rw [← h];first | rfl | (simp [*];done)) | (simp [*] at h;simp [h];done) | ((repeat' (split at h))<;>first | (exfalso;omega) | (exfalso;simp_all;done) | (simp [*] at h;subst h;simp [*];done) | (simp [*] at h;simp [*,← h];done) | (simp [*] at h;simp [h];done) | (simp [*] at h;subst h;simp;omega) | (simp at h;subst h;simp [*];done)))
/-! ### know_apart: function 85 -/
def know_apart.f (a0_0 : Int) (a0_1 : Int) (a0_2 : Int) (a1_0 : Int) (a1_1 : Int) (a1_2 : Int) : Option (Bool):=if a0_0 < a1_0 then (some true) else (if a0_0 = a1_0 then (if a0_2 < a1_1 then (some (decide (((a0_2 + 1) % 4294967296) < a1_1))) else (some false)) else (some false))
set_option maxHeartbeats 8000000 in
set_option maxRecDepth 100000 in
theorem know_apart.calls (a0_0 : Int) (a0_1 : Int) (a0_2 : Int) (a1_0 : Int) (a1_1 : Int) (a1_2 : Int) (r : Bool) (w : World) (h : know_apart.f a0_0 a0_1 a0_2 a1_0 a1_1 a1_2 = some r) :
 Calls Tryz.prog 85 #[.agg #[.int .u8 a0_0,.int .u32 a0_1,.int .u32 a0_2],.agg #[.int .u8 a1_0,.int .u32 a1_1,.int .u32 a1_2]] w fun e w'=>e = .returned (.bool r) ∧ Below w.heap.size w w':=by
 have hu67:=Tryz.underlying67
 have H:=Aside0.mk h
 clear h
 go_enter Tryz.func85,Tryz.ntmps85
 go_wp2
 all_goals (try go_ret)
 all_goals (have h:=H.out;clear H;simp only [know_apart.f] at h)
 all_goals (refine ⟨?_,by first | ((repeat (first | exact Below.refl _ _ | refine Below.alloc ?_ (by first | exact Nat.le_refl _ | (simp;done) | (simp;omega)) _));done) | (refine below_step ?_ hx;(repeat (first | exact Below.refl _ _ | refine Below.alloc ?_ (by first | exact Nat.le_refl _ | (simp;done) | (simp;omega)) _));done)⟩)
 all_goals (first | (simp [*] at h;simp [*];done) | (simp [*] at h;simp [← h];done) | (simp [*] at h;subst h;first | rfl | (simp;done)) | (simp [*] at h ⊢;done) | (simp [*] at h;rw [← h];first | rfl | (simp [*];done)) | (simp [*] at h;simp [h];done) | ((repeat' (split at h))<;>first | (exfalso;omega) | (exfalso;simp_all;done) | (simp [*] at h;subst h;simp [*];done) | (simp [*] at h;simp [*,← h];done) | (simp [*] at h;simp [h];done) | (simp [*] at h;subst h;simp;omega) | (simp at h;subst h;simp [*];done)))
end Go.Proofs.YtiminjibcafkaaaGreatDoor.X
end
section
-- MADE BY wip/prx.py (the kit's printer, with contracts proved by hand). Not trusted: Lean checks it.
namespace Go.Proofs.YtiminjibcafkaaaGreatDoor.X
open Go.RowKit Go.Proofs.YtiminjibcafkaaaGreatDoorW.PrintWords Go.Proofs.YtiminjibcafkaaaGreatDoorW.PrintLast Go.Proofs.YtiminjibcafkaaaGreatDoorW.PrintMore
attribute [local go_sem] max2_int min2_int max_two min_two max_three min_three max_four min_four   -- for this text's walks alone
set_option linter.unusedVariables false
set_option linter.unusedSimpArgs false
/-! ### item_In: function 59 -/
def item_In.f (a0_0 : Int) (a0_1 : Int) (a0_2 : Int) (a0_3 : Int) (a0_4 : Int) (a0_5 : Int) (a0_6 : Int) (a1 : Int) : Option (Bool):=if a0_4 = 3 then (some true) else (if a0_5 < 8 then (if 0 ≤ a0_5 then (some ((Go.bits .and .u8 (shr .u8 a1 a0_5) 1) == 1)) else (none)) else (some false))
set_option maxHeartbeats 8000000 in
set_option maxRecDepth 100000 in
theorem item_In.calls (a0_0 : Int) (a0_1 : Int) (a0_2 : Int) (a0_3 : Int) (a0_4 : Int) (a0_5 : Int) (a0_6 : Int) (a1 : Int) (r : Bool) (w : World) (h : item_In.f a0_0 a0_1 a0_2 a0_3 a0_4 a0_5 a0_6 a1 = some r) :
 Calls Tryz.prog 59 #[.agg #[.int .u8 a0_0,.int .u8 a0_1,.int .u32 a0_2,.int .u32 a0_3,.int .i64 a0_4,.int .u8 a0_5,.int .u32 a0_6],.int .u8 a1] w fun e w'=>e = .returned (.bool r) ∧ Below w.heap.size w w':=by
 have hu62:=Tryz.underlying62
 have HB:=Aside0.mk (Below.refl w.heap.size w)
 have H : (if a0_4 = 3 then (some true) else (if a0_5 < 8 then (if 0 ≤ a0_5 then (some ((Go.bits .and .u8 (shr .u8 a1 a0_5) 1) == 1)) else (none)) else (some false))) = some r:=h
 clear h
 by_cases c3 : a0_4 = 3
 ·rw [if_pos c3] at H
  have c3b0 : (a0_4 == 3) = true:=beq_iff_eq.mpr c3
  have c3b1 : (a0_4 != 3) = false:=bne_eq_false_iff_eq.mpr c3
  clear c3
  obtain rfl:=Option.some.inj H
  go_enter Tryz.func59,Tryz.ntmps59
  go_wp2_with (first | ((with_reducible refine gate_dst (N:=2) rfl ?_);refine box_event ?hg (N:=2) ?hd (cs:=#[.int .u8 a0_0,.int .u8 a0_1,.int .u32 a0_2,.int .u32 a0_3,.int .i64 a0_4,.int .u8 a0_5,.int .u32 a0_6]) (t:=62) ?hr ?_;(case hd=>rfl);(case hg=>rfl);(case hr=>first | (go_simp;done) | (go_simp;rfl));intro gb121 hg w4 hbox hb;have n0_:=Aside0.mk (below_step (by repeat (first | (with_reducible first | exact HB.out | apply below_alloc | apply pw_below_drewN | apply below_drew1) | exact HB.out)) hb);have n1_:=Aside0.mk (hbox);have n2_:=Aside0.mk ((by rw [hg];exact (below_size (by repeat (first | (with_reducible first | exact HB.out | apply below_alloc | apply pw_below_drewN | apply below_drew1) | exact HB.out))) : w.heap.size ≤ gb121));have n3_:=Aside0.mk ((by rw [hg];exact (below_size (by repeat (first | (with_reducible first | exact HB.out | apply below_alloc | apply pw_below_drewN | apply below_drew1) | exact HB.out))) : w.heap.size ≤ gb121));clear HB;have HB:=n0_;have BK121:=n1_;have GW121:=n2_;have GE121:=n3_;clear n0_ n1_ n2_ n3_;clear hb hbox hg;have hcz5_0 : w4.cell? ⟨gb121,0,none⟩ = some (.int .u8 a0_0):=(blk_cell BK121.out 0).trans rfl;have hcz5_1 : w4.cell? ⟨gb121,1,none⟩ = some (.int .u8 a0_1):=(blk_cell BK121.out 1).trans rfl;have hcz5_2 : w4.cell? ⟨gb121,2,none⟩ = some (.int .u32 a0_2):=(blk_cell BK121.out 2).trans rfl;have hcz5_3 : w4.cell? ⟨gb121,3,none⟩ = some (.int .u32 a0_3):=(blk_cell BK121.out 3).trans rfl;have hcz5_4 : w4.cell? ⟨gb121,4,none⟩ = some (.int .i64 a0_4):=(blk_cell BK121.out 4).trans rfl;have hcz5_5 : w4.cell? ⟨gb121,5,none⟩ = some (.int .u8 a0_5):=(blk_cell BK121.out 5).trans rfl;have hcz5_6 : w4.cell? ⟨gb121,6,none⟩ = some (.int .u32 a0_6):=(blk_cell BK121.out 6).trans rfl;have hfz5_0:=blk_frozen BK121.out 0;have hfz5_1:=blk_frozen BK121.out 1;have hfz5_2:=blk_frozen BK121.out 2;have hfz5_3:=blk_frozen BK121.out 3;have hfz5_4:=blk_frozen BK121.out 4;have hfz5_5:=blk_frozen BK121.out 5;have hfz5_6:=blk_frozen BK121.out 6))
  go_ret
  exact ⟨by first | rfl | (simp [errW_none,errW_some]<;>rfl) | (simp [*,errW_none,errW_some]<;>rfl),by repeat (first | (with_reducible first | exact HB.out | apply below_alloc | apply pw_below_drewN | apply below_drew1 | refine below_set ?_ GE121.out) | exact HB.out)⟩
 ·rw [if_neg c3] at H
  have c3b0 : (a0_4 == 3) = false:=beq_eq_false_iff_ne.mpr c3
  have c3b1 : (a0_4 != 3) = true:=bne_iff_ne.mpr c3
  by_cases c6 : a0_5 < 8
  ·rw [if_pos c6] at H
   have c6b0 : decide (a0_5 < 8) = true:=decide_eq_true c6
   clear c6
   by_cases c7 : 0 ≤ a0_5
   ·rw [if_pos c7] at H
    have c7b0:=eq_true c7
    have c7b1 : decide (0 ≤ a0_5) = true:=decide_eq_true c7
    clear c7
    obtain ⟨ji8,hji8⟩ : ∃ j_ : Int,(shr .u8 a1 a0_5) = j_:=⟨_,rfl⟩
    replace H : (some ((Go.bits .and .u8 (ji8) 1) == 1)) = some r:=by first | (rw [hji8] at H;exact H) | (simp only [hji8] at H ⊢;exact H)
    have hji8_ : (a1 / 2 ^ min a0_5.toNat 8) = ji8:=hji8
    have hji8z : a0_5 ≤ 8 → (a1 / 2 ^ a0_5.toNat) = ji8:=shr_small hji8
    obtain rfl:=Option.some.inj H
    go_enter Tryz.func59,Tryz.ntmps59
    go_wp2_with (first | ((with_reducible refine gate_dst (N:=2) rfl ?_);refine box_event ?hg (N:=2) ?hd (cs:=#[.int .u8 a0_0,.int .u8 a0_1,.int .u32 a0_2,.int .u32 a0_3,.int .i64 a0_4,.int .u8 a0_5,.int .u32 a0_6]) (t:=62) ?hr ?_;(case hd=>rfl);(case hg=>rfl);(case hr=>first | (go_simp;done) | (go_simp;rfl));intro gb121 hg w9 hbox hb;have n0_:=Aside0.mk (below_step (by repeat (first | (with_reducible first | exact HB.out | apply below_alloc | apply pw_below_drewN | apply below_drew1) | exact HB.out)) hb);have n1_:=Aside0.mk (hbox);have n2_:=Aside0.mk ((by rw [hg];exact (below_size (by repeat (first | (with_reducible first | exact HB.out | apply below_alloc | apply pw_below_drewN | apply below_drew1) | exact HB.out))) : w.heap.size ≤ gb121));have n3_:=Aside0.mk ((by rw [hg];exact (below_size (by repeat (first | (with_reducible first | exact HB.out | apply below_alloc | apply pw_below_drewN | apply below_drew1) | exact HB.out))) : w.heap.size ≤ gb121));clear HB;have HB:=n0_;have BK121:=n1_;have GW121:=n2_;have GE121:=n3_;clear n0_ n1_ n2_ n3_;clear hb hbox hg;have hcz10_0 : w9.cell? ⟨gb121,0,none⟩ = some (.int .u8 a0_0):=(blk_cell BK121.out 0).trans rfl;have hcz10_1 : w9.cell? ⟨gb121,1,none⟩ = some (.int .u8 a0_1):=(blk_cell BK121.out 1).trans rfl;have hcz10_2 : w9.cell? ⟨gb121,2,none⟩ = some (.int .u32 a0_2):=(blk_cell BK121.out 2).trans rfl;have hcz10_3 : w9.cell? ⟨gb121,3,none⟩ = some (.int .u32 a0_3):=(blk_cell BK121.out 3).trans rfl;have hcz10_4 : w9.cell? ⟨gb121,4,none⟩ = some (.int .i64 a0_4):=(blk_cell BK121.out 4).trans rfl;have hcz10_5 : w9.cell? ⟨gb121,5,none⟩ = some (.int .u8 a0_5):=(blk_cell BK121.out 5).trans rfl;have hcz10_6 : w9.cell? ⟨gb121,6,none⟩ = some (.int .u32 a0_6):=(blk_cell BK121.out 6).trans rfl;have hfz10_0:=blk_frozen BK121.out 0;have hfz10_1:=blk_frozen BK121.out 1;have hfz10_2:=blk_frozen BK121.out 2;have hfz10_3:=blk_frozen BK121.out 3;have hfz10_4:=blk_frozen BK121.out 4;have hfz10_5:=blk_frozen BK121.out 5;have hfz10_6:=blk_frozen BK121.out 6))
    go_ret
    exact ⟨by first | rfl | (simp [errW_none,errW_some]<;>rfl) | (simp only [← hji8];first | rfl | (simp [errW_none,errW_some]<;>rfl)) | (simp [*,errW_none,errW_some]<;>rfl),by repeat (first | (with_reducible first | exact HB.out | apply below_alloc | apply pw_below_drewN | apply below_drew1 | refine below_set ?_ GE121.out) | exact HB.out)⟩
   ·rw [if_neg c7] at H
    exact absurd H (by simp)
  ·rw [if_neg c6] at H
   have c6b0 : decide (a0_5 < 8) = false:=decide_eq_false c6
   clear c6
   obtain rfl:=Option.some.inj H
   go_enter Tryz.func59,Tryz.ntmps59
   go_wp2_with (first | ((with_reducible refine gate_dst (N:=2) rfl ?_);refine box_event ?hg (N:=2) ?hd (cs:=#[.int .u8 a0_0,.int .u8 a0_1,.int .u32 a0_2,.int .u32 a0_3,.int .i64 a0_4,.int .u8 a0_5,.int .u32 a0_6]) (t:=62) ?hr ?_;(case hd=>rfl);(case hg=>rfl);(case hr=>first | (go_simp;done) | (go_simp;rfl));intro gb121 hg w11 hbox hb;have n0_:=Aside0.mk (below_step (by repeat (first | (with_reducible first | exact HB.out | apply below_alloc | apply pw_below_drewN | apply below_drew1) | exact HB.out)) hb);have n1_:=Aside0.mk (hbox);have n2_:=Aside0.mk ((by rw [hg];exact (below_size (by repeat (first | (with_reducible first | exact HB.out | apply below_alloc | apply pw_below_drewN | apply below_drew1) | exact HB.out))) : w.heap.size ≤ gb121));have n3_:=Aside0.mk ((by rw [hg];exact (below_size (by repeat (first | (with_reducible first | exact HB.out | apply below_alloc | apply pw_below_drewN | apply below_drew1) | exact HB.out))) : w.heap.size ≤ gb121));clear HB;have HB:=n0_;have BK121:=n1_;have GW121:=n2_;have GE121:=n3_;clear n0_ n1_ n2_ n3_;clear hb hbox hg;have hcz12_0 : w11.cell? ⟨gb121,0,none⟩ = some (.int .u8 a0_0):=(blk_cell BK121.out 0).trans rfl;have hcz12_1 : w11.cell? ⟨gb121,1,none⟩ = some (.int .u8 a0_1):=(blk_cell BK121.out 1).trans rfl;have hcz12_2 : w11.cell? ⟨gb121,2,none⟩ = some (.int .u32 a0_2):=(blk_cell BK121.out 2).trans rfl;have hcz12_3 : w11.cell? ⟨gb121,3,none⟩ = some (.int .u32 a0_3):=(blk_cell BK121.out 3).trans rfl;have hcz12_4 : w11.cell? ⟨gb121,4,none⟩ = some (.int .i64 a0_4):=(blk_cell BK121.out 4).trans rfl;have hcz12_5 : w11.cell? ⟨gb121,5,none⟩ = some (.int .u8 a0_5):=(blk_cell BK121.out 5).trans rfl;have hcz12_6 : w11.cell? ⟨gb121,6,none⟩ = some (.int .u32 a0_6):=(blk_cell BK121.out 6).trans rfl;have hfz12_0:=blk_frozen BK121.out 0;have hfz12_1:=blk_frozen BK121.out 1;have hfz12_2:=blk_frozen BK121.out 2;have hfz12_3:=blk_frozen BK121.out 3;have hfz12_4:=blk_frozen BK121.out 4;have hfz12_5:=blk_frozen BK121.out 5;have hfz12_6:=blk_frozen BK121.out 6))
   go_ret
   exact ⟨by first | rfl | (simp [errW_none,errW_some]<;>rfl) | (simp [*,errW_none,errW_some]<;>rfl),by repeat (first | (with_reducible first | exact HB.out | apply below_alloc | apply pw_below_drewN | apply below_drew1 | refine below_set ?_ GE121.out) | exact HB.out)⟩
end Go.Proofs.YtiminjibcafkaaaGreatDoor.X
end
