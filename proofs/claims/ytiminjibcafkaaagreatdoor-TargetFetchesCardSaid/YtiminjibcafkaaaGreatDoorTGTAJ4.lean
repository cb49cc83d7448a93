/- Texts that this claim's law comes to, joined by wip/slim.py: X0, X1, X4, X9, X14, X2. -/
import Derived.Test.YtiminjibcafkaaaGreatDoorProg
import Derived.Below
import Derived.Deep.Draws
import Derived.Deep.AppendLies
import Derived.Maps.AppendAt
import Derived.OwnWalk
import Derived.Laws.BytesArg
import Derived.Laws.MakeOwn
import Derived.Laws.OwnMore
import Derived.Deep.OwnRows
import Derived.Tactics
import Derived.Lib.ConvBytes
import Derived.Laws.Slices
import Derived.WalkKit
import Derived.KernelRfl
import Derived.RowKit3
import Derived.Deep.LoopGhost
import Derived.Deep.QuietTactic
import Derived.BigQuiet
import Derived.WideLaws
import Derived.Deep.DeepCutAuto
import Derived.Deep.CutBlock
import Derived.Deep.RegionHeld3
import Derived.Laws.Rows
import Derived.Lib.AppendStr
import Derived.ArgAppend
import Derived.Laws.IdiomCopy
import Derived.OrdersHeld
import Derived.Laws.BitsLemmas
import Derived.RowKit
import Derived.Test.YtiminjibcafkaaaGreatDoorTGTAWWords
import Derived.Test.YtiminjibcafkaaaGreatDoorTGTAWLast
import Derived.Test.YtiminjibcafkaaaGreatDoorTGTAJ3
import Derived.Test.YtiminjibcafkaaaGreatDoorTGTAJ1
set_option linter.unusedSimpArgs false
set_option linter.unusedVariables false
section
namespace Go.Proofs.YtiminjibcafkaaaGreatDoor.X
open RowKit YtiminjibcafkaaaGreatDoorW.PrintWords YtiminjibcafkaaaGreatDoorW.PrintLast YtiminjibcafkaaaGreatDoorW.PrintMore
attribute [local go_sem] max2_int min2_int max_two min_two max_three min_three max_four min_four
def errW : Option Int → Value
 | none=>.nilIface
 | some c=>.iface 70 (.int .i64 c)
theorem errW_none : errW none = .nilIface:=rfl
theorem errW_some (c : Int) : errW (some c) = .iface 70 (.int .i64 c):=rfl
theorem info62 : (Tryz.prog.info? 62).map (fun i=>(i.zero,i.size,i.bytes)) = some (some (.agg #[(.int .u8 0),(.int .u8 0),(.int .u32 0),(.int .u32 0),(.int .i64 0),(.int .u8 0),(.int .u32 0)]),7,32):=by kernel_rfl
theorem info67 : (Tryz.prog.info? 67).map (fun i=>(i.zero,i.size,i.bytes)) = some (some (.agg #[(.int .u8 0),(.int .u32 0),(.int .u32 0)]),3,12):=by kernel_rfl
structure S67 where
 f0 : Int
 f1 : Int
 f2 : Int
def z67 : S67:=⟨(0 : Int),(0 : Int),(0 : Int)⟩
def k67 : Kd S67:=Kd.iso (Kd.pair (Kd.int .u8) (Kd.pair (Kd.int .u32) (Kd.int .u32))) (fun x : S67=>(x.f0,x.f1,x.f2))
theorem k67_open {w : World} {x : S67} {cs : List Value} (h : k67.K w x cs) : cs = [.int .u8 x.f0,.int .u32 x.f1,.int .u32 x.f2]:=by
 obtain ⟨_,_,rfl,rfl,⟨_,_,rfl,rfl,rfl⟩⟩:=h;exact rfl
theorem k67_openM {w : World} {base : Nat} {ok : Nat → Prop} {x : S67} {cs : List Value} (h : k67.M w base ok x cs) : cs = [.int .u8 x.f0,.int .u32 x.f1,.int .u32 x.f2]:=by
 obtain ⟨_,_,rfl,rfl,⟨_,_,rfl,rfl,rfl⟩⟩:=h;exact rfl
theorem k67_mk (w : World) (x : S67)  : k67.K w x [.int .u8 x.f0,.int .u32 x.f1,.int .u32 x.f2]:=⟨[.int .u8 x.f0],[.int .u32 x.f1,.int .u32 x.f2],rfl,rfl,⟨[.int .u32 x.f1],[.int .u32 x.f2],rfl,rfl,rfl⟩⟩
theorem k67_mkM (w : World) (base : Nat) (ok : Nat → Prop) (x : S67)  : k67.M w base ok x [.int .u8 x.f0,.int .u32 x.f1,.int .u32 x.f2]:=⟨[.int .u8 x.f0],[.int .u32 x.f1,.int .u32 x.f2],rfl,rfl,⟨[.int .u32 x.f1],[.int .u32 x.f2],rfl,rfl,rfl⟩⟩
def rd_T67 (xs : List S67) (i : Int) : S67:=xs.getD i.toNat z67
theorem at_T67 {w : World} {A : Option Addr} {n : Nat} {xs : List S67} (h : Kd.C k67 w A n xs) (i : Int) (h0 : 0 ≤ i) (h1 : i < n) : ∃ ad ,A = some ad ∧ w.cell? (ad.add (i.toNat * 3)) = some (.int .u8 (rd_T67 xs i).f0) ∧ w.cell? ⟨(ad.add (i.toNat * 3)).block,(ad.add (i.toNat * 3)).off + 1,none⟩ = some (.int .u32 (rd_T67 xs i).f1) ∧ w.cell? ⟨(ad.add (i.toNat * 3)).block,(ad.add (i.toNat * 3)).off + 2,none⟩ = some (.int .u32 (rd_T67 xs i).f2):=by
 obtain ⟨ad,c,e,_,hK,hc0⟩:=Kd.C_get h z67 i h0 h1;have hc : ∀ j u,c[j]? = some u → w.cell? (ad.add (i.toNat * 3 + j)) = some u:=hc0;obtain rfl:=k67_open hK;exact ⟨ad,e,hc 0 _ rfl,by rw [← add_field _ _ 1 (by omega)];exact hc 1 _ rfl,by rw [← add_field _ _ 2 (by omega)];exact hc 2 _ rfl⟩
structure S60 where
 f0 : Int
 f1 : Int
 f2 : Int
def z60 : S60:=⟨(0 : Int),(0 : Int),(0 : Int)⟩
def k60 : Kd S60:=Kd.iso (Kd.pair (Kd.int .u8) (Kd.pair (Kd.int .u32) (Kd.int .u32))) (fun x : S60=>(x.f0,x.f1,x.f2))
theorem k60_open {w : World} {x : S60} {cs : List Value} (h : k60.K w x cs) : cs = [.int .u8 x.f0,.int .u32 x.f1,.int .u32 x.f2]:=by
 obtain ⟨_,_,rfl,rfl,⟨_,_,rfl,rfl,rfl⟩⟩:=h;exact rfl
theorem k60_openM {w : World} {base : Nat} {ok : Nat → Prop} {x : S60} {cs : List Value} (h : k60.M w base ok x cs) : cs = [.int .u8 x.f0,.int .u32 x.f1,.int .u32 x.f2]:=by
 obtain ⟨_,_,rfl,rfl,⟨_,_,rfl,rfl,rfl⟩⟩:=h;exact rfl
theorem k60_mk (w : World) (x : S60)  : k60.K w x [.int .u8 x.f0,.int .u32 x.f1,.int .u32 x.f2]:=⟨[.int .u8 x.f0],[.int .u32 x.f1,.int .u32 x.f2],rfl,rfl,⟨[.int .u32 x.f1],[.int .u32 x.f2],rfl,rfl,rfl⟩⟩
theorem k60_mkM (w : World) (base : Nat) (ok : Nat → Prop) (x : S60)  : k60.M w base ok x [.int .u8 x.f0,.int .u32 x.f1,.int .u32 x.f2]:=⟨[.int .u8 x.f0],[.int .u32 x.f1,.int .u32 x.f2],rfl,rfl,⟨[.int .u32 x.f1],[.int .u32 x.f2],rfl,rfl,rfl⟩⟩
structure S62 where
 f0 : Int
 f1 : S60
 f2 : Int
 f3 : Int
 f4 : Int
def z62 : S62:=⟨(0 : Int),z60,(0 : Int),(0 : Int),(0 : Int)⟩
def k62 : Kd S62:=Kd.iso (Kd.pair (Kd.int .u8) (Kd.pair k60 (Kd.pair (Kd.int .i64) (Kd.pair (Kd.int .u8) (Kd.int .u32))))) (fun x : S62=>(x.f0,x.f1,x.f2,x.f3,x.f4))
theorem k62_open {w : World} {x : S62} {cs : List Value} (h : k62.K w x cs) : cs = [.int .u8 x.f0,.int .u8 x.f1.f0,.int .u32 x.f1.f1,.int .u32 x.f1.f2,.int .i64 x.f2,.int .u8 x.f3,.int .u32 x.f4]:=by
 obtain ⟨_,_,rfl,rfl,⟨_,_,rfl,s1,⟨_,_,rfl,rfl,⟨_,_,rfl,rfl,rfl⟩⟩⟩⟩:=h;obtain rfl:=k60_open s1;exact rfl
theorem k62_openM {w : World} {base : Nat} {ok : Nat → Prop} {x : S62} {cs : List Value} (h : k62.M w base ok x cs) : cs = [.int .u8 x.f0,.int .u8 x.f1.f0,.int .u32 x.f1.f1,.int .u32 x.f1.f2,.int .i64 x.f2,.int .u8 x.f3,.int .u32 x.f4]:=by
 obtain ⟨_,_,rfl,rfl,⟨_,_,rfl,s1,⟨_,_,rfl,rfl,⟨_,_,rfl,rfl,rfl⟩⟩⟩⟩:=h;obtain rfl:=k60_openM s1;exact rfl
theorem k62_mk (w : World) (x : S62)  : k62.K w x [.int .u8 x.f0,.int .u8 x.f1.f0,.int .u32 x.f1.f1,.int .u32 x.f1.f2,.int .i64 x.f2,.int .u8 x.f3,.int .u32 x.f4]:=⟨[.int .u8 x.f0],[.int .u8 x.f1.f0,.int .u32 x.f1.f1,.int .u32 x.f1.f2,.int .i64 x.f2,.int .u8 x.f3,.int .u32 x.f4],rfl,rfl,⟨[.int .u8 x.f1.f0,.int .u32 x.f1.f1,.int .u32 x.f1.f2],[.int .i64 x.f2,.int .u8 x.f3,.int .u32 x.f4],rfl,(k60_mk w x.f1 ),⟨[.int .i64 x.f2],[.int .u8 x.f3,.int .u32 x.f4],rfl,rfl,⟨[.int .u8 x.f3],[.int .u32 x.f4],rfl,rfl,rfl⟩⟩⟩⟩
theorem k62_mkM (w : World) (base : Nat) (ok : Nat → Prop) (x : S62)  : k62.M w base ok x [.int .u8 x.f0,.int .u8 x.f1.f0,.int .u32 x.f1.f1,.int .u32 x.f1.f2,.int .i64 x.f2,.int .u8 x.f3,.int .u32 x.f4]:=⟨[.int .u8 x.f0],[.int .u8 x.f1.f0,.int .u32 x.f1.f1,.int .u32 x.f1.f2,.int .i64 x.f2,.int .u8 x.f3,.int .u32 x.f4],rfl,rfl,⟨[.int .u8 x.f1.f0,.int .u32 x.f1.f1,.int .u32 x.f1.f2],[.int .i64 x.f2,.int .u8 x.f3,.int .u32 x.f4],rfl,(k60_mkM w base ok x.f1 ),⟨[.int .i64 x.f2],[.int .u8 x.f3,.int .u32 x.f4],rfl,rfl,⟨[.int .u8 x.f3],[.int .u32 x.f4],rfl,rfl,rfl⟩⟩⟩⟩
def rd_T62 (xs : List S62) (i : Int) : S62:=xs.getD i.toNat z62
theorem at_T62 {w : World} {A : Option Addr} {n : Nat} {xs : List S62} (h : Kd.C k62 w A n xs) (i : Int) (h0 : 0 ≤ i) (h1 : i < n) : ∃ ad ,A = some ad ∧ w.cell? (ad.add (i.toNat * 7)) = some (.int .u8 (rd_T62 xs i).f0) ∧ w.cell? ⟨(ad.add (i.toNat * 7)).block,(ad.add (i.toNat * 7)).off + 1,none⟩ = some (.int .u8 (rd_T62 xs i).f1.f0) ∧ w.cell? ⟨(ad.add (i.toNat * 7)).block,(ad.add (i.toNat * 7)).off + 2,none⟩ = some (.int .u32 (rd_T62 xs i).f1.f1) ∧ w.cell? ⟨(ad.add (i.toNat * 7)).block,(ad.add (i.toNat * 7)).off + 3,none⟩ = some (.int .u32 (rd_T62 xs i).f1.f2) ∧ w.cell? ⟨(ad.add (i.toNat * 7)).block,(ad.add (i.toNat * 7)).off + 4,none⟩ = some (.int .i64 (rd_T62 xs i).f2) ∧ w.cell? ⟨(ad.add (i.toNat * 7)).block,(ad.add (i.toNat * 7)).off + 5,none⟩ = some (.int .u8 (rd_T62 xs i).f3) ∧ w.cell? ⟨(ad.add (i.toNat * 7)).block,(ad.add (i.toNat * 7)).off + 6,none⟩ = some (.int .u32 (rd_T62 xs i).f4):=by
 obtain ⟨ad,c,e,_,hK,hc0⟩:=Kd.C_get h z62 i h0 h1;have hc : ∀ j u,c[j]? = some u → w.cell? (ad.add (i.toNat * 7 + j)) = some u:=hc0;obtain rfl:=k62_open hK;exact ⟨ad,e,hc 0 _ rfl,by rw [← add_field _ _ 1 (by omega)];exact hc 1 _ rfl,by rw [← add_field _ _ 2 (by omega)];exact hc 2 _ rfl,by rw [← add_field _ _ 3 (by omega)];exact hc 3 _ rfl,by rw [← add_field _ _ 4 (by omega)];exact hc 4 _ rfl,by rw [← add_field _ _ 5 (by omega)];exact hc 5 _ rfl,by rw [← add_field _ _ 6 (by omega)];exact hc 6 _ rfl⟩
structure S26 where
 f0 : Bool
 f1 : Int
 f2 : Int
 f3 : Int
 f4 : Int
 f5 : (List S67)
 f6 : Int
def k26 : Kd S26:=Kd.iso (Kd.pair Kd.bool (Kd.pair (Kd.int .u32) (Kd.pair (Kd.int .u8) (Kd.pair (Kd.int .u8) (Kd.pair (Kd.int .u32) (Kd.pair (Kd.slice 67 k67) (Kd.int .u32))))))) (fun x : S26=>(x.f0,x.f1,x.f2,x.f3,x.f4,x.f5,x.f6))
theorem k26_open {w : World} {x : S26} {cs : List Value} (h : k26.K w x cs) : ∃ A5 c5,cs = [.bool x.f0,.int .u32 x.f1,.int .u8 x.f2,.int .u8 x.f3,.int .u32 x.f4,.slice A5 x.f5.length c5,.int .u32 x.f6] ∧ x.f5.length ≤ c5 ∧ k67.C w A5 x.f5.length x.f5:=by
 obtain ⟨_,_,rfl,rfl,⟨_,_,rfl,rfl,⟨_,_,rfl,rfl,⟨_,_,rfl,rfl,⟨_,_,rfl,rfl,⟨_,_,rfl,⟨A5,c5,rfl,l5,g5⟩,rfl⟩⟩⟩⟩⟩⟩:=h;exact ⟨A5,c5,rfl,l5,g5⟩
theorem k26_mk (w : World) (x : S26) {A5 : Option Addr} {c5 : Nat} (l5 : x.f5.length ≤ c5) (g5 : k67.C w A5 x.f5.length x.f5) : k26.K w x [.bool x.f0,.int .u32 x.f1,.int .u8 x.f2,.int .u8 x.f3,.int .u32 x.f4,.slice A5 x.f5.length c5,.int .u32 x.f6]:=⟨[.bool x.f0],[.int .u32 x.f1,.int .u8 x.f2,.int .u8 x.f3,.int .u32 x.f4,.slice A5 x.f5.length c5,.int .u32 x.f6],rfl,rfl,⟨[.int .u32 x.f1],[.int .u8 x.f2,.int .u8 x.f3,.int .u32 x.f4,.slice A5 x.f5.length c5,.int .u32 x.f6],rfl,rfl,⟨[.int .u8 x.f2],[.int .u8 x.f3,.int .u32 x.f4,.slice A5 x.f5.length c5,.int .u32 x.f6],rfl,rfl,⟨[.int .u8 x.f3],[.int .u32 x.f4,.slice A5 x.f5.length c5,.int .u32 x.f6],rfl,rfl,⟨[.int .u32 x.f4],[.slice A5 x.f5.length c5,.int .u32 x.f6],rfl,rfl,⟨[.slice A5 x.f5.length c5],[.int .u32 x.f6],rfl,⟨A5,c5,rfl,l5,g5⟩,rfl⟩⟩⟩⟩⟩⟩
structure S28 where
 f0 : Int
 f1 : Int
 f2 : Int
 f3 : Int
 f4 : (List S67)
 f5 : (List S62)
 f6 : S26
def k28 : Kd S28:=Kd.iso (Kd.pair (Kd.int .u8) (Kd.pair (Kd.int .u8) (Kd.pair (Kd.int .u32) (Kd.pair (Kd.int .u32) (Kd.pair (Kd.slice 67 k67) (Kd.pair (Kd.slice 62 k62) k26)))))) (fun x : S28=>(x.f0,x.f1,x.f2,x.f3,x.f4,x.f5,x.f6))
theorem k28_open {w : World} {x : S28} {cs : List Value} (h : k28.K w x cs) : ∃ A4 c4 A5 c5 A11 c11,cs = [.int .u8 x.f0,.int .u8 x.f1,.int .u32 x.f2,.int .u32 x.f3,.slice A4 x.f4.length c4,.slice A5 x.f5.length c5,.bool x.f6.f0,.int .u32 x.f6.f1,.int .u8 x.f6.f2,.int .u8 x.f6.f3,.int .u32 x.f6.f4,.slice A11 x.f6.f5.length c11,.int .u32 x.f6.f6] ∧ x.f4.length ≤ c4 ∧ k67.C w A4 x.f4.length x.f4 ∧ x.f5.length ≤ c5 ∧ k62.C w A5 x.f5.length x.f5 ∧ x.f6.f5.length ≤ c11 ∧ k67.C w A11 x.f6.f5.length x.f6.f5:=by
 obtain ⟨_,_,rfl,rfl,⟨_,_,rfl,rfl,⟨_,_,rfl,rfl,⟨_,_,rfl,rfl,⟨_,_,rfl,⟨A4,c4,rfl,l4,g4⟩,⟨_,_,rfl,⟨A5,c5,rfl,l5,g5⟩,s6⟩⟩⟩⟩⟩⟩:=h;obtain ⟨A11,c11,rfl,l11,g11⟩:=k26_open s6;exact ⟨A4,c4,A5,c5,A11,c11,rfl,l4,g4,l5,g5,l11,g11⟩
theorem k28_mk (w : World) (x : S28) {A4 : Option Addr} {c4 : Nat} (l4 : x.f4.length ≤ c4) (g4 : k67.C w A4 x.f4.length x.f4) {A5 : Option Addr} {c5 : Nat} (l5 : x.f5.length ≤ c5) (g5 : k62.C w A5 x.f5.length x.f5) {A11 : Option Addr} {c11 : Nat} (l11 : x.f6.f5.length ≤ c11) (g11 : k67.C w A11 x.f6.f5.length x.f6.f5) : k28.K w x [.int .u8 x.f0,.int .u8 x.f1,.int .u32 x.f2,.int .u32 x.f3,.slice A4 x.f4.length c4,.slice A5 x.f5.length c5,.bool x.f6.f0,.int .u32 x.f6.f1,.int .u8 x.f6.f2,.int .u8 x.f6.f3,.int .u32 x.f6.f4,.slice A11 x.f6.f5.length c11,.int .u32 x.f6.f6]:=⟨[.int .u8 x.f0],[.int .u8 x.f1,.int .u32 x.f2,.int .u32 x.f3,.slice A4 x.f4.length c4,.slice A5 x.f5.length c5,.bool x.f6.f0,.int .u32 x.f6.f1,.int .u8 x.f6.f2,.int .u8 x.f6.f3,.int .u32 x.f6.f4,.slice A11 x.f6.f5.length c11,.int .u32 x.f6.f6],rfl,rfl,⟨[.int .u8 x.f1],[.int .u32 x.f2,.int .u32 x.f3,.slice A4 x.f4.length c4,.slice A5 x.f5.length c5,.bool x.f6.f0,.int .u32 x.f6.f1,.int .u8 x.f6.f2,.int .u8 x.f6.f3,.int .u32 x.f6.f4,.slice A11 x.f6.f5.length c11,.int .u32 x.f6.f6],rfl,rfl,⟨[.int .u32 x.f2],[.int .u32 x.f3,.slice A4 x.f4.length c4,.slice A5 x.f5.length c5,.bool x.f6.f0,.int .u32 x.f6.f1,.int .u8 x.f6.f2,.int .u8 x.f6.f3,.int .u32 x.f6.f4,.slice A11 x.f6.f5.length c11,.int .u32 x.f6.f6],rfl,rfl,⟨[.int .u32 x.f3],[.slice A4 x.f4.length c4,.slice A5 x.f5.length c5,.bool x.f6.f0,.int .u32 x.f6.f1,.int .u8 x.f6.f2,.int .u8 x.f6.f3,.int .u32 x.f6.f4,.slice A11 x.f6.f5.length c11,.int .u32 x.f6.f6],rfl,rfl,⟨[.slice A4 x.f4.length c4],[.slice A5 x.f5.length c5,.bool x.f6.f0,.int .u32 x.f6.f1,.int .u8 x.f6.f2,.int .u8 x.f6.f3,.int .u32 x.f6.f4,.slice A11 x.f6.f5.length c11,.int .u32 x.f6.f6],rfl,⟨A4,c4,rfl,l4,g4⟩,⟨[.slice A5 x.f5.length c5],[.bool x.f6.f0,.int .u32 x.f6.f1,.int .u8 x.f6.f2,.int .u8 x.f6.f3,.int .u32 x.f6.f4,.slice A11 x.f6.f5.length c11,.int .u32 x.f6.f6],rfl,⟨A5,c5,rfl,l5,g5⟩,(k26_mk w x.f6 l11 g11)⟩⟩⟩⟩⟩⟩
theorem eqA60 (d : Nat) (w : World) (x0 y0 : Int) (x1 y1 : Int) (x2 y2 : Int) :
 (Op.equalIn (d + 2) 60 (.agg #[.int .u8 x0,.int .u32 x1,.int .u32 x2]) (.agg #[.int .u8 y0,.int .u32 y1,.int .u32 y2])).run Tryz.prog w = .ok (x0 == y0 && (x1 == y1 && (x2 == y2))) w:=by
 refine eqA_of Tryz.underlying60 (by kernel_rfl) ?_;refine eqf_cons (by rfl) (by go_simp;rfl) (by go_simp;rfl) (by go_simp) ?_;refine eqf_cons (by rfl) (by go_simp;rfl) (by go_simp;rfl) (by go_simp) ?_;exact eqf_last (by rfl) (by go_simp;rfl) (by go_simp;rfl) (by go_simp)
def know_run.f (a0_0 : Int) (a0_1 : Int) (a0_2 : Int) : Option (Bool):=if a0_0 < 8 then (if a0_1 ≥ 1 then (some (decide (a0_1 ≤ a0_2))) else (some false)) else (some false)
set_option maxHeartbeats 8000000 in
set_option maxRecDepth 100000 in
theorem know_run.calls (a0_0 : Int) (a0_1 : Int) (a0_2 : Int) (r : Bool) (w : World) (h : know_run.f a0_0 a0_1 a0_2 = some r) :
 Calls Tryz.prog 84 #[.agg #[.int .u8 a0_0,.int .u32 a0_1,.int .u32 a0_2]] w fun e w'=>e = .returned (.bool r) ∧ Below w.heap.size w w':=by
 have hu67:=Tryz.underlying67;have H:=zA h;clear h;go_enter Tryz.func84,Tryz.ntmps84;go_wp2
 all_goals (try go_ret)
 all_goals (have h:=H.out;clear H;simp only [know_run.f] at h)
 all_goals (refine ⟨?_,by first | ((repeat (first | exact zS _ _ | refine Below.alloc ?_ (by first | exact zM _ | (simp;done) | (simp;omega)) _));done) | (refine zG ?_ hx;(repeat (first | exact zS _ _ | refine Below.alloc ?_ (by first | exact zM _ | (simp;done) | (simp;omega)) _));done)⟩)
 all_goals (first | (simp [*] at h;simp [*];done) | (simp [*] at h;simp [← h];done) | (simp [*] at h;subst h;first | rfl | (simp;done)) | (simp [*] at h ⊢;done) | (simp [*] at h;rw [← h];first | rfl | (simp [*];done)) | (simp [*] at h;simp [h];done) | ((repeat' (split at h))<;>first | (exfalso;omega) | (exfalso;simp_all;done) | (simp [*] at h;subst h;simp [*];done) | (simp [*] at h;simp [*,← h];done) | (simp [*] at h;simp [h];done) | (simp [*] at h;subst h;simp;omega) | (simp at h;subst h;simp [*];done)))
def know_apart.f (a0_0 : Int) (a0_1 : Int) (a0_2 : Int) (a1_0 : Int) (a1_1 : Int) (a1_2 : Int) : Option (Bool):=if a0_0 < a1_0 then (some true) else (if a0_0 = a1_0 then (if a0_2 < a1_1 then (some (decide (((a0_2 + 1) % 4294967296) < a1_1))) else (some false)) else (some false))
set_option maxHeartbeats 8000000 in
set_option maxRecDepth 100000 in
theorem know_apart.calls (a0_0 : Int) (a0_1 : Int) (a0_2 : Int) (a1_0 : Int) (a1_1 : Int) (a1_2 : Int) (r : Bool) (w : World) (h : know_apart.f a0_0 a0_1 a0_2 a1_0 a1_1 a1_2 = some r) :
 Calls Tryz.prog 85 #[.agg #[.int .u8 a0_0,.int .u32 a0_1,.int .u32 a0_2],.agg #[.int .u8 a1_0,.int .u32 a1_1,.int .u32 a1_2]] w fun e w'=>e = .returned (.bool r) ∧ Below w.heap.size w w':=by
 have hu67:=Tryz.underlying67;have H:=zA h;clear h;go_enter Tryz.func85,Tryz.ntmps85;go_wp2
 all_goals (try go_ret)
 all_goals (have h:=H.out;clear H;simp only [know_apart.f] at h)
 all_goals (refine ⟨?_,by first | ((repeat (first | exact zS _ _ | refine Below.alloc ?_ (by first | exact zM _ | (simp;done) | (simp;omega)) _));done) | (refine zG ?_ hx;(repeat (first | exact zS _ _ | refine Below.alloc ?_ (by first | exact zM _ | (simp;done) | (simp;omega)) _));done)⟩)
 all_goals (first | (simp [*] at h;simp [*];done) | (simp [*] at h;simp [← h];done) | (simp [*] at h;subst h;first | rfl | (simp;done)) | (simp [*] at h ⊢;done) | (simp [*] at h;rw [← h];first | rfl | (simp [*];done)) | (simp [*] at h;simp [h];done) | ((repeat' (split at h))<;>first | (exfalso;omega) | (exfalso;simp_all;done) | (simp [*] at h;subst h;simp [*];done) | (simp [*] at h;simp [*,← h];done) | (simp [*] at h;simp [h];done) | (simp [*] at h;subst h;simp;omega) | (simp at h;subst h;simp [*];done)))
def item_In.f (a0_0 : Int) (a0_1 : Int) (a0_2 : Int) (a0_3 : Int) (a0_4 : Int) (a0_5 : Int) (a0_6 : Int) (a1 : Int) : Option (Bool):=if a0_4 = 3 then (some true) else (if a0_5 < 8 then (if 0 ≤ a0_5 then (some ((Go.bits .and .u8 (shr .u8 a1 a0_5) 1) == 1)) else (none)) else (some false))
set_option maxHeartbeats 8000000 in
set_option maxRecDepth 100000 in
theorem item_In.calls (a0_0 : Int) (a0_1 : Int) (a0_2 : Int) (a0_3 : Int) (a0_4 : Int) (a0_5 : Int) (a0_6 : Int) (a1 : Int) (r : Bool) (w : World) (h : item_In.f a0_0 a0_1 a0_2 a0_3 a0_4 a0_5 a0_6 a1 = some r) :
 Calls Tryz.prog 59 #[.agg #[.int .u8 a0_0,.int .u8 a0_1,.int .u32 a0_2,.int .u32 a0_3,.int .i64 a0_4,.int .u8 a0_5,.int .u32 a0_6],.int .u8 a1] w fun e w'=>e = .returned (.bool r) ∧ Below w.heap.size w w':=by
 have hu62:=Tryz.underlying62;have HB:=zA (zS w.heap.size w);have H : (if a0_4 = 3 then (some true) else (if a0_5 < 8 then (if 0 ≤ a0_5 then (some ((Go.bits .and .u8 (shr .u8 a1 a0_5) 1) == 1)) else (none)) else (some false))) = some r:=h;clear h;by_cases c3 : a0_4 = 3
 ·rw [if_pos c3] at H;have c3b0 : (a0_4 == 3) = true:=yB.mpr c3;have c3b1 : (a0_4 != 3) = false:=zU.mpr c3;clear c3;obtain rfl:=zH H;go_enter Tryz.func59,Tryz.ntmps59;go_wp2_with (first | ((with_reducible refine gate_dst (N:=2) rfl ?_);refine box_event ?hg (N:=2) ?hd (cs:=#[.int .u8 a0_0,.int .u8 a0_1,.int .u32 a0_2,.int .u32 a0_3,.int .i64 a0_4,.int .u8 a0_5,.int .u32 a0_6]) (t:=62) ?hr ?_;(case hd=>rfl);(case hg=>rfl);(case hr=>first | (go_simp;done) | (go_simp;rfl));intro gb121 hg w4 hbox hb;have n0_:=zA (zG (by repeat (first | (with_reducible first | exact HB.out | apply below_alloc | apply pw_below_drewN | apply yI) | exact HB.out)) hb);have n1_:=zA (hbox);have n2_:=zA ((by rw [hg];exact (zX (by repeat (first | (with_reducible first | exact HB.out | apply below_alloc | apply pw_below_drewN | apply yI) | exact HB.out))) : w.heap.size ≤ gb121));have n3_:=zA ((by rw [hg];exact (zX (by repeat (first | (with_reducible first | exact HB.out | apply below_alloc | apply pw_below_drewN | apply yI) | exact HB.out))) : w.heap.size ≤ gb121));clear HB;have HB:=n0_;have BK121:=n1_;have GW121:=n2_;have GE121:=n3_;clear n0_ n1_ n2_ n3_;clear hb hbox hg;have hcz5_0 : w4.cell? ⟨gb121,0,none⟩ = some (.int .u8 a0_0):=(zI BK121.out 0).trans rfl;have hcz5_1 : w4.cell? ⟨gb121,1,none⟩ = some (.int .u8 a0_1):=(zI BK121.out 1).trans rfl;have hcz5_2 : w4.cell? ⟨gb121,2,none⟩ = some (.int .u32 a0_2):=(zI BK121.out 2).trans rfl;have hcz5_3 : w4.cell? ⟨gb121,3,none⟩ = some (.int .u32 a0_3):=(zI BK121.out 3).trans rfl;have hcz5_4 : w4.cell? ⟨gb121,4,none⟩ = some (.int .i64 a0_4):=(zI BK121.out 4).trans rfl;have hcz5_5 : w4.cell? ⟨gb121,5,none⟩ = some (.int .u8 a0_5):=(zI BK121.out 5).trans rfl;have hcz5_6 : w4.cell? ⟨gb121,6,none⟩ = some (.int .u32 a0_6):=(zI BK121.out 6).trans rfl;have hfz5_0:=yA BK121.out 0;have hfz5_1:=yA BK121.out 1;have hfz5_2:=yA BK121.out 2;have hfz5_3:=yA BK121.out 3;have hfz5_4:=yA BK121.out 4;have hfz5_5:=yA BK121.out 5;have hfz5_6:=yA BK121.out 6))
  go_ret;exact ⟨by first | rfl | (simp [errW_none,errW_some]<;>rfl) | (simp [*,errW_none,errW_some]<;>rfl),by repeat (first | (with_reducible first | exact HB.out | apply below_alloc | apply pw_below_drewN | apply yI | refine below_set ?_ GE121.out) | exact HB.out)⟩
 ·rw [if_neg c3] at H;have c3b0 : (a0_4 == 3) = false:=zR.mpr c3;have c3b1 : (a0_4 != 3) = true:=yF.mpr c3;by_cases c6 : a0_5 < 8
  ·rw [if_pos c6] at H;have c6b0 : decide (a0_5 < 8) = true:=zE c6;clear c6;by_cases c7 : 0 ≤ a0_5
   ·rw [if_pos c7] at H;have c7b0:=eq_true c7;have c7b1 : decide (0 ≤ a0_5) = true:=zE c7;clear c7;obtain ⟨ji8,hji8⟩ : ∃ j_ : Int,(shr .u8 a1 a0_5) = j_:=⟨_,rfl⟩
    replace H : (some ((Go.bits .and .u8 (ji8) 1) == 1)) = some r:=by first | (rw [hji8] at H;exact H) | (simp only [hji8] at H ⊢;exact H)
    have hji8_ : (a1 / 2 ^ min a0_5.toNat 8) = ji8:=hji8;have hji8z : a0_5 ≤ 8 → (a1 / 2 ^ a0_5.toNat) = ji8:=shr_small hji8;obtain rfl:=zH H;go_enter Tryz.func59,Tryz.ntmps59;go_wp2_with (first | ((with_reducible refine gate_dst (N:=2) rfl ?_);refine box_event ?hg (N:=2) ?hd (cs:=#[.int .u8 a0_0,.int .u8 a0_1,.int .u32 a0_2,.int .u32 a0_3,.int .i64 a0_4,.int .u8 a0_5,.int .u32 a0_6]) (t:=62) ?hr ?_;(case hd=>rfl);(case hg=>rfl);(case hr=>first | (go_simp;done) | (go_simp;rfl));intro gb121 hg w9 hbox hb;have n0_:=zA (zG (by repeat (first | (with_reducible first | exact HB.out | apply below_alloc | apply pw_below_drewN | apply yI) | exact HB.out)) hb);have n1_:=zA (hbox);have n2_:=zA ((by rw [hg];exact (zX (by repeat (first | (with_reducible first | exact HB.out | apply below_alloc | apply pw_below_drewN | apply yI) | exact HB.out))) : w.heap.size ≤ gb121));have n3_:=zA ((by rw [hg];exact (zX (by repeat (first | (with_reducible first | exact HB.out | apply below_alloc | apply pw_below_drewN | apply yI) | exact HB.out))) : w.heap.size ≤ gb121));clear HB;have HB:=n0_;have BK121:=n1_;have GW121:=n2_;have GE121:=n3_;clear n0_ n1_ n2_ n3_;clear hb hbox hg;have hcz10_0 : w9.cell? ⟨gb121,0,none⟩ = some (.int .u8 a0_0):=(zI BK121.out 0).trans rfl;have hcz10_1 : w9.cell? ⟨gb121,1,none⟩ = some (.int .u8 a0_1):=(zI BK121.out 1).trans rfl;have hcz10_2 : w9.cell? ⟨gb121,2,none⟩ = some (.int .u32 a0_2):=(zI BK121.out 2).trans rfl;have hcz10_3 : w9.cell? ⟨gb121,3,none⟩ = some (.int .u32 a0_3):=(zI BK121.out 3).trans rfl;have hcz10_4 : w9.cell? ⟨gb121,4,none⟩ = some (.int .i64 a0_4):=(zI BK121.out 4).trans rfl;have hcz10_5 : w9.cell? ⟨gb121,5,none⟩ = some (.int .u8 a0_5):=(zI BK121.out 5).trans rfl;have hcz10_6 : w9.cell? ⟨gb121,6,none⟩ = some (.int .u32 a0_6):=(zI BK121.out 6).trans rfl;have hfz10_0:=yA BK121.out 0;have hfz10_1:=yA BK121.out 1;have hfz10_2:=yA BK121.out 2;have hfz10_3:=yA BK121.out 3;have hfz10_4:=yA BK121.out 4;have hfz10_5:=yA BK121.out 5;have hfz10_6:=yA BK121.out 6))
    go_ret;exact ⟨by first | rfl | (simp [errW_none,errW_some]<;>rfl) | (simp only [← hji8];first | rfl | (simp [errW_none,errW_some]<;>rfl)) | (simp [*,errW_none,errW_some]<;>rfl),by repeat (first | (with_reducible first | exact HB.out | apply below_alloc | apply pw_below_drewN | apply yI | refine below_set ?_ GE121.out) | exact HB.out)⟩
   ·rw [if_neg c7] at H;exact absurd H (by simp)
  ·rw [if_neg c6] at H;have c6b0 : decide (a0_5 < 8) = false:=zF c6;clear c6;obtain rfl:=zH H;go_enter Tryz.func59,Tryz.ntmps59;go_wp2_with (first | ((with_reducible refine gate_dst (N:=2) rfl ?_);refine box_event ?hg (N:=2) ?hd (cs:=#[.int .u8 a0_0,.int .u8 a0_1,.int .u32 a0_2,.int .u32 a0_3,.int .i64 a0_4,.int .u8 a0_5,.int .u32 a0_6]) (t:=62) ?hr ?_;(case hd=>rfl);(case hg=>rfl);(case hr=>first | (go_simp;done) | (go_simp;rfl));intro gb121 hg w11 hbox hb;have n0_:=zA (zG (by repeat (first | (with_reducible first | exact HB.out | apply below_alloc | apply pw_below_drewN | apply yI) | exact HB.out)) hb);have n1_:=zA (hbox);have n2_:=zA ((by rw [hg];exact (zX (by repeat (first | (with_reducible first | exact HB.out | apply below_alloc | apply pw_below_drewN | apply yI) | exact HB.out))) : w.heap.size ≤ gb121));have n3_:=zA ((by rw [hg];exact (zX (by repeat (first | (with_reducible first | exact HB.out | apply below_alloc | apply pw_below_drewN | apply yI) | exact HB.out))) : w.heap.size ≤ gb121));clear HB;have HB:=n0_;have BK121:=n1_;have GW121:=n2_;have GE121:=n3_;clear n0_ n1_ n2_ n3_;clear hb hbox hg;have hcz12_0 : w11.cell? ⟨gb121,0,none⟩ = some (.int .u8 a0_0):=(zI BK121.out 0).trans rfl;have hcz12_1 : w11.cell? ⟨gb121,1,none⟩ = some (.int .u8 a0_1):=(zI BK121.out 1).trans rfl;have hcz12_2 : w11.cell? ⟨gb121,2,none⟩ = some (.int .u32 a0_2):=(zI BK121.out 2).trans rfl;have hcz12_3 : w11.cell? ⟨gb121,3,none⟩ = some (.int .u32 a0_3):=(zI BK121.out 3).trans rfl;have hcz12_4 : w11.cell? ⟨gb121,4,none⟩ = some (.int .i64 a0_4):=(zI BK121.out 4).trans rfl;have hcz12_5 : w11.cell? ⟨gb121,5,none⟩ = some (.int .u8 a0_5):=(zI BK121.out 5).trans rfl;have hcz12_6 : w11.cell? ⟨gb121,6,none⟩ = some (.int .u32 a0_6):=(zI BK121.out 6).trans rfl;have hfz12_0:=yA BK121.out 0;have hfz12_1:=yA BK121.out 1;have hfz12_2:=yA BK121.out 2;have hfz12_3:=yA BK121.out 3;have hfz12_4:=yA BK121.out 4;have hfz12_5:=yA BK121.out 5;have hfz12_6:=yA BK121.out 6))
   go_ret;exact ⟨by first | rfl | (simp [errW_none,errW_some]<;>rfl) | (simp [*,errW_none,errW_some]<;>rfl),by repeat (first | (with_reducible first | exact HB.out | apply below_alloc | apply pw_below_drewN | apply yI | refine below_set ?_ GE121.out) | exact HB.out)⟩
def cmp_Or_int.l0 : Nat → Int → List Int → Int → Int → Option (Int)
 | 0,_,_,_,_=>none
 | k + 1,x3,x6,x7,x8=>if x8 < x7 then (if 0 ≤ x8 then (if x8 < (x6.length : Int) then (if (rd x6 x8) = x3 then (cmp_Or_int.l0 k x3 x6 x7 (wrap64 (x8 + 1))) else (some (rd x6 x8))) else (none)) else (none)) else (some x3)
def cmp_Or_int.f (k : Nat) (l0 : List Int) : Option (Int):=cmp_Or_int.l0 k 0 l0 (l0.length : Int) 0
set_option maxHeartbeats 8000000 in
set_option maxRecDepth 100000 in
theorem cmp_Or_int.calls (k : Nat) (A0 : Option Addr) (c0 : Nat) (l0 : List Int) (r : Int) (w : World) (hr0 : Kd.C (Kd.int .i64) w A0 l0.length l0) (hc0 : l0.length ≤ c0) (h : cmp_Or_int.f k l0 = some r) :
 Calls Tryz.prog 106 #[.slice A0 l0.length c0] w fun e w'=>e = .returned (.int .i64 r) ∧ Drawn0 w w':=by
 have HR0:=zA hr0;have HC0:=zA hc0;clear hr0 hc0;have H : (cmp_Or_int.l0 k 0 l0 (l0.length : Int) 0) = some r:=h;clear h;have H':=zA H;clear H;go_enter Tryz.func106,Tryz.ntmps106;go_wp2;go_loopg [8] k (fun kq v8 w'=>∃ (x8_1 : Int),v8 = .int .i64 x8_1 ∧ Aside0 (cmp_Or_int.l0 kq 0 l0 (l0.length : Int) x8_1 = some r) ∧ Aside0 (kq ≤ k) ∧ Drawn0 w w')
 case atStart=>exact ⟨(0),(by rfl),H',⟨zM _⟩,by repeat (first | exact Drawn0.refl _)⟩
 case round =>
  clear H';obtain ⟨x8_1,rfl,HA,HK1,⟨m1,rfl⟩⟩:=hrel;cases gk with
  | zero=>exact absurd HA.out (by simp [cmp_Or_int.l0])
  | succ k1 =>
   have H:=HA.out;clear HA;simp only [cmp_Or_int.l0] at H;by_cases c2 : x8_1 < (l0.length : Int)
   ·rw [if_pos c2] at H;have c2b0 : decide (x8_1 < (l0.length : Int)) = true:=zE c2;clear c2;by_cases c3 : 0 ≤ x8_1
    ·rw [if_pos c3] at H;have c3b0 : decide (0 ≤ x8_1) = true:=zE c3;clear c3;by_cases c4 : x8_1 < (l0.length : Int)
     ·rw [if_pos c4] at H;have c4b0 : decide (x8_1 < (l0.length : Int)) = true:=zE c4;clear c4;by_cases c5 : (rd l0 x8_1) = 0
      ·rw [if_pos c5] at H;have c5b0 : ((rd l0 x8_1) == 0) = true:=yB.mpr c5;have c5b1 : ((rd l0 x8_1) != 0) = false:=zU.mpr c5;clear c5;have H':=zA H;clear H;have p176 : 0 ≤ (x8_1 : Int):=oA;have q176 : x8_1 < (l0.length : Int):=oA;obtain ⟨ad176,e176,hx176_0⟩:=Kd.at_int HR0.out x8_1 p176 q176;cases e176;replace p176:=eq_true p176;replace q176:=eq_true q176;go_wp2;go_roundg k1
       case measure=>have:=HK1.out;omega
       case rel=>exact ⟨(wrap64 (x8_1 + 1)),(by rfl),H',⟨by have:=HK1.out;omega⟩,by repeat (first | exact Drawn0.refl _ | apply Drawn0.step)⟩
      ·rw [if_neg c5] at H;have c5b0 : ((rd l0 x8_1) == 0) = false:=zR.mpr c5;have c5b1 : ((rd l0 x8_1) != 0) = true:=yF.mpr c5;obtain rfl:=zH H;have p176 : 0 ≤ (x8_1 : Int):=oA;have q176 : x8_1 < (l0.length : Int):=oA;obtain ⟨ad176,e176,hx176_0⟩:=Kd.at_int HR0.out x8_1 p176 q176;cases e176;replace p176:=eq_true p176;replace q176:=eq_true q176;go_wp2;go_ret;exact ⟨by rfl,by repeat (first | exact Drawn0.refl _ | apply Drawn0.step)⟩
     ·rw [if_neg c4] at H;exact absurd H (by simp)
    ·rw [if_neg c3] at H;exact absurd H (by simp)
   ·rw [if_neg c2] at H;have c2b0 : decide (x8_1 < (l0.length : Int)) = false:=zF c2;clear c2;obtain rfl:=zH H;go_wp2;go_ret;exact ⟨by rfl,by repeat (first | exact Drawn0.refl _ | apply Drawn0.step)⟩
def cmp_isNaN_uint8.f (a0 : Int) : Option (Bool):=some (a0 != a0)
set_option maxHeartbeats 8000000 in
set_option maxRecDepth 100000 in
theorem cmp_isNaN_uint8.calls (a0 : Int) (r : Bool) (w : World) (h : cmp_isNaN_uint8.f a0 = some r) :
 Calls Tryz.prog 115 #[.int .u8 a0] w fun e w'=>e = .returned (.bool r) ∧ Drawn0 w w':=by
 have H : (some (a0 != a0)) = some r:=h;clear h;obtain rfl:=zH H;go_enter Tryz.func115,Tryz.ntmps115;go_wp2;go_ret;exact ⟨by rfl,by repeat (first | exact Drawn0.refl _)⟩
def cmp_Compare_uint8.f (a0 : Int) (a1 : Int) : Option (Int):=(cmp_isNaN_uint8.f a0).bind fun t177=>((cmp_isNaN_uint8.f a1).bind fun t178=>(if t177 = true then (if t178 = true then (some 0) else (some (-1))) else (if t178 = true then (some 1) else (if a0 < a1 then (some (-1)) else (if a0 > a1 then (some 1) else (some 0))))))
set_option maxHeartbeats 8000000 in
set_option maxRecDepth 100000 in
theorem cmp_Compare_uint8.calls (a0 : Int) (a1 : Int) (r : Int) (w : World) (h : cmp_Compare_uint8.f a0 a1 = some r) :
 Calls Tryz.prog 100 #[.int .u8 a0,.int .u8 a1] w fun e w'=>e = .returned (.int .i64 r) ∧ Drawn0 w w':=by
 have H : ((cmp_isNaN_uint8.f a0).bind fun t177=>((cmp_isNaN_uint8.f a1).bind fun t178=>(if t177 = true then (if t178 = true then (some 0) else (some (-1))) else (if t178 = true then (some 1) else (if a0 < a1 then (some (-1)) else (if a0 > a1 then (some 1) else (some 0))))))) = some r:=h;clear h;replace H:=zJ.mp H;obtain ⟨t177,A30,H⟩:=H;have A3:=zA A30;clear A30;replace H:=zJ.mp H;obtain ⟨t178,A40,H⟩:=H;have A4:=zA A40;clear A40;by_cases c5 : t177 = true
 ·subst c5;rw [if_pos rfl] at H;by_cases c6 : t178 = true
  ·subst c6;rw [if_pos rfl] at H;obtain rfl:=zH H;go_enter Tryz.func100,Tryz.ntmps100;go_wp2_with (first | ((with_reducible refine gate_callee (f:=115) rfl ?_);refine goesL_ (some 8) rfl rfl Tryz.func115 (by kernel_rfl) rfl #[.int .u8 a0] rfl (by (try simp only [zN,zT,zY]);first | rfl) ?_;(with_reducible refine (cmp_isNaN_uint8.calls a0 true _ A3.out).mono ?_);rintro e w' ⟨rfl,⟨nd,rfl⟩⟩;refine ⟨_,rfl,?_⟩) | ((with_reducible refine gate_callee (f:=115) rfl ?_);refine goesL_ (some 10) rfl rfl Tryz.func115 (by kernel_rfl) rfl #[.int .u8 a1] rfl (by (try simp only [zN,zT,zY]);first | rfl) ?_;(with_reducible refine (cmp_isNaN_uint8.calls a1 true _ A4.out).mono ?_);rintro e w' ⟨rfl,⟨nd,rfl⟩⟩;refine ⟨_,rfl,?_⟩))
   go_ret;exact ⟨by rfl,by repeat (first | exact Drawn0.refl _ | apply Drawn0.step)⟩
  ·replace c6:=Bool.eq_false_iff.mpr c6;subst c6;rw [if_neg (show ¬ (false = true) by decide)] at H;obtain rfl:=zH H;go_enter Tryz.func100,Tryz.ntmps100;go_wp2_with (first | ((with_reducible refine gate_callee (f:=115) rfl ?_);refine goesL_ (some 8) rfl rfl Tryz.func115 (by kernel_rfl) rfl #[.int .u8 a0] rfl (by (try simp only [zN,zT,zY]);first | rfl) ?_;(with_reducible refine (cmp_isNaN_uint8.calls a0 true _ A3.out).mono ?_);rintro e w' ⟨rfl,⟨nd,rfl⟩⟩;refine ⟨_,rfl,?_⟩) | ((with_reducible refine gate_callee (f:=115) rfl ?_);refine goesL_ (some 10) rfl rfl Tryz.func115 (by kernel_rfl) rfl #[.int .u8 a1] rfl (by (try simp only [zN,zT,zY]);first | rfl) ?_;(with_reducible refine (cmp_isNaN_uint8.calls a1 false _ A4.out).mono ?_);rintro e w' ⟨rfl,⟨nd,rfl⟩⟩;refine ⟨_,rfl,?_⟩))
   go_ret;exact ⟨by rfl,by repeat (first | exact Drawn0.refl _ | apply Drawn0.step)⟩
 ·replace c5:=Bool.eq_false_iff.mpr c5;subst c5;rw [if_neg (show ¬ (false = true) by decide)] at H;by_cases c7 : t178 = true
  ·subst c7;rw [if_pos rfl] at H;obtain rfl:=zH H;go_enter Tryz.func100,Tryz.ntmps100;go_wp2_with (first | ((with_reducible refine gate_callee (f:=115) rfl ?_);refine goesL_ (some 8) rfl rfl Tryz.func115 (by kernel_rfl) rfl #[.int .u8 a0] rfl (by (try simp only [zN,zT,zY]);first | rfl) ?_;(with_reducible refine (cmp_isNaN_uint8.calls a0 false _ A3.out).mono ?_);rintro e w' ⟨rfl,⟨nd,rfl⟩⟩;refine ⟨_,rfl,?_⟩) | ((with_reducible refine gate_callee (f:=115) rfl ?_);refine goesL_ (some 10) rfl rfl Tryz.func115 (by kernel_rfl) rfl #[.int .u8 a1] rfl (by (try simp only [zN,zT,zY]);first | rfl) ?_;(with_reducible refine (cmp_isNaN_uint8.calls a1 true _ A4.out).mono ?_);rintro e w' ⟨rfl,⟨nd,rfl⟩⟩;refine ⟨_,rfl,?_⟩))
   go_ret;exact ⟨by rfl,by repeat (first | exact Drawn0.refl _ | apply Drawn0.step)⟩
  ·replace c7:=Bool.eq_false_iff.mpr c7;subst c7;rw [if_neg (show ¬ (false = true) by decide)] at H;by_cases c8 : a0 < a1
   ·rw [if_pos c8] at H;have c8b0 : decide (a0 < a1) = true:=zE c8;clear c8;obtain rfl:=zH H;go_enter Tryz.func100,Tryz.ntmps100;go_wp2_with (first | ((with_reducible refine gate_callee (f:=115) rfl ?_);refine goesL_ (some 8) rfl rfl Tryz.func115 (by kernel_rfl) rfl #[.int .u8 a0] rfl (by (try simp only [zN,zT,zY]);first | rfl) ?_;(with_reducible refine (cmp_isNaN_uint8.calls a0 false _ A3.out).mono ?_);rintro e w' ⟨rfl,⟨nd,rfl⟩⟩;refine ⟨_,rfl,?_⟩) | ((with_reducible refine gate_callee (f:=115) rfl ?_);refine goesL_ (some 10) rfl rfl Tryz.func115 (by kernel_rfl) rfl #[.int .u8 a1] rfl (by (try simp only [zN,zT,zY]);first | rfl) ?_;(with_reducible refine (cmp_isNaN_uint8.calls a1 false _ A4.out).mono ?_);rintro e w' ⟨rfl,⟨nd,rfl⟩⟩;refine ⟨_,rfl,?_⟩))
    go_ret;exact ⟨by rfl,by repeat (first | exact Drawn0.refl _ | apply Drawn0.step)⟩
   ·rw [if_neg c8] at H;have c8b0 : decide (a0 < a1) = false:=zF c8;clear c8;by_cases c9 : a0 > a1
    ·rw [if_pos c9] at H;have c9b0 : decide (a1 < a0) = true:=zE c9;clear c9;obtain rfl:=zH H;go_enter Tryz.func100,Tryz.ntmps100;go_wp2_with (first | ((with_reducible refine gate_callee (f:=115) rfl ?_);refine goesL_ (some 8) rfl rfl Tryz.func115 (by kernel_rfl) rfl #[.int .u8 a0] rfl (by (try simp only [zN,zT,zY]);first | rfl) ?_;(with_reducible refine (cmp_isNaN_uint8.calls a0 false _ A3.out).mono ?_);rintro e w' ⟨rfl,⟨nd,rfl⟩⟩;refine ⟨_,rfl,?_⟩) | ((with_reducible refine gate_callee (f:=115) rfl ?_);refine goesL_ (some 10) rfl rfl Tryz.func115 (by kernel_rfl) rfl #[.int .u8 a1] rfl (by (try simp only [zN,zT,zY]);first | rfl) ?_;(with_reducible refine (cmp_isNaN_uint8.calls a1 false _ A4.out).mono ?_);rintro e w' ⟨rfl,⟨nd,rfl⟩⟩;refine ⟨_,rfl,?_⟩))
     go_ret;exact ⟨by rfl,by repeat (first | exact Drawn0.refl _ | apply Drawn0.step)⟩
    ·rw [if_neg c9] at H;have c9b0 : decide (a1 < a0) = false:=zF c9;clear c9;obtain rfl:=zH H;go_enter Tryz.func100,Tryz.ntmps100;go_wp2_with (first | ((with_reducible refine gate_callee (f:=115) rfl ?_);refine goesL_ (some 8) rfl rfl Tryz.func115 (by kernel_rfl) rfl #[.int .u8 a0] rfl (by (try simp only [zN,zT,zY]);first | rfl) ?_;(with_reducible refine (cmp_isNaN_uint8.calls a0 false _ A3.out).mono ?_);rintro e w' ⟨rfl,⟨nd,rfl⟩⟩;refine ⟨_,rfl,?_⟩) | ((with_reducible refine gate_callee (f:=115) rfl ?_);refine goesL_ (some 10) rfl rfl Tryz.func115 (by kernel_rfl) rfl #[.int .u8 a1] rfl (by (try simp only [zN,zT,zY]);first | rfl) ?_;(with_reducible refine (cmp_isNaN_uint8.calls a1 false _ A4.out).mono ?_);rintro e w' ⟨rfl,⟨nd,rfl⟩⟩;refine ⟨_,rfl,?_⟩))
     go_ret;exact ⟨by rfl,by repeat (first | exact Drawn0.refl _ | apply Drawn0.step)⟩
def cmp_isNaN_uint32.f (a0 : Int) : Option (Bool):=some (a0 != a0)
set_option maxHeartbeats 8000000 in
set_option maxRecDepth 100000 in
theorem cmp_isNaN_uint32.calls (a0 : Int) (r : Bool) (w : World) (h : cmp_isNaN_uint32.f a0 = some r) :
 Calls Tryz.prog 120 #[.int .u32 a0] w fun e w'=>e = .returned (.bool r) ∧ Drawn0 w w':=by
 have H : (some (a0 != a0)) = some r:=h;clear h;obtain rfl:=zH H;go_enter Tryz.func120,Tryz.ntmps120;go_wp2;go_ret;exact ⟨by rfl,by repeat (first | exact Drawn0.refl _)⟩
def cmp_Compare_uint32.f (a0 : Int) (a1 : Int) : Option (Int):=(cmp_isNaN_uint32.f a0).bind fun t179=>((cmp_isNaN_uint32.f a1).bind fun t180=>(if t179 = true then (if t180 = true then (some 0) else (some (-1))) else (if t180 = true then (some 1) else (if a0 < a1 then (some (-1)) else (if a0 > a1 then (some 1) else (some 0))))))
set_option maxHeartbeats 8000000 in
set_option maxRecDepth 100000 in
theorem cmp_Compare_uint32.calls (a0 : Int) (a1 : Int) (r : Int) (w : World) (h : cmp_Compare_uint32.f a0 a1 = some r) :
 Calls Tryz.prog 107 #[.int .u32 a0,.int .u32 a1] w fun e w'=>e = .returned (.int .i64 r) ∧ Drawn0 w w':=by
 have H : ((cmp_isNaN_uint32.f a0).bind fun t179=>((cmp_isNaN_uint32.f a1).bind fun t180=>(if t179 = true then (if t180 = true then (some 0) else (some (-1))) else (if t180 = true then (some 1) else (if a0 < a1 then (some (-1)) else (if a0 > a1 then (some 1) else (some 0))))))) = some r:=h;clear h;replace H:=zJ.mp H;obtain ⟨t179,A30,H⟩:=H;have A3:=zA A30;clear A30;replace H:=zJ.mp H;obtain ⟨t180,A40,H⟩:=H;have A4:=zA A40;clear A40;by_cases c5 : t179 = true
 ·subst c5;rw [if_pos rfl] at H;by_cases c6 : t180 = true
  ·subst c6;rw [if_pos rfl] at H;obtain rfl:=zH H;go_enter Tryz.func107,Tryz.ntmps107;go_wp2_with (first | ((with_reducible refine gate_callee (f:=120) rfl ?_);refine goesL_ (some 8) rfl rfl Tryz.func120 (by kernel_rfl) rfl #[.int .u32 a0] rfl (by (try simp only [zN,zT,zY]);first | rfl) ?_;(with_reducible refine (cmp_isNaN_uint32.calls a0 true _ A3.out).mono ?_);rintro e w' ⟨rfl,⟨nd,rfl⟩⟩;refine ⟨_,rfl,?_⟩) | ((with_reducible refine gate_callee (f:=120) rfl ?_);refine goesL_ (some 10) rfl rfl Tryz.func120 (by kernel_rfl) rfl #[.int .u32 a1] rfl (by (try simp only [zN,zT,zY]);first | rfl) ?_;(with_reducible refine (cmp_isNaN_uint32.calls a1 true _ A4.out).mono ?_);rintro e w' ⟨rfl,⟨nd,rfl⟩⟩;refine ⟨_,rfl,?_⟩))
   go_ret;exact ⟨by rfl,by repeat (first | exact Drawn0.refl _ | apply Drawn0.step)⟩
  ·replace c6:=Bool.eq_false_iff.mpr c6;subst c6;rw [if_neg (show ¬ (false = true) by decide)] at H;obtain rfl:=zH H;go_enter Tryz.func107,Tryz.ntmps107;go_wp2_with (first | ((with_reducible refine gate_callee (f:=120) rfl ?_);refine goesL_ (some 8) rfl rfl Tryz.func120 (by kernel_rfl) rfl #[.int .u32 a0] rfl (by (try simp only [zN,zT,zY]);first | rfl) ?_;(with_reducible refine (cmp_isNaN_uint32.calls a0 true _ A3.out).mono ?_);rintro e w' ⟨rfl,⟨nd,rfl⟩⟩;refine ⟨_,rfl,?_⟩) | ((with_reducible refine gate_callee (f:=120) rfl ?_);refine goesL_ (some 10) rfl rfl Tryz.func120 (by kernel_rfl) rfl #[.int .u32 a1] rfl (by (try simp only [zN,zT,zY]);first | rfl) ?_;(with_reducible refine (cmp_isNaN_uint32.calls a1 false _ A4.out).mono ?_);rintro e w' ⟨rfl,⟨nd,rfl⟩⟩;refine ⟨_,rfl,?_⟩))
   go_ret;exact ⟨by rfl,by repeat (first | exact Drawn0.refl _ | apply Drawn0.step)⟩
 ·replace c5:=Bool.eq_false_iff.mpr c5;subst c5;rw [if_neg (show ¬ (false = true) by decide)] at H;by_cases c7 : t180 = true
  ·subst c7;rw [if_pos rfl] at H;obtain rfl:=zH H;go_enter Tryz.func107,Tryz.ntmps107;go_wp2_with (first | ((with_reducible refine gate_callee (f:=120) rfl ?_);refine goesL_ (some 8) rfl rfl Tryz.func120 (by kernel_rfl) rfl #[.int .u32 a0] rfl (by (try simp only [zN,zT,zY]);first | rfl) ?_;(with_reducible refine (cmp_isNaN_uint32.calls a0 false _ A3.out).mono ?_);rintro e w' ⟨rfl,⟨nd,rfl⟩⟩;refine ⟨_,rfl,?_⟩) | ((with_reducible refine gate_callee (f:=120) rfl ?_);refine goesL_ (some 10) rfl rfl Tryz.func120 (by kernel_rfl) rfl #[.int .u32 a1] rfl (by (try simp only [zN,zT,zY]);first | rfl) ?_;(with_reducible refine (cmp_isNaN_uint32.calls a1 true _ A4.out).mono ?_);rintro e w' ⟨rfl,⟨nd,rfl⟩⟩;refine ⟨_,rfl,?_⟩))
   go_ret;exact ⟨by rfl,by repeat (first | exact Drawn0.refl _ | apply Drawn0.step)⟩
  ·replace c7:=Bool.eq_false_iff.mpr c7;subst c7;rw [if_neg (show ¬ (false = true) by decide)] at H;by_cases c8 : a0 < a1
   ·rw [if_pos c8] at H;have c8b0 : decide (a0 < a1) = true:=zE c8;clear c8;obtain rfl:=zH H;go_enter Tryz.func107,Tryz.ntmps107;go_wp2_with (first | ((with_reducible refine gate_callee (f:=120) rfl ?_);refine goesL_ (some 8) rfl rfl Tryz.func120 (by kernel_rfl) rfl #[.int .u32 a0] rfl (by (try simp only [zN,zT,zY]);first | rfl) ?_;(with_reducible refine (cmp_isNaN_uint32.calls a0 false _ A3.out).mono ?_);rintro e w' ⟨rfl,⟨nd,rfl⟩⟩;refine ⟨_,rfl,?_⟩) | ((with_reducible refine gate_callee (f:=120) rfl ?_);refine goesL_ (some 10) rfl rfl Tryz.func120 (by kernel_rfl) rfl #[.int .u32 a1] rfl (by (try simp only [zN,zT,zY]);first | rfl) ?_;(with_reducible refine (cmp_isNaN_uint32.calls a1 false _ A4.out).mono ?_);rintro e w' ⟨rfl,⟨nd,rfl⟩⟩;refine ⟨_,rfl,?_⟩))
    go_ret;exact ⟨by rfl,by repeat (first | exact Drawn0.refl _ | apply Drawn0.step)⟩
   ·rw [if_neg c8] at H;have c8b0 : decide (a0 < a1) = false:=zF c8;clear c8;by_cases c9 : a0 > a1
    ·rw [if_pos c9] at H;have c9b0 : decide (a1 < a0) = true:=zE c9;clear c9;obtain rfl:=zH H;go_enter Tryz.func107,Tryz.ntmps107;go_wp2_with (first | ((with_reducible refine gate_callee (f:=120) rfl ?_);refine goesL_ (some 8) rfl rfl Tryz.func120 (by kernel_rfl) rfl #[.int .u32 a0] rfl (by (try simp only [zN,zT,zY]);first | rfl) ?_;(with_reducible refine (cmp_isNaN_uint32.calls a0 false _ A3.out).mono ?_);rintro e w' ⟨rfl,⟨nd,rfl⟩⟩;refine ⟨_,rfl,?_⟩) | ((with_reducible refine gate_callee (f:=120) rfl ?_);refine goesL_ (some 10) rfl rfl Tryz.func120 (by kernel_rfl) rfl #[.int .u32 a1] rfl (by (try simp only [zN,zT,zY]);first | rfl) ?_;(with_reducible refine (cmp_isNaN_uint32.calls a1 false _ A4.out).mono ?_);rintro e w' ⟨rfl,⟨nd,rfl⟩⟩;refine ⟨_,rfl,?_⟩))
     go_ret;exact ⟨by rfl,by repeat (first | exact Drawn0.refl _ | apply Drawn0.step)⟩
    ·rw [if_neg c9] at H;have c9b0 : decide (a1 < a0) = false:=zF c9;clear c9;obtain rfl:=zH H;go_enter Tryz.func107,Tryz.ntmps107;go_wp2_with (first | ((with_reducible refine gate_callee (f:=120) rfl ?_);refine goesL_ (some 8) rfl rfl Tryz.func120 (by kernel_rfl) rfl #[.int .u32 a0] rfl (by (try simp only [zN,zT,zY]);first | rfl) ?_;(with_reducible refine (cmp_isNaN_uint32.calls a0 false _ A3.out).mono ?_);rintro e w' ⟨rfl,⟨nd,rfl⟩⟩;refine ⟨_,rfl,?_⟩) | ((with_reducible refine gate_callee (f:=120) rfl ?_);refine goesL_ (some 10) rfl rfl Tryz.func120 (by kernel_rfl) rfl #[.int .u32 a1] rfl (by (try simp only [zN,zT,zY]);first | rfl) ?_;(with_reducible refine (cmp_isNaN_uint32.calls a1 false _ A4.out).mono ?_);rintro e w' ⟨rfl,⟨nd,rfl⟩⟩;refine ⟨_,rfl,?_⟩))
     go_ret;exact ⟨by rfl,by repeat (first | exact Drawn0.refl _ | apply Drawn0.step)⟩
theorem eqA62 (d : Nat) (w : World) (x0 y0 : Int) (x1 y1 : Int) (x2 y2 : Int) (x3 y3 : Int) (x4 y4 : Int) (x5 y5 : Int) (x6 y6 : Int) :
 (Op.equalIn (d + 3) 62 (.agg #[.int .u8 x0,.int .u8 x1,.int .u32 x2,.int .u32 x3,.int .i64 x4,.int .u8 x5,.int .u32 x6]) (.agg #[.int .u8 y0,.int .u8 y1,.int .u32 y2,.int .u32 y3,.int .i64 y4,.int .u8 y5,.int .u32 y6])).run Tryz.prog w = .ok (x0 == y0 && ((x1 == y1 && (x2 == y2 && (x3 == y3))) && (x4 == y4 && (x5 == y5 && (x6 == y6))))) w:=by
 refine eqA_of Tryz.underlying62 (by kernel_rfl) ?_;refine eqf_cons (by rfl) (by go_simp;rfl) (by go_simp;rfl) (by go_simp) ?_;refine eqf_cons (by rfl) (by go_simp) (by go_simp) (eqA60 (d + 0) w _ _ _ _ _ _) ?_;refine eqf_cons (by rfl) (by go_simp;rfl) (by go_simp;rfl) (by go_simp) ?_;refine eqf_cons (by rfl) (by go_simp;rfl) (by go_simp;rfl) (by go_simp) ?_;exact eqf_last (by rfl) (by go_simp;rfl) (by go_simp;rfl) (by go_simp)
end Go.Proofs.YtiminjibcafkaaaGreatDoor.X
end
