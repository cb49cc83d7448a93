/- target.take: in two contracts, over rows that may have come in. -/
import Derived.Test.YtiminjibcafkaaaGreatDoorTBXtake
import Derived.Test.YtiminjibcafkaaaGreatDoorTBJ7
namespace Go.Proofs.YtiminjibcafkaaaGreatDoor.X
open Go.RowKit Go.Proofs.YtiminjibcafkaaaGreatDoorW.PrintWords Go.Proofs.YtiminjibcafkaaaGreatDoorW.PrintLast Go.Proofs.YtiminjibcafkaaaGreatDoorW.PrintMore
set_option linter.unusedVariables false
set_option linter.unusedSimpArgs false
/-- What an entry that is taken leaves of what is known, and of what is held. -/
inductive TakeOK (k : Nat) (fil : Int) (kn : List S67) (hd : List S62) (X : S62) : List S67 → List S62 → Prop
 | inA (h5 : List S62) (hin : item_In.f X.f0 X.f1.f0 X.f1.f1 X.f1.f2 X.f2 X.f3 X.f4 fil = some true) (htake : item_Take.f k hd X.f0 X.f1.f0 X.f1.f1 X.f1.f2 X.f2 X.f3 X.f4 = some (h5,none)) (hk : X.f2 = 2) : TakeOK k fil kn hd X kn h5
 | inB (h5 : List S62) (h4 : List S67) (hin : item_In.f X.f0 X.f1.f0 X.f1.f1 X.f1.f2 X.f2 X.f3 X.f4 fil = some true) (htake : item_Take.f k hd X.f0 X.f1.f0 X.f1.f1 X.f1.f2 X.f2 X.f3 X.f4 = some (h5,none)) (hk : X.f2 ≠ 2) (hadd : know_Add.f k kn X.f1.f0 X.f1.f1 = some (h4,none)) : TakeOK k fil kn hd X h4 h5
 | outB (Y : S62) (h5 : List S62) (h4 : List S67) (hin : item_In.f X.f0 X.f1.f0 X.f1.f1 X.f1.f2 X.f2 X.f3 X.f4 fil = some false) (hfade : item_Fade.f X.f0 X.f1.f0 X.f1.f1 X.f1.f2 X.f2 X.f3 X.f4 = some (Y.f0,Y.f1.f0,Y.f1.f1,Y.f1.f2,Y.f2,Y.f3,Y.f4)) (htake : item_Take.f k hd Y.f0 Y.f1.f0 Y.f1.f1 Y.f1.f2 Y.f2 Y.f3 Y.f4 = some (h5,none)) (hadd : know_Add.f k kn Y.f1.f0 Y.f1.f1 = some (h4,none)) : TakeOK k fil kn hd X h4 h5
section
variable (k : Nat) (a0 a1 a2 a3 : Int) (l4 : List S67) (l5 : List S62) (a6 : Bool) (a7 a8 a9 a10 : Int) (l11 : List S67) (a12 : Int) (A4 A5 A11 : Option Addr) (c4 c5 c11 : Nat) (X : S62) (w : World) (S : Nat → Prop)
theorem take_OK (r4 : On k67 w S A4 c4 l4) (r5 : On k62 w S A5 c5 l5) (hS : ∀ j,w.heap.size ≤ j → S j) (h4 : List S67) (h5 : List S62) (h : TakeOK k a1 l4 l5 X h4 h5) :
 Calls Tryz.prog 35 #[.agg #[.int .u8 a0,.int .u8 a1,.int .u32 a2,.int .u32 a3,.slice A4 l4.length c4,.slice A5 l5.length c5,.bool a6,.int .u32 a7,.int .u8 a8,.int .u8 a9,.int .u32 a10,.slice A11 l11.length c11,.int .u32 a12],.agg #[.int .u8 X.f0,.int .u8 X.f1.f0,.int .u32 X.f1.f1,.int .u32 X.f1.f2,.int .i64 X.f2,.int .u8 X.f3,.int .u32 X.f4]] w fun e w' =>
  ∃ (T4 T5 : Option Addr) (e4 e5 : Nat),e = .returned (.agg #[.int .u8 a0,.int .u8 a1,.int .u32 a2,.int .u32 a3,.slice T4 h4.length e4,.slice T5 h5.length e5,.bool a6,.int .u32 a7,.int .u8 a8,.int .u8 a9,.int .u32 a10,.slice A11 l11.length c11,.int .u32 a12]) ∧
   On k67 w' S T4 e4 h4 ∧ On k62 w' S T5 e5 h5 ∧ Below w.heap.size w w':=by
 have hs : ∀ j,w.heap.size + 3 ≤ j → w.heap.size ≤ j → S j:=fun j _ h=>hS j h
 cases h with
 | inA h5 hin htake hk =>
  refine (take_inA k a0 a1 a2 a3 l4 l5 a6 a7 a8 a9 a10 l11 a12 A4 A5 A11 c4 c5 c11 X w r4.row r4.len r5.row r5.len hin h5 htake hk).mono ?_
  rintro e w' ⟨T5,e5,rfl,_,hR,hb⟩
  exact ⟨_,_,_,_,rfl,r4.below hb,.of_R hR hs,hb⟩
 | inB h5 h4 hin htake hk hadd =>
  refine (take_inB k a0 a1 a2 a3 l4 l5 a6 a7 a8 a9 a10 l11 a12 A4 A5 A11 c4 c5 c11 X w r4.row r4.len r5.row r5.len hin h5 htake hk h4 hadd).mono ?_
  rintro e w' ⟨T4,T5,e4,e5,rfl,⟨_,hQ⟩,⟨_,hR⟩,hb⟩
  exact ⟨_,_,_,_,rfl,.of_R hQ hs,.of_R hR hs,hb⟩
 | outB Y h5 h4 hin hfade htake hadd =>
  refine (take_outB k a0 a1 a2 a3 l4 l5 a6 a7 a8 a9 a10 l11 a12 A4 A5 A11 c4 c5 c11 X w r4.row r4.len r5.row r5.len hin Y hfade h5 htake h4 hadd).mono ?_
  rintro e w' ⟨T4,T5,e4,e5,rfl,⟨_,hQ⟩,⟨_,hR⟩,hb⟩
  exact ⟨_,_,_,_,rfl,.of_R hQ hs,.of_R hR hs,hb⟩
end
end Go.Proofs.YtiminjibcafkaaaGreatDoor.X
