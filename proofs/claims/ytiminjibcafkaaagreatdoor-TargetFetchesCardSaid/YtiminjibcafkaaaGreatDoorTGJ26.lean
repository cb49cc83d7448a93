/- Texts that this claim's law comes to, joined by wip/slim.py: TAX26, TAX27, TAX28, TAX29. -/
import Derived.Test.YtiminjibcafkaaaGreatDoorTGTAJ5
import Derived.Test.YtiminjibcafkaaaGreatDoorTGTAJ4
import Derived.Test.YtiminjibcafkaaaGreatDoorTGTAXhtidingsref05Right
import Derived.Test.YtiminjibcafkaaaGreatDoorTGTAX19
set_option linter.unusedSimpArgs false
set_option linter.unusedVariables false
section
namespace Go.Proofs.YtiminjibcafkaaaGreatDoor.X
open RowKit YtiminjibcafkaaaGreatDoorW.PrintWords YtiminjibcafkaaaGreatDoorW.PrintLast YtiminjibcafkaaaGreatDoorW.PrintMore
attribute [local go_sem] max2_int min2_int max_two min_two max_three min_three max_four min_four
def tidingsref04_Short.f (a0_0 : Int) (a0_1 : Int) (a0_2 : Int) (a0_3 : Int) (a0_4 : Int) (a0_5 : Int) (l0_6 : List (S67)) (a0_7 : Int) (l0_8 : List (S62)) (a0_9 : Int) (a0_10 : Bool) (l0_11 : List (S67)) : Option (Bool):=if (l0_6.length : Int) ≤ 300 then (if (l0_8.length : Int) ≤ 300 then (some (decide ((l0_11.length : Int) ≤ 300))) else (some false)) else (some false)
def tidingsref01_put.l0 : Nat → List Int → Int → Int → Option (List Int)
 | 0,_,_,_=>none
 | k + 1,x0,x1,x5=>if x5 < (x0.length : Int) then (if 0 ≤ x5 then (if (rd x0 x5) < x1 then (tidingsref01_put.l0 k x0 x1 (wrap64 (x5 + 1))) else (if (rd x0 x5) = x1 then (some x0) else (if x5 ≤ (x0.length : Int) then ((some (x0.take (x5 : Int).toNat : List Int)).bind fun y308=>(if ([] : List Int).length + y308.length < 17592186044416 then ((some (([] : List Int) ++ y308 : List Int)).bind fun y312=>(if y312.length < 17592186044416 then ((some (y312 ++ [x1] : List Int)).bind fun y315=>((some (x0.drop (x5 : Int).toNat : List Int)).bind fun y318=>(if y315.length + y318.length < 17592186044416 then (some (y315 ++ y318)) else (none)))) else (none))) else (none))) else (none)))) else (none)) else (if 0 ≤ x5 then (if x5 ≤ (x0.length : Int) then ((some (x0.take (x5 : Int).toNat : List Int)).bind fun y325=>(if ([] : List Int).length + y325.length < 17592186044416 then ((some (([] : List Int) ++ y325 : List Int)).bind fun y329=>(if y329.length < 17592186044416 then ((some (y329 ++ [x1] : List Int)).bind fun y332=>((some (x0.drop (x5 : Int).toNat : List Int)).bind fun y335=>(if y332.length + y335.length < 17592186044416 then (some (y332 ++ y335)) else (none)))) else (none))) else (none))) else (none)) else (none))
def tidingsref01_put.f (k : Nat) (l0 : List Int) (a1 : Int) : Option (List Int):=tidingsref01_put.l0 k l0 a1 0
def tidingsref01_in.l0 : Nat → List (S67) → Int → Int → Int → Option (Bool)
 | 0,_,_,_,_=>none
 | k + 1,x0,x1,x2,x7=>if x7 < (x0.length : Int) then (if 0 ≤ x7 then (if ((rd_T67 x0 x7).f0) = x1 then (if x2 ≥ (IntKind.u64.wrap ((rd_T67 x0 x7).f1)) then (if x2 ≤ (IntKind.u64.wrap ((rd_T67 x0 x7).f2)) then (some true) else (tidingsref01_in.l0 k x0 x1 x2 (wrap64 (x7 + 1)))) else (tidingsref01_in.l0 k x0 x1 x2 (wrap64 (x7 + 1)))) else (tidingsref01_in.l0 k x0 x1 x2 (wrap64 (x7 + 1)))) else (none)) else (some false)
def tidingsref01_in.f (k : Nat) (l0 : List (S67)) (a1 : Int) (a2 : Int) : Option (Bool):=tidingsref01_in.l0 k l0 a1 a2 0
end Go.Proofs.YtiminjibcafkaaaGreatDoor.X
end
section
namespace Go.Proofs.YtiminjibcafkaaaGreatDoor.X
open RowKit YtiminjibcafkaaaGreatDoorW.PrintWords YtiminjibcafkaaaGreatDoorW.PrintLast YtiminjibcafkaaaGreatDoorW.PrintMore
attribute [local go_sem] max2_int min2_int max_two min_two max_three min_three max_four min_four
mutual
def tidingsref01_told.l0 : Nat → List (S67) → Int → Int → List (S67) → Int → Option ((List (S67)) × Int)
 | 0,_,_,_,_,_=>none
 | k + 1,x0,x1,x2,x8,x9=>if x9 < 8 then (tidingsref01_told.l1 k x0 x1 x2 x8 x9 ([] : List Int) 0) else (if (x8.length : Int) > 64 then (some (([] : List (S67)),5)) else (some (x8,0)))
def tidingsref01_told.l1 : Nat → List (S67) → Int → Int → List (S67) → Int → List Int → Int → Option ((List (S67)) × Int)
 | 0,_,_,_,_,_,_,_=>none
 | k + 1,x0,x1,x2,x8,x9,x10,x11=>if x11 < (x0.length : Int) then (if 0 ≤ x11 then (if (wrap64 ((rd_T67 x0 x11).f0)) = x9 then ((tidingsref01_put.f k x10 (IntKind.u64.wrap ((rd_T67 x0 x11).f1))).bind fun t347=>((tidingsref01_put.f k t347 (IntKind.u64.wrap ((IntKind.u64.wrap ((rd_T67 x0 x11).f2)) + 1))).bind fun t351=>(tidingsref01_told.l1 k x0 x1 x2 x8 x9 t351 (wrap64 (x11 + 1))))) else (tidingsref01_told.l1 k x0 x1 x2 x8 x9 x10 (wrap64 (x11 + 1)))) else (none)) else (if (wrap64 (x1)) = x9 then (tidingsref01_told.j2 k x0 x1 x2 x8 x9 x10 (decide (x2 > 0))) else (tidingsref01_told.j2 k x0 x1 x2 x8 x9 x10 false))
def tidingsref01_told.j2 : Nat → List (S67) → Int → Int → List (S67) → Int → List Int → Bool → Option ((List (S67)) × Int)
 | 0,_,_,_,_,_,_,_=>none
 | k + 1,x0,x1,x2,x8,x9,x10,x57=>if x57 = true then ((tidingsref01_put.f k x10 (IntKind.u64.wrap (x2))).bind fun t354=>((tidingsref01_put.f k t354 (IntKind.u64.wrap ((IntKind.u64.wrap (x2)) + 1))).bind fun t357=>(tidingsref01_told.j3 k x0 x1 x2 x8 x9 t357))) else (tidingsref01_told.j3 k x0 x1 x2 x8 x9 x10)
def tidingsref01_told.j3 : Nat → List (S67) → Int → Int → List (S67) → Int → List Int → Option ((List (S67)) × Int)
 | 0,_,_,_,_,_,_=>none
 | k + 1,x0,x1,x2,x8,x9,x10=>tidingsref01_told.l2 k x0 x1 x2 x8 x9 x10 false 0
def tidingsref01_told.l2 : Nat → List (S67) → Int → Int → List (S67) → Int → List Int → Bool → Int → Option ((List (S67)) × Int)
 | 0,_,_,_,_,_,_,_,_=>none
 | k + 1,x0,x1,x2,x8,x9,x10,x12,x13=>if x13 < (x10.length : Int) then (if 0 ≤ x13 then ((tidingsref01_in.f k x0 ((x9) % 256) (rd x10 x13)).bind fun t361=>(if t361 = true then (if (wrap64 (x1)) = x9 then (if x2 > 0 then (tidingsref01_told.j5 k x0 x1 x2 x8 x9 x10 x12 x13 (!((rd x10 x13) == (IntKind.u64.wrap (x2))))) else (tidingsref01_told.j5 k x0 x1 x2 x8 x9 x10 x12 x13 (!false))) else (tidingsref01_told.j5 k x0 x1 x2 x8 x9 x10 x12 x13 (!false))) else (tidingsref01_told.j5 k x0 x1 x2 x8 x9 x10 x12 x13 false))) else (none)) else (tidingsref01_told.l0 k x0 x1 x2 x8 (wrap64 (x9 + 1)))
def tidingsref01_told.j5 : Nat → List (S67) → Int → Int → List (S67) → Int → List Int → Bool → Int → Bool → Option ((List (S67)) × Int)
 | 0,_,_,_,_,_,_,_,_,_=>none
 | k + 1,x0,x1,x2,x8,x9,x10,x12,x13,x14=>if x14 = true then (tidingsref01_told.j6 k x0 x1 x2 x8 x9 x10 x12 x13 x14 (!x12)) else (tidingsref01_told.j6 k x0 x1 x2 x8 x9 x10 x12 x13 x14 false)
def tidingsref01_told.j6 : Nat → List (S67) → Int → Int → List (S67) → Int → List Int → Bool → Int → Bool → Bool → Option ((List (S67)) × Int)
 | 0,_,_,_,_,_,_,_,_,_,_=>none
 | k + 1,x0,x1,x2,x8,x9,x10,x12,x13,x14,x105=>if x105 = true then (if 0 ≤ x13 then (if x13 < (x10.length : Int) then (if x8.length < 11728124029610 then ((some (x8 ++ [(⟨(x9) % 256,(rd x10 x13) % 4294967296,0⟩ : S67)] : List (S67))).bind fun y364=>(if x14 = true then (tidingsref01_told.l2 k x0 x1 x2 y364 x9 x10 x14 (wrap64 (x13 + 1))) else (if x12 = true then (if 0 ≤ (wrap64 ((y364.length : Int) - 1)) then (if (wrap64 ((y364.length : Int) - 1)) < (y364.length : Int) then (tidingsref01_told.l2 k x0 x1 x2 (y364.set ((wrap64 ((y364.length : Int) - 1)) : Int).toNat (⟨(rd_T67 y364 (wrap64 ((y364.length : Int) - 1))).f0,(rd_T67 y364 (wrap64 ((y364.length : Int) - 1))).f1,(IntKind.u64.wrap ((rd x10 x13) - 1)) % 4294967296⟩ : S67)) x9 x10 x14 (wrap64 (x13 + 1))) else (none)) else (none)) else (tidingsref01_told.l2 k x0 x1 x2 y364 x9 x10 x14 (wrap64 (x13 + 1)))))) else (none)) else (none)) else (none)) else (if x14 = true then (tidingsref01_told.l2 k x0 x1 x2 x8 x9 x10 x14 (wrap64 (x13 + 1))) else (if x12 = true then (if 0 ≤ x13 then (if x13 < (x10.length : Int) then (if 0 ≤ (wrap64 ((x8.length : Int) - 1)) then (if (wrap64 ((x8.length : Int) - 1)) < (x8.length : Int) then (tidingsref01_told.l2 k x0 x1 x2 (x8.set ((wrap64 ((x8.length : Int) - 1)) : Int).toNat (⟨(rd_T67 x8 (wrap64 ((x8.length : Int) - 1))).f0,(rd_T67 x8 (wrap64 ((x8.length : Int) - 1))).f1,(IntKind.u64.wrap ((rd x10 x13) - 1)) % 4294967296⟩ : S67)) x9 x10 x14 (wrap64 (x13 + 1))) else (none)) else (none)) else (none)) else (none)) else (tidingsref01_told.l2 k x0 x1 x2 x8 x9 x10 x14 (wrap64 (x13 + 1)))))
end
def tidingsref01_told.f (k : Nat) (l0 : List (S67)) (a1 : Int) (a2 : Int) : Option ((List (S67)) × Int):=tidingsref01_told.l0 k l0 a1 a2 ([] : List (S67)) 0
end Go.Proofs.YtiminjibcafkaaaGreatDoor.X
end
section
namespace Go.Proofs.YtiminjibcafkaaaGreatDoor.X
open RowKit YtiminjibcafkaaaGreatDoorW.PrintWords YtiminjibcafkaaaGreatDoorW.PrintLast YtiminjibcafkaaaGreatDoorW.PrintMore
attribute [local go_sem] max2_int min2_int max_two min_two max_three min_three max_four min_four
def tidingsref01_Add.f (k : Nat) (l0 : List (S67)) (a1 : Int) (a2 : Int) : Option ((List (S67)) × Int):=(tidingsref01_Right.f k l0).bind fun t371=>(if t371 = true then (if a1 ≥ 8 then (some (([] : List (S67)),9)) else (if a2 = 0 then (some (([] : List (S67)),9)) else ((some (([] : List (S67)) : List (S67))).bind fun y372=>(if y372.length + l0.length < 11728124029610 then ((some (y372 ++ l0 : List (S67))).bind fun y375=>(if y375.length < 11728124029610 then ((tidingsref01_told.f k (y375 ++ [(⟨a1,a2,a2⟩ : S67)]) 0 0).bind fun bt381=>(some (bt381.1,bt381.2))) else (none))) else (none))))) else (some (([] : List (S67)),9)))
def tidingsref01_Union.f (k : Nat) (l0 : List (S67)) (l1 : List (S67)) : Option ((List (S67)) × Int):=(tidingsref01_Right.f k l0).bind fun t385=>(if t385 = true then ((tidingsref01_Right.f k l1).bind fun t386=>(if t386 = true then ((some (([] : List (S67)) : List (S67))).bind fun y387=>(if y387.length + l0.length < 11728124029610 then ((some (y387 ++ l0 : List (S67))).bind fun y390=>(if y390.length + l1.length < 11728124029610 then ((tidingsref01_told.f k (y390 ++ l1) 0 0).bind fun bt396=>(some (bt396.1,bt396.2))) else (none))) else (none))) else (some (([] : List (S67)),9)))) else (some (([] : List (S67)),9)))
def tidingsref02_Fade.f (a0_0 : Int) (a0_1 : Int) (a0_2 : Int) (a0_3 : Int) (a0_4 : Int) (a0_5 : Int) (a0_6 : Int) : Option (Int × Int × Int × Int × Int × Int × Int):=if a0_4 = 1 then (some (a0_0,a0_1,a0_2,a0_3,2,a0_5,0)) else (some (a0_0,a0_1,a0_2,a0_3,a0_4,a0_5,a0_6))
def tidingsref02_Less.f (a0_0 : Int) (a0_1 : Int) (a0_2 : Int) (a1_0 : Int) (a1_1 : Int) (a1_2 : Int) : Option (Bool):=if a0_2 = a1_2 then (if a0_0 = a1_0 then (some (decide (a0_1 < a1_1))) else (some (decide (a0_0 < a1_0)))) else (some (decide (a0_2 < a1_2)))
set_option maxHeartbeats 8000000 in
set_option maxRecDepth 100000 in
theorem tidingsref02_Less.calls (a0_0 : Int) (a0_1 : Int) (a0_2 : Int) (a1_0 : Int) (a1_1 : Int) (a1_2 : Int) (r : Bool) (w : World) (h : tidingsref02_Less.f a0_0 a0_1 a0_2 a1_0 a1_1 a1_2 = some r) :
 Calls Tryz.prog 28 #[.agg #[.int .u8 a0_0,.int .u32 a0_1,.int .u32 a0_2],.agg #[.int .u8 a1_0,.int .u32 a1_1,.int .u32 a1_2]] w fun e w'=>e = .returned (.bool r) ∧ Below w.heap.size w w':=by
 have hu60:=Tryz.underlying60;have H:=zA h;clear h;go_enter Tryz.func28,Tryz.ntmps28;go_wp2
 all_goals (try go_ret)
 all_goals (have h:=H.out;clear H;simp only [tidingsref02_Less.f] at h)
 all_goals (refine ⟨?_,by ((repeat (first | exact zS _ _ | refine Below.alloc ?_ (by first | exact zM _ | (simp;done)) _));done)⟩)
 all_goals (((repeat' (split at h))<;>first | (exfalso;simp_all;done) | (simp [*] at h;subst h;simp [*];done)))
end Go.Proofs.YtiminjibcafkaaaGreatDoor.X
end
section
namespace Go.Proofs.YtiminjibcafkaaaGreatDoor.X
open RowKit YtiminjibcafkaaaGreatDoorW.PrintWords YtiminjibcafkaaaGreatDoorW.PrintLast YtiminjibcafkaaaGreatDoorW.PrintMore
attribute [local go_sem] max2_int min2_int max_two min_two max_three min_three max_four min_four
attribute [local go_sem high] eqA60
mutual
def tidingsref02_Take.l0 : Nat → List (S62) → List (S62) → Bool → Int → Int → Int → Int → Int → Int → Int → Int → Option ((List (S62)))
 | 0,_,_,_,_,_,_,_,_,_,_,_=>none
 | k + 1,x0,x5,x6,x7,x405000,x405001,x405002,x405003,x405004,x405005,x405006=>if x7 < (x0.length : Int) then (if 0 ≤ x7 then (if ((rd_T62 x0 x7).f0) > x405000 then (tidingsref02_Take.j1 k x0 x5 x6 x7 (!x6) x405000 x405001 x405002 x405003 x405004 x405005 x405006 ((rd_T62 x0 x7).f0) ((rd_T62 x0 x7).f1.f0) ((rd_T62 x0 x7).f1.f1) ((rd_T62 x0 x7).f1.f2) ((rd_T62 x0 x7).f2) ((rd_T62 x0 x7).f3) ((rd_T62 x0 x7).f4)) else (tidingsref02_Take.j1 k x0 x5 x6 x7 false x405000 x405001 x405002 x405003 x405004 x405005 x405006 ((rd_T62 x0 x7).f0) ((rd_T62 x0 x7).f1.f0) ((rd_T62 x0 x7).f1.f1) ((rd_T62 x0 x7).f1.f2) ((rd_T62 x0 x7).f2) ((rd_T62 x0 x7).f3) ((rd_T62 x0 x7).f4))) else (none)) else (if x6 = true then (some x5) else (if x5.length < 4398046511104 then (some (x5 ++ [(⟨x405000,(⟨x405001,x405002,x405003⟩ : S60),x405004,x405005,x405006⟩ : S62)])) else (none)))
def tidingsref02_Take.j1 : Nat → List (S62) → List (S62) → Bool → Int → Bool → Int → Int → Int → Int → Int → Int → Int → Int → Int → Int → Int → Int → Int → Int → Option ((List (S62)))
 | 0,_,_,_,_,_,_,_,_,_,_,_,_,_,_,_,_,_,_,_=>none
 | k + 1,x0,x5,x6,x7,x27,x405000,x405001,x405002,x405003,x405004,x405005,x405006,x410000,x410001,x410002,x410003,x410004,x410005,x410006=>if x27 = true then (if x5.length < 4398046511104 then (tidingsref02_Take.j2 k x0 (x5 ++ [(⟨x405000,(⟨x405001,x405002,x405003⟩ : S60),x405004,x405005,x405006⟩ : S62)]) true x7 x405000 x405001 x405002 x405003 x405004 x405005 x405006 x410000 x410001 x410002 x410003 x410004 x410005 x410006) else (none)) else (tidingsref02_Take.j2 k x0 x5 x6 x7 x405000 x405001 x405002 x405003 x405004 x405005 x405006 x410000 x410001 x410002 x410003 x410004 x410005 x410006)
def tidingsref02_Take.j2 : Nat → List (S62) → List (S62) → Bool → Int → Int → Int → Int → Int → Int → Int → Int → Int → Int → Int → Int → Int → Int → Int → Option ((List (S62)))
 | 0,_,_,_,_,_,_,_,_,_,_,_,_,_,_,_,_,_,_=>none
 | k + 1,x0,x5,x6,x7,x405000,x405001,x405002,x405003,x405004,x405005,x405006,x410000,x410001,x410002,x410003,x410004,x410005,x410006=>if x410000 = x405000 then ((tidingsref02_Less.f x410001 x410002 x410003 x405001 x405002 x405003).bind fun t413=>(if t413 = true then (if x5.length < 4398046511104 then (tidingsref02_Take.l0 k x0 (x5 ++ [(⟨x405000,(⟨x405001,x405002,x405003⟩ : S60),x405004,x405005,x405006⟩ : S62)]) true (wrap64 (x7 + 1)) x405000 x405001 x405002 x405003 x405004 x405005 x405006) else (none)) else (if (x410001 == x405001 && (x410002 == x405002 && (x410003 == x405003))) = true then (if x410004 = 2 then (if x405004 = 2 then (if x5.length < 4398046511104 then (tidingsref02_Take.l0 k x0 (x5 ++ [(⟨x410000,(⟨x410001,x410002,x410003⟩ : S60),x410004,x410005,x410006⟩ : S62)]) true (wrap64 (x7 + 1)) x405000 x405001 x405002 x405003 x405004 x405005 x405006) else (none)) else (if x5.length < 4398046511104 then (tidingsref02_Take.l0 k x0 (x5 ++ [(⟨x405000,(⟨x405001,x405002,x405003⟩ : S60),x405004,x405005,x405006⟩ : S62)]) true (wrap64 (x7 + 1)) x405000 x405001 x405002 x405003 x405004 x405005 x405006) else (none))) else (if x5.length < 4398046511104 then (tidingsref02_Take.l0 k x0 (x5 ++ [(⟨x410000,(⟨x410001,x410002,x410003⟩ : S60),x410004,x410005,x410006⟩ : S62)]) true (wrap64 (x7 + 1)) x405000 x405001 x405002 x405003 x405004 x405005 x405006) else (none))) else (if x5.length < 4398046511104 then (tidingsref02_Take.l0 k x0 (x5 ++ [(⟨x410000,(⟨x410001,x410002,x410003⟩ : S60),x410004,x410005,x410006⟩ : S62)]) true (wrap64 (x7 + 1)) x405000 x405001 x405002 x405003 x405004 x405005 x405006) else (none))))) else (if x5.length < 4398046511104 then (tidingsref02_Take.l0 k x0 (x5 ++ [(⟨x410000,(⟨x410001,x410002,x410003⟩ : S60),x410004,x410005,x410006⟩ : S62)]) x6 (wrap64 (x7 + 1)) x405000 x405001 x405002 x405003 x405004 x405005 x405006) else (none))
end
def tidingsref02_Take.f (k : Nat) (l0 : List (S62)) (a1_0 : Int) (a1_1 : Int) (a1_2 : Int) (a1_3 : Int) (a1_4 : Int) (a1_5 : Int) (a1_6 : Int) : Option ((List (S62))):=tidingsref02_Take.l0 k l0 ([] : List (S62)) false 0 a1_0 a1_1 a1_2 a1_3 a1_4 a1_5 a1_6
end Go.Proofs.YtiminjibcafkaaaGreatDoor.X
end
