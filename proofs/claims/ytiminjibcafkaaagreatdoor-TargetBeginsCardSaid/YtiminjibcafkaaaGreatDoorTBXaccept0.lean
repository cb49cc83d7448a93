/- target.Accept: what is deferred; its results. -/
import Derived.Test.YtiminjibcafkaaaGreatDoorTBXhknowUnion
import Derived.Test.YtiminjibcafkaaaGreatDoorTBXpull
import Derived.Test.YtiminjibcafkaaaGreatDoorTBJ8
import Derived.Test.YtiminjibcafkaaaGreatDoorTBXmust
import Derived.Recover
namespace Go.Proofs.YtiminjibcafkaaaGreatDoor.X
open Go.RowKit Go.Proofs.YtiminjibcafkaaaGreatDoorW.PrintWords Go.Proofs.YtiminjibcafkaaaGreatDoorW.PrintLast Go.Proofs.YtiminjibcafkaaaGreatDoorW.PrintMore
set_option linter.unusedVariables false
set_option linter.unusedSimpArgs false
theorem acc_results {fn : Func} (h : fn.results = #[.cell 4 28,.cell 5 30,.cell 6 4,.cell 7 35]) (tmps : Array Value) (w : World) (go gn gm gx : Nat) (CO CN : Array Value) (m ev : Value)
 (h4 : tmps.getD 4 undef = .pointer (some ⟨go,0,none⟩)) (h5 : tmps.getD 5 undef = .pointer (some ⟨gn,0,none⟩)) (h6 : tmps.getD 6 undef = .pointer (some ⟨gm,0,none⟩)) (h7 : tmps.getD 7 undef = .pointer (some ⟨gx,0,none⟩))
 (ho : w.heap[go]? = some (.cells CO 28 (0,0))) (hn : w.heap[gn]? = some (.cells CN 30 (0,0))) (hm : w.heap[gm]? = some (.cells #[m] 4 (0,0))) (hx : w.heap[gx]? = some (.cells #[ev] 35 (0,0))) (so : CO.size = 13) (sn : CN.size = 12) :
 (results fn tmps).run Tryz.prog w = .ok (.tuple #[.agg CO,.agg CN,m,ev]) w:=by
 have e4 : tmps[4]?.getD undef = .pointer (some ⟨go,0,none⟩):=by simpa using h4
 have e5 : tmps[5]?.getD undef = .pointer (some ⟨gn,0,none⟩):=by simpa using h5
 have e6 : tmps[6]?.getD undef = .pointer (some ⟨gm,0,none⟩):=by simpa using h6
 have e7 : tmps[7]?.getD undef = .pointer (some ⟨gx,0,none⟩):=by simpa using h7
 have hi1 : (Tryz.prog.info? 28).map (·.size) = some CO.size:=by rw [so];kernel_rfl
 have hi2 : (Tryz.prog.info? 30).map (·.size) = some CN.size:=by rw [sn];kernel_rfl
 have r1:=run_loadVar_row (P:=Tryz.prog) w go 28 28 CO (0,0) _ ho Tryz.underlying28 rfl hi1
 have r2:=run_loadVar_row (P:=Tryz.prog) w gn 30 30 CN (0,0) _ hn Tryz.underlying30 rfl hi2
 have cm : w.cell? ⟨gm,0,none⟩ = some m:=(blk_cell hm 0).trans rfl
 have cx : w.cell? ⟨gx,0,none⟩ = some ev:=(blk_cell hx 0).trans rfl
 have r3 : (loadVar 4 ⟨gm,0,none⟩).run Tryz.prog w = .ok m w:=by simp [loadVar,isAgg,underlying,Tryz.underlying4,cm]
 have r4 : (loadVar 35 ⟨gx,0,none⟩).run Tryz.prog w = .ok ev w:=by simp [loadVar,isAgg,underlying,Tryz.underlying35,cx]
 clear hi1 hi2 cm cx
 simp [results,h,e4,e5,e6,e7,asAddr,r1,r2,r3,r4]
theorem leaves_nil {P : Program} {fn : Func} {tmps : Array Value} {R : Ending → World → Prop} {w : World} {v : Value} (hr : (results fn tmps).run P w = .ok v w) (h : R (.returned v) w) : Leaves P fn tmps R [] .returning w:=⟨v,hr,h⟩
theorem union_On (k : Nat) (A : Option Addr) (c : Nat) (l : List S67) (B : Option Addr) (d : Nat) (m : List S67) (u : List S67) (r : Option Int) (w : World) (S : Nat → Prop) (h : Kd.C k67 w A l.length l) (hc : l.length ≤ c) (h' : Kd.C k67 w B m.length m) (hc' : m.length ≤ d) (hS : ∀ j,w.heap.size ≤ j → S j) (hu : know_Union.f k l m = some (u,r)) :
 Calls Tryz.prog 38 #[.slice A l.length c,.slice B m.length d] w fun e w'=>∃ T e1,e = .returned (.tuple #[.slice T u.length e1,errW r]) ∧ On k67 w' S T e1 u ∧ Below w.heap.size w w':=by
 refine (know_Union.calls k A c l B d m u r w h hc h' hc' hu).mono ?_
 rintro e w' ⟨v,rfl,hR,hx⟩
 obtain ⟨T,d,rfl⟩:=Kd.R_slice hR
 exact ⟨T,d,rfl,.of_R hR (fun k _ h=>hS k h),hx⟩
theorem catch_none (go gn gm gx : Nat) (w : World) : CallsD Tryz.prog 34 #[.pointer (some ⟨go,0,none⟩),.pointer (some ⟨gn,0,none⟩),.pointer (some ⟨gm,0,none⟩),.pointer (some ⟨gx,0,none⟩)] .returning w fun e u' w'=>e = .returned (.tuple #[]) ∧ u' = .returning ∧ w' = w:=by
 refine callsD_of_wpS Tryz.func34 rfl fun c₀ cs hu=>?_
 apply wpS_seq
 apply wpS_region
 simp [wpOpsS,go_sem,recoverD,hu,Tryz.ntmps34,Exit.thenS]
 apply wpS_seq
 apply wpS_region
 simp [wpOpsS,go_sem,recoverD,hu,Tryz.ntmps34,Exit.thenS]
 refine wpS_cond (t:=false) (by simp [Act.eval,Array.replicate]) ?_
 simp only [Bool.false_eq_true,if_false]
 refine wpS_of_wp (wp_skip ?_)
 cases c₀
 simp_all [bodyPostS,results]
end Go.Proofs.YtiminjibcafkaaaGreatDoor.X
