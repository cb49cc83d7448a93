/- Texts that this claim's law comes to, joined by wip/slim.py: Xcode, Xcode2. -/
import Derived.Test.YtiminjibcafkaaaGreatDoorTBJ4
import Derived.Test.YtiminjibcafkaaaGreatDoorTBJ5
import Derived.WalkKit
import Derived.LaidEql
import Derived.Stop.Asserts
import Derived.RowKitTokens
section
/- errors.As at a target of type *api.Code, and tidingslaw01.Code: the number of an error that is nil or a code. After the kit's worked example ToyasAs. -/
namespace Go.Proofs.YtiminjibcafkaaaGreatDoor.X
open Go.RowKit Go.Extern.Stop Go.Stop Go.Extern Go.Proofs.YtiminjibcafkaaaGreatDoorW.PrintWords Go.Proofs.YtiminjibcafkaaaGreatDoorW.PrintLast Go.Proofs.YtiminjibcafkaaaGreatDoorW.PrintMore
set_option linter.unusedVariables false
set_option linter.unusedSimpArgs false
/-- What errors.errorType holds. -/
def GT (w : World) : Prop:=w.cell? ⟨0,0,none⟩ = some (.iface 145 (.agg #[.pointer (some ⟨1,35,none⟩)]))
theorem GT.lt {w : World} (h : GT w) : 0 < w.heap.size:=by
 rcases Nat.eq_zero_or_pos w.heap.size with h0 | h1
 ·unfold GT at h;simp [World.cell?,h0] at h
 ·exact h1
theorem GT.below {w w' : World} (h : GT w) (hb : Below w.heap.size w w') : GT w':=(Below.cell (p:=⟨0,0,none⟩) hb h.lt).trans h
namespace As
theorem valueOfP (t : Addr) (w : World) : (ReflectliteValue.unpack (.iface 85 (.pointer (some t)))).run Tryz.prog w
 = .ok (.agg #[.pointer (some ⟨1,85,none⟩),.pointer (some ⟨w.heap.size,0,none⟩),.int .u64 150]) (w.alloc (.cells #[.pointer (some t)] 85)):=by kernel_rfl
theorem typeP (a : Addr) (w : World) : (ReflectliteValue.methodAny (ReflectliteValue.valueError "reflectlite.Value.Type" 0) (fun t _ _ _=>ReflectliteType.toType t) #[.agg #[.pointer (some ⟨1,85,none⟩),.pointer (some a),.int .u64 150]]).run Tryz.prog w
 = .ok (.iface 145 (.agg #[.pointer (some ⟨1,85,none⟩)])) w:=by kernel_rfl
theorem methodKind (h : Value) (w : World) : (Go.method 314 145 (.agg #[h]) "Kind").run Tryz.prog w = .ok (153,h) w:=by kernel_rfl
theorem kindP (w : World) : ((ReflectliteType.abiMethod fun t=>(fun a : Nat=>Value.int IntKind.u8 (a : Int)) <$> Rtype.kind t) #[.pointer (some ⟨1,85,none⟩)]).run Tryz.prog w = .ok (.int .u8 22) w:=by kernel_rfl
theorem kindC (w : World) : ((ReflectliteType.abiMethod fun t=>(fun a : Nat=>Value.int IntKind.u8 (a : Int)) <$> Rtype.kind t) #[.pointer (some ⟨1,70,none⟩)]).run Tryz.prog w = .ok (.int .u8 2) w:=by kernel_rfl
theorem rlm (z : Sem Value) (f : TypeId → Addr → Nat → Nat → Sem Value) (v : Value) :
 ReflectliteValue.method z f #[v] = (do match ← ReflectliteValue.parts v with | none=>z | some (t,a,fl)=>f t a fl (fl % 32)):=rfl
theorem partsP (a : Addr) (w : World) : (ReflectliteValue.parts (.agg #[.pointer (some ⟨1,85,none⟩),.pointer (some a),.int .u64 150])).run Tryz.prog w = .ok (some (85,a,150)) w:=by kernel_rfl
theorem isNilP (a p : Addr) (W : World) (ha : W.cell? a = some (.pointer (some p))) :
 (ReflectliteValue.method (ReflectliteValue.valueError "reflectlite.Value.IsNil" 0) ReflectliteValue.isNil #[.agg #[.pointer (some ⟨1,85,none⟩),.pointer (some a),.int .u64 150]]).run Tryz.prog W = .ok (.bool false) W:=by
 rw [rlm]
 simp only [Sem.run_bind,partsP,Result.andThen]
 simp [ReflectliteValue.isNil,loadVar,isAgg,underlying,Tryz.underlying85,ha,Result.andThen]
theorem methodElem (h : Value) (w : World) : (Go.method 314 145 (.agg #[h]) "Elem").run Tryz.prog w = .ok (163,.agg #[h]) w:=by kernel_rfl
theorem methodImplements (h : Value) (w : World) : (Go.method 314 145 (.agg #[h]) "Implements").run Tryz.prog w = .ok (164,.agg #[h]) w:=by kernel_rfl
theorem methodAssignableTo (h : Value) (w : World) : (Go.method 314 145 (.agg #[h]) "AssignableTo").run Tryz.prog w = .ok (161,.agg #[h]) w:=by kernel_rfl
theorem elemP (w : World) : (ReflectliteType.method ReflectliteType.elem #[.agg #[.pointer (some ⟨1,85,none⟩)]]).run Tryz.prog w = .ok (.iface 145 (.agg #[.pointer (some ⟨1,70,none⟩)])) w:=by kernel_rfl
theorem implementsC (w : World) : (ReflectliteType.relation "Implements" ReflectliteType.implements_ #[.agg #[.pointer (some ⟨1,70,none⟩)],.iface 145 (.agg #[.pointer (some ⟨1,35,none⟩)])]).run Tryz.prog w = .ok (.bool true) w:=by kernel_rfl
theorem typeOfC (v : Value) (w : World) : (ReflectliteType.typeOf #[.iface 70 v]).run Tryz.prog w = .ok (.iface 145 (.agg #[.pointer (some ⟨1,70,none⟩)])) w:=by kernel_rfl
theorem assignableC (w : World) : (ReflectliteType.relation "AssignableTo" ReflectliteType.assignableTo #[.agg #[.pointer (some ⟨1,70,none⟩)],.iface 145 (.agg #[.pointer (some ⟨1,70,none⟩)])]).run Tryz.prog w = .ok (.bool true) w:=by kernel_rfl
theorem valueOfC (e : Int) (w : World) : (ReflectliteValue.unpack (.iface 70 (.int .i64 e))).run Tryz.prog w
 = .ok (.agg #[.pointer (some ⟨1,70,none⟩),.pointer (some ⟨w.heap.size,0,none⟩),.int .u64 130]) (w.alloc (.cells #[.int .i64 e] 70)):=by kernel_rfl
theorem elemOfP (w : World) : (Rtype.elem? 85).run Tryz.prog w = .ok (some 70) w:=by kernel_rfl
theorem mkC (p : Addr) (w : World) : (ReflectliteValue.mk 70 p ReflectliteValue.flagAddr).run Tryz.prog w = .ok (.agg #[.pointer (some ⟨1,70,none⟩),.pointer (some p),.int .u64 386]) w:=by kernel_rfl
theorem elemV (a p : Addr) (W : World) (ha : W.cell? a = some (.pointer (some p))) :
 (ReflectliteValue.method (ReflectliteValue.valueError "reflectlite.Value.Elem" 0) ReflectliteValue.elem #[.agg #[.pointer (some ⟨1,85,none⟩),.pointer (some a),.int .u64 150]]).run Tryz.prog W
  = .ok (.agg #[.pointer (some ⟨1,70,none⟩),.pointer (some p),.int .u64 386]) W:=by
 rw [rlm]
 simp only [Sem.run_bind,partsP,Result.andThen]
 simp [ReflectliteValue.elem,loadVar,isAgg,underlying,Tryz.underlying85,ha,Result.andThen,elemOfP,mkC]
theorem rls (v x : Value) : ReflectliteValue.set #[v,x] = (do
 let (some (dst,a,fl),some (src,b,_)):=(← ReflectliteValue.parts v,← ReflectliteValue.parts x)
  | unsupported (.noEntry "extern/(internal/reflectlite.Value).Set.zeroValue")
 if fl / ReflectliteValue.flagAddr % 2 == 0 then unsupported (.noEntry "extern/(internal/reflectlite.Value).Set.unaddressable")
 let val ← loadVar src b
 if ← Rtype.directlyAssignable dst src then storeVar dst a val
 else if ← Rtype.implements dst src then
  if (← Rtype.kind src) == 20 then
   match val with
   | .nilIface=>unsupported (.noEntry "extern/reflectlite: a nil value of one interface type handed on as a value of another")
   | _=>storeVar dst a val
  else storeVar dst a (.iface src val)
 else panicString ("reflectlite.Set: value of type " ++ (← Rtype.spelt src) ++ " is not assignable to type " ++ (← Rtype.spelt dst))
 pure (.tuple #[])):=rfl
theorem partsCa (a : Addr) (w : World) : (ReflectliteValue.parts (.agg #[.pointer (some ⟨1,70,none⟩),.pointer (some a),.int .u64 386])).run Tryz.prog w = .ok (some (70,a,386)) w:=by kernel_rfl
theorem partsC (a : Addr) (w : World) : (ReflectliteValue.parts (.agg #[.pointer (some ⟨1,70,none⟩),.pointer (some a),.int .u64 130])).run Tryz.prog w = .ok (some (70,a,130)) w:=by kernel_rfl
theorem directC (w : World) : (Rtype.directlyAssignable 70 70).run Tryz.prog w = .ok true w:=by kernel_rfl
theorem setC (ta b : Addr) (e : Int) (ov : Value) (W : World) (hb : W.cell? b = some (.int .i64 e)) (ht : W.cell? ta = some ov) (hf : W.frozen? ta = false) :
 (ReflectliteValue.set #[.agg #[.pointer (some ⟨1,70,none⟩),.pointer (some ta),.int .u64 386],.agg #[.pointer (some ⟨1,70,none⟩),.pointer (some b),.int .u64 130]]).run Tryz.prog W
  = .ok (.tuple #[]) (W.setCell ta (.int .i64 e)):=by
 rw [rls]
 simp only [Sem.run_bind,partsCa,partsC,Result.andThen]
 simp [ReflectliteValue.flagAddr,loadVar,isAgg,underlying,Tryz.underlying70,hb,Result.andThen,directC,storeVar,Value.cells,storeCells,Addr.add]
 rw [run_store Tryz.prog W ta _ _ (by rfl)]
 simp [ht,hf]
set_option maxRecDepth 100000 in
set_option maxHeartbeats 4000000 in
theorem as_code (e : Int) (t : Addr) (ov : Value) (w : World) (hg : w.cell? ⟨0,0,none⟩ = some (.iface 145 (.agg #[.pointer (some ⟨1,35,none⟩)]))) (ht0 : w.cell? t = some ov) (hf0 : w.frozen? t = false) :
 Calls Tryz.prog 45 #[.iface 70 (.int .i64 e),.iface 85 (.pointer (some t))] w fun ev w'=>ev = .returned (.bool true) ∧ w' = ((((w.alloc (.cells #[.pointer (some t)] 85)).alloc (.cells #[.pointer (some ⟨1,85,none⟩),.pointer (some ⟨w.heap.size,0,none⟩),.int .u64 150] 114)).alloc (.cells #[.pointer (some ⟨1,85,none⟩),.pointer (some ⟨w.heap.size,0,none⟩),.int .u64 150] 114)).alloc (.cells #[.int .i64 e] 70)).setCell t (.int .i64 e):=by
 have h6:=@run_callFunc_extern Tryz.prog 80 _ (fun args=>ReflectliteValue.unpack (args.getD 0 (.tuple #[]))) Tryz.func80 (by kernel_rfl) (by kernel_rfl) (by kernel_rfl) (by kernel_rfl)
 have h7:=@run_callFunc_extern Tryz.prog 81 _ (ReflectliteValue.methodAny (ReflectliteValue.valueError "reflectlite.Value.Type" 0) (fun t _ _ _=>ReflectliteType.toType t)) Tryz.func81 (by kernel_rfl) (by kernel_rfl) (by kernel_rfl) (by kernel_rfl)
 have h8:=@run_callFunc_extern Tryz.prog 82 _ (ReflectliteValue.method (ReflectliteValue.valueError "reflectlite.Value.IsNil" 0) ReflectliteValue.isNil) Tryz.func82 (by kernel_rfl) (by kernel_rfl) (by kernel_rfl) (by kernel_rfl)
 have h27:=@run_callFunc_extern Tryz.prog 153 _ (ReflectliteType.abiMethod fun t=>do pure (.int .u8 (← Rtype.kind t))) Tryz.func153 (by kernel_rfl) (by kernel_rfl) (by kernel_rfl) (by kernel_rfl)
 have h37:=@run_callFunc_extern Tryz.prog 163 _ (ReflectliteType.method ReflectliteType.elem) Tryz.func163 (by kernel_rfl) (by kernel_rfl) (by kernel_rfl) (by kernel_rfl)
 have h38:=@run_callFunc_extern Tryz.prog 164 _ (ReflectliteType.relation "Implements" ReflectliteType.implements_) Tryz.func164 (by kernel_rfl) (by kernel_rfl) (by kernel_rfl) (by kernel_rfl)
 have h10:=@run_callFunc_extern Tryz.prog 110 _ ReflectliteType.typeOf Tryz.func110 (by kernel_rfl) (by kernel_rfl) (by kernel_rfl) (by kernel_rfl)
 have h35:=@run_callFunc_extern Tryz.prog 161 _ (ReflectliteType.relation "AssignableTo" ReflectliteType.assignableTo) Tryz.func161 (by kernel_rfl) (by kernel_rfl) (by kernel_rfl) (by kernel_rfl)
 have h11:=@run_callFunc_extern Tryz.prog 111 _ (ReflectliteValue.method (ReflectliteValue.valueError "reflectlite.Value.Elem" 0) ReflectliteValue.elem) Tryz.func111 (by kernel_rfl) (by kernel_rfl) (by kernel_rfl) (by kernel_rfl)
 have h12:=@run_callFunc_extern Tryz.prog 112 _ ReflectliteValue.set Tryz.func112 (by kernel_rfl) (by kernel_rfl) (by kernel_rfl) (by kernel_rfl)
 have tO:=typeOfC
 have mA:=methodAssignableTo
 have a25:=assignableC
 have v25:=valueOfC
 have f6:=valueOfP
 have f7:=typeP
 have mK:=methodKind
 have mE:=methodElem
 have mI:=methodImplements
 have k27:=kindP
 have k25:=kindC
 have e27:=elemP
 have i25:=implementsC
 have n8:=isNilP ⟨w.heap.size,0,none⟩ t ((w.alloc (.cells #[.pointer (some t)] 85)).alloc (.cells #[.pointer (some ⟨1,85,none⟩),.pointer (some ⟨w.heap.size,0,none⟩),.int .u64 150] 114)) (by simp)
 have hlt : 0 < w.heap.size:=GT.lt hg
 have hg2 : ((w.alloc (.cells #[.pointer (some t)] 85)).alloc (.cells #[.pointer (some ⟨1,85,none⟩),.pointer (some ⟨w.heap.size,0,none⟩),.int .u64 150] 114)).cell? ⟨0,0,none⟩ = some (.iface 145 (.agg #[.pointer (some ⟨1,35,none⟩)])):=by
  rw [World.cell?_alloc_lt _ _ ⟨0,0,none⟩ (by simp),World.cell?_alloc_lt _ _ ⟨0,0,none⟩ hlt];exact hg
 have htl : t.block < w.heap.size:=by
  rcases Nat.lt_or_ge t.block w.heap.size with h | h
  ·exact h
  ·simp [World.cell?,Array.getElem?_eq_none h] at ht0
 have el:=elemV ⟨w.heap.size,0,none⟩ t (((w.alloc (.cells #[.pointer (some t)] 85)).alloc (.cells #[.pointer (some ⟨1,85,none⟩),.pointer (some ⟨w.heap.size,0,none⟩),.int .u64 150] 114)).alloc (.cells #[.pointer (some ⟨1,85,none⟩),.pointer (some ⟨w.heap.size,0,none⟩),.int .u64 150] 114)) (by rw [World.cell?_alloc_lt _ _ ⟨w.heap.size,0,none⟩ (by simp;omega)];simp)
 have st:=setC t ⟨w.heap.size + 1 + 1 + 1,0,none⟩ e ov ((((w.alloc (.cells #[.pointer (some t)] 85)).alloc (.cells #[.pointer (some ⟨1,85,none⟩),.pointer (some ⟨w.heap.size,0,none⟩),.int .u64 150] 114)).alloc (.cells #[.pointer (some ⟨1,85,none⟩),.pointer (some ⟨w.heap.size,0,none⟩),.int .u64 150] 114)).alloc (.cells #[.int .i64 e] 70))
  (by rw [World.cell?_alloc_at _ _ _ _ (by simp)];rfl)
  (by rw [World.cell?_alloc_lt _ _ t (by simp;omega),World.cell?_alloc_lt _ _ t (by simp;omega),World.cell?_alloc_lt _ _ t (by simp;omega),World.cell?_alloc_lt _ _ t htl];exact ht0)
  (by rw [World.frozen?_alloc_old _ _ t (by simp;omega),World.frozen?_alloc_old _ _ t (by simp;omega),World.frozen?_alloc_old _ _ t (by simp;omega),World.frozen?_alloc_old _ _ t (Nat.ne_of_lt htl)];exact hf0)
 go_enter Tryz.func45,Tryz.ntmps45
 go_wp2
 refine wp_loop_rounds 1 ?_
 rw [rounds_succ]
 go_wp2
 go_ret
 exact ⟨rfl,rfl⟩
end As
end Go.Proofs.YtiminjibcafkaaaGreatDoor.X
end
section
/- tidingslaw01.Code: the number of an error that is nil or a code. -/
namespace Go.Proofs.YtiminjibcafkaaaGreatDoor.X
open Go.RowKit Go.Proofs.YtiminjibcafkaaaGreatDoorW.PrintWords Go.Proofs.YtiminjibcafkaaaGreatDoorW.PrintLast Go.Proofs.YtiminjibcafkaaaGreatDoorW.PrintMore
set_option linter.unusedVariables false
set_option linter.unusedSimpArgs false
def codeOf : Option Int → Int
 | none=>0
 | some c=>if c > 0 then c else -1
set_option maxRecDepth 100000 in
set_option maxHeartbeats 4000000 in
theorem Code_calls (r : Option Int) (w : World) (hg : GT w) : Calls Tryz.prog 11 #[errW r] w fun e w'=>e = .returned (.int .i64 (codeOf r)) ∧ Below w.heap.size w w':=by
 cases r with
 | none =>
  rw [errW_none]
  go_enter Tryz.func11,Tryz.ntmps11
  go_wp2
  go_ret
  exact ⟨rfl,Below.refl _ _⟩
 | some c =>
  rw [errW_some]
  have hlt:=hg.lt
  have hg1 : (w.alloc (.cells #[.int .i64 0] 70)).cell? ⟨0,0,none⟩ = some (.iface 145 (.agg #[.pointer (some ⟨1,35,none⟩)])):=by
   rw [World.cell?_alloc_lt _ _ ⟨0,0,none⟩ hlt];exact hg
  have HG:=Aside0.mk hg1
  have hc:=As.as_code c ⟨w.heap.size,0,none⟩ (.int .i64 0) (w.alloc (.cells #[.int .i64 0] 70)) HG.out (by simp) (by simp)
  clear hg hg1 HG
  have hb : ∀ w',w' = (((((w.alloc (.cells #[.int .i64 0] 70)).alloc (.cells #[.pointer (some ⟨w.heap.size,0,none⟩)] 85)).alloc (.cells #[.pointer (some ⟨1,85,none⟩),.pointer (some ⟨(w.alloc (.cells #[.int .i64 0] 70)).heap.size,0,none⟩),.int .u64 150] 114)).alloc (.cells #[.pointer (some ⟨1,85,none⟩),.pointer (some ⟨(w.alloc (.cells #[.int .i64 0] 70)).heap.size,0,none⟩),.int .u64 150] 114)).alloc (.cells #[.int .i64 c] 70)).setCell ⟨w.heap.size,0,none⟩ (.int .i64 c) → Below w.heap.size w w' ∧ w'.cell? ⟨w.heap.size,0,none⟩ = some (.int .i64 c):=by
   rintro w' rfl
   constructor
   ·exact (((((((Below.refl _ w).alloc (Nat.le_refl _) _).alloc (by simp) _).alloc (by simp;omega) _).alloc (by simp;omega) _).alloc (by simp;omega) _)).setCell (Nat.le_refl _) _
   ·have h0 : (w.alloc (.cells #[.int .i64 0] 70)).heap[w.heap.size]? = some (.cells #[.int .i64 0] 70 (0,0)):=blk_new w _
    exact (blk_cell (blk_put (blk_alloc (blk_alloc (blk_alloc (blk_alloc h0 _) _) _) _) 0 _ rfl) 0).trans rfl
  replace hc:=hc.mono fun e w' h=>And.intro h.1 (hb w' h.2)
  clear hb
  by_cases hp : c > 0
  ·have hd : decide (c > 0) = true:=decide_eq_true hp
   have hd2 : decide (0 < c) = true:=decide_eq_true hp
   go_enter Tryz.func11,Tryz.ntmps11
   go_wp2_with (go_at_call 45;refine hc.mono ?_;rintro e w1 ⟨rfl,hb1,hc1⟩)
   go_ret
   exact ⟨by simp [codeOf,hp],hb1⟩
  ·have hd : decide (c > 0) = false:=decide_eq_false hp
   have hd2 : decide (0 < c) = false:=decide_eq_false hp
   go_enter Tryz.func11,Tryz.ntmps11
   go_wp2_with (go_at_call 45;refine hc.mono ?_;rintro e w1 ⟨rfl,hb1,hc1⟩)
   go_ret
   exact ⟨by (simp [codeOf];intro h;omega),hb1⟩
end Go.Proofs.YtiminjibcafkaaaGreatDoor.X
end
