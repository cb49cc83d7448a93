/- Texts that this claim's law comes to, joined by wip/slim.py: TAJ7, TAXcode2. -/
import Derived.Test.YtiminjibcafkaaaGreatDoorTGTAJ4
import Derived.Test.YtiminjibcafkaaaGreatDoorTGTAJ5
import Derived.WalkKit
import Derived.LaidEql
import Derived.Stop.Asserts
import Derived.RowKitTokens
set_option linter.unusedSimpArgs false
set_option linter.unusedVariables false
section
section
namespace Go.Proofs.YtiminjibcafkaaaGreatDoor.X
open Go.RowKit Go.Extern.Stop Go.Stop Go.Extern Go.Proofs.YtiminjibcafkaaaGreatDoorW.PrintWords Go.Proofs.YtiminjibcafkaaaGreatDoorW.PrintLast Go.Proofs.YtiminjibcafkaaaGreatDoorW.PrintMore
def GT (w : World) : Prop:=w.cell? ⟨0,0,none⟩ = some (.iface 145 (.agg #[.pointer (some ⟨1,35,none⟩)]))
theorem GT.lt {w : World} (h : GT w) : 0 < w.heap.size:=by
 rcases Nat.eq_zero_or_pos w.heap.size with h0 | h1
 ·unfold GT at h;simp [World.cell?,h0] at h
 ·exact h1
theorem GT.below {w w' : World} (h : GT w) (hb : Below w.heap.size w w') : GT w':=(Below.cell (p:=⟨0,0,none⟩) hb h.lt).trans h
namespace As
theorem valueOfP (t : Addr) (w : World) : (ReflectliteValue.unpack (.iface 85 (.pointer (some t)))).run Tryz.prog w
 = .ok (.agg #[.pointer (some ⟨1,85,none⟩),.pointer (some ⟨w.heap.size,0,none⟩),.int .u64 150]) (w.alloc (.cells #[.pointer (some t)] 85)):=by kernel_rfl
theorem typeP (a : Addr) (w : World) : (ReflectliteValue.methodAny (ReflectliteValue.valueError "reflectlite.Value.Type" 0) (fun t _ _ _=>ReflectliteType.toType t) #[.agg #[.pointer (some ⟨1,85,none⟩),.pointer (some a),.int .u64 150]]).run Tryz.prog w
 = .ok (.iface 145 (.agg #[.pointer (some ⟨1,85,none⟩)])) w:=by kernel_rfl
theorem methodKind (h : Value) (w : World) : (Go.method 314 145 (.agg #[h]) "Kind").run Tryz.prog w = .ok (153,h) w:=by kernel_rfl
theorem kindP (w : World) : ((ReflectliteType.abiMethod fun t=>(fun a : Nat=>Value.int IntKind.u8 (a : Int)) <$> Rtype.kind t) #[.pointer (some ⟨1,85,none⟩)]).run Tryz.prog w = .ok (.int .u8 22) w:=by kernel_rfl
theorem kindC (w : World) : ((ReflectliteType.abiMethod fun t=>(fun a : Nat=>Value.int IntKind.u8 (a : Int)) <$> Rtype.kind t) #[.pointer (some ⟨1,70,none⟩)]).run Tryz.prog w = .ok (.int .u8 2) w:=by kernel_rfl
theorem rlm (z : Sem Value) (f : TypeId → Addr → Nat → Nat → Sem Value) (v : Value) :
 ReflectliteValue.method z f #[v] = (do match ← ReflectliteValue.parts v with | none=>z | some (t,a,fl)=>f t a fl (fl % 32)):=rfl
theorem partsP (a : Addr) (w : World) : (ReflectliteValue.parts (.agg #[.pointer (some ⟨1,85,none⟩),.pointer (some a),.int .u64 150])).run Tryz.prog w = .ok (some (85,a,150)) w:=by kernel_rfl
theorem isNilP (a p : Addr) (W : World) (ha : W.cell? a = some (.pointer (some p))) :
 (ReflectliteValue.method (ReflectliteValue.valueError "reflectlite.Value.IsNil" 0) ReflectliteValue.isNil #[.agg #[.pointer (some ⟨1,85,none⟩),.pointer (some a),.int .u64 150]]).run Tryz.prog W = .ok (.bool false) W:=by
 rw [rlm];simp only [Sem.run_bind,partsP,Result.andThen];simp [ReflectliteValue.isNil,loadVar,isAgg,underlying,Tryz.underlying85,ha,Result.andThen]
theorem methodElem (h : Value) (w : World) : (Go.method 314 145 (.agg #[h]) "Elem").run Tryz.prog w = .ok (163,.agg #[h]) w:=by kernel_rfl
theorem methodImplements (h : Value) (w : World) : (Go.method 314 145 (.agg #[h]) "Implements").run Tryz.prog w = .ok (164,.agg #[h]) w:=by kernel_rfl
theorem methodAssignableTo (h : Value) (w : World) : (Go.method 314 145 (.agg #[h]) "AssignableTo").run Tryz.prog w = .ok (161,.agg #[h]) w:=by kernel_rfl
theorem elemP (w : World) : (ReflectliteType.method ReflectliteType.elem #[.agg #[.pointer (some ⟨1,85,none⟩)]]).run Tryz.prog w = .ok (.iface 145 (.agg #[.pointer (some ⟨1,70,none⟩)])) w:=by kernel_rfl
theorem implementsC (w : World) : (ReflectliteType.relation "Implements" ReflectliteType.implements_ #[.agg #[.pointer (some ⟨1,70,none⟩)],.iface 145 (.agg #[.pointer (some ⟨1,35,none⟩)])]).run Tryz.prog w = .ok (.bool true) w:=by kernel_rfl
theorem typeOfC (v : Value) (w : World) : (ReflectliteType.typeOf #[.iface 70 v]).run Tryz.prog w = .ok (.iface 145 (.agg #[.pointer (some ⟨1,70,none⟩)])) w:=by kernel_rfl
theorem assignableC (w : World) : (ReflectliteType.relation "AssignableTo" ReflectliteType.assignableTo #[.agg #[.pointer (some ⟨1,70,none⟩)],.iface 145 (.agg #[.pointer (some ⟨1,70,none⟩)])]).run Tryz.prog w = .ok (.bool true) w:=by kernel_rfl
theorem valueOfC (e : Int) (w : World) : (ReflectliteValue.unpack (.iface 70 (.int .i64 e))).run Tryz.prog w
 = .ok (.agg #[.pointer (some ⟨1,70,none⟩),.pointer (some ⟨w.heap.size,0,none⟩),.int .u64 130]) (w.alloc (.cells #[.int .i64 e] 70)):=by kernel_rfl
theorem elemOfP (w : World) : (Rtype.elem? 85).run Tryz.prog w = .ok (some 70) w:=by kernel_rfl
theorem mkC (p : Addr) (w : World) : (ReflectliteValue.mk 70 p ReflectliteValue.flagAddr).run Tryz.prog w = .ok (.agg #[.pointer (some ⟨1,70,none⟩),.pointer (some p),.int .u64 386]) w:=by kernel_rfl
theorem elemV (a p : Addr) (W : World) (ha : W.cell? a = some (.pointer (some p))) :
 (ReflectliteValue.method (ReflectliteValue.valueError "reflectlite.Value.Elem" 0) ReflectliteValue.elem #[.agg #[.pointer (some ⟨1,85,none⟩),.pointer (some a),.int .u64 150]]).run Tryz.prog W
  = .ok (.agg #[.pointer (some ⟨1,70,none⟩),.pointer (some p),.int .u64 386]) W:=by
 rw [rlm];simp only [Sem.run_bind,partsP,Result.andThen];simp [ReflectliteValue.elem,loadVar,isAgg,underlying,Tryz.underlying85,ha,Result.andThen,elemOfP,mkC]
theorem rls (v x : Value) : ReflectliteValue.set #[v,x] = (do
 let (some (dst,a,fl),some (src,b,_)):=(← ReflectliteValue.parts v,← ReflectliteValue.parts x)
  | unsupported (.noEntry "extern/(internal/reflectlite.Value).Set.zeroValue")
 if fl / ReflectliteValue.flagAddr % 2 == 0 then unsupported (.noEntry "extern/(internal/reflectlite.Value).Set.unaddressable")
 let val ← loadVar src b
 if ← Rtype.directlyAssignable dst src then storeVar dst a val
 else if ← Rtype.implements dst src then
  if (← Rtype.kind src) == 20 then
   match val with
   | .nilIface=>unsupported (.noEntry "extern/reflectlite: a nil value of one interface type handed on as a value of another")
   | _=>storeVar dst a val
  else storeVar dst a (.iface src val)
 else panicString ("reflectlite.Set: value of type " ++ (← Rtype.spelt src) ++ " is not assignable to type " ++ (← Rtype.spelt dst))
 pure (.tuple #[])):=rfl
theorem partsCa (a : Addr) (w : World) : (ReflectliteValue.parts (.agg #[.pointer (some ⟨1,70,none⟩),.pointer (some a),.int .u64 386])).run Tryz.prog w = .ok (some (70,a,386)) w:=by kernel_rfl
theorem partsC (a : Addr) (w : World) : (ReflectliteValue.parts (.agg #[.pointer (some ⟨1,70,none⟩),.pointer (some a),.int .u64 130])).run Tryz.prog w = .ok (some (70,a,130)) w:=by kernel_rfl
theorem directC (w : World) : (Rtype.directlyAssignable 70 70).run Tryz.prog w = .ok true w:=by kernel_rfl
theorem setC (ta b : Addr) (e : Int) (ov : Value) (W : World) (hb : W.cell? b = some (.int .i64 e)) (ht : W.cell? ta = some ov) (hf : W.frozen? ta = false) :
 (ReflectliteValue.set #[.agg #[.pointer (some ⟨1,70,none⟩),.pointer (some ta),.int .u64 386],.agg #[.pointer (some ⟨1,70,none⟩),.pointer (some b),.int .u64 130]]).run Tryz.prog W
  = .ok (.tuple #[]) (W.setCell ta (.int .i64 e)):=by
 rw [rls];simp only [Sem.run_bind,partsCa,partsC,Result.andThen];simp [ReflectliteValue.flagAddr,loadVar,isAgg,underlying,Tryz.underlying70,hb,Result.andThen,directC,storeVar,Value.cells,storeCells,Addr.add];rw [run_store Tryz.prog W ta _ _ (by rfl)];simp [ht,hf]
set_option maxRecDepth 100000 in
set_option maxHeartbeats 4000000 in
theorem as_code (e : Int) (t : Addr) (ov : Value) (w : World) (hg : w.cell? ⟨0,0,none⟩ = some (.iface 145 (.agg #[.pointer (some ⟨1,35,none⟩)]))) (ht0 : w.cell? t = some ov) (hf0 : w.frozen? t = false) :
 Calls Tryz.prog 45 #[.iface 70 (.int .i64 e),.iface 85 (.pointer (some t))] w fun ev w'=>ev = .returned (.bool true) ∧ w' = ((((w.alloc (.cells #[.pointer (some t)] 85)).alloc (.cells #[.pointer (some ⟨1,85,none⟩),.pointer (some ⟨w.heap.size,0,none⟩),.int .u64 150] 114)).alloc (.cells #[.pointer (some ⟨1,85,none⟩),.pointer (some ⟨w.heap.size,0,none⟩),.int .u64 150] 114)).alloc (.cells #[.int .i64 e] 70)).setCell t (.int .i64 e):=by
 have h6:=@run_callFunc_extern Tryz.prog 80 _ (fun args=>ReflectliteValue.unpack (args.getD 0 (.tuple #[]))) Tryz.func80 (by kernel_rfl) (by kernel_rfl) (by kernel_rfl) (by kernel_rfl);have h7:=@run_callFunc_extern Tryz.prog 81 _ (ReflectliteValue.methodAny (ReflectliteValue.valueError "reflectlite.Value.Type" 0) (fun t _ _ _=>ReflectliteType.toType t)) Tryz.func81 (by kernel_rfl) (by kernel_rfl) (by kernel_rfl) (by kernel_rfl);have h8:=@run_callFunc_extern Tryz.prog 82 _ (ReflectliteValue.method (ReflectliteValue.valueError "reflectlite.Value.IsNil" 0) ReflectliteValue.isNil) Tryz.func82 (by kernel_rfl) (by kernel_rfl) (by kernel_rfl) (by kernel_rfl);have h27:=@run_callFunc_extern Tryz.prog 153 _ (ReflectliteType.abiMethod fun t=>do pure (.int .u8 (← Rtype.kind t))) Tryz.func153 (by kernel_rfl) (by kernel_rfl) (by kernel_rfl) (by kernel_rfl);have h37:=@run_callFunc_extern Tryz.prog 163 _ (ReflectliteType.method ReflectliteType.elem) Tryz.func163 (by kernel_rfl) (by kernel_rfl) (by kernel_rfl) (by kernel_rfl);have h38:=@run_callFunc_extern Tryz.prog 164 _ (ReflectliteType.relation "Implements" ReflectliteType.implements_) Tryz.func164 (by kernel_rfl) (by kernel_rfl) (by kernel_rfl) (by kernel_rfl);have h10:=@run_callFunc_extern Tryz.prog 110 _ ReflectliteType.typeOf Tryz.func110 (by kernel_rfl) (by kernel_rfl) (by kernel_rfl) (by kernel_rfl);have h35:=@run_callFunc_extern Tryz.prog 161 _ (ReflectliteType.relation "AssignableTo" ReflectliteType.assignableTo) Tryz.func161 (by kernel_rfl) (by kernel_rfl) (by kernel_rfl) (by kernel_rfl);have h11:=@run_callFunc_extern Tryz.prog 111 _ (ReflectliteValue.method (ReflectliteValue.valueError "reflectlite.Value.Elem" 0) ReflectliteValue.elem) Tryz.func111 (by kernel_rfl) (by kernel_rfl) (by kernel_rfl) (by kernel_rfl);have h12:=@run_callFunc_extern Tryz.prog 112 _ ReflectliteValue.set Tryz.func112 (by kernel_rfl) (by kernel_rfl) (by kernel_rfl) (by kernel_rfl);have tO:=typeOfC;have mA:=methodAssignableTo;have a25:=assignableC;have v25:=valueOfC;have f6:=valueOfP;have f7:=typeP;have mK:=methodKind;have mE:=methodElem;have mI:=methodImplements;have k27:=kindP;have k25:=kindC;have e27:=elemP;have i25:=implementsC;have n8:=isNilP ⟨w.heap.size,0,none⟩ t ((w.alloc (.cells #[.pointer (some t)] 85)).alloc (.cells #[.pointer (some ⟨1,85,none⟩),.pointer (some ⟨w.heap.size,0,none⟩),.int .u64 150] 114)) (by simp);have hlt : 0 < w.heap.size:=GT.lt hg;have hg2 : ((w.alloc (.cells #[.pointer (some t)] 85)).alloc (.cells #[.pointer (some ⟨1,85,none⟩),.pointer (some ⟨w.heap.size,0,none⟩),.int .u64 150] 114)).cell? ⟨0,0,none⟩ = some (.iface 145 (.agg #[.pointer (some ⟨1,35,none⟩)])):=by
  rw [World.cell?_alloc_lt _ _ ⟨0,0,none⟩ (by simp),World.cell?_alloc_lt _ _ ⟨0,0,none⟩ hlt];exact hg
 have htl : t.block < w.heap.size:=by
  rcases Nat.lt_or_ge t.block w.heap.size with h | h
  ·exact h
  ·simp [World.cell?,Array.getElem?_eq_none h] at ht0
 have el:=elemV ⟨w.heap.size,0,none⟩ t (((w.alloc (.cells #[.pointer (some t)] 85)).alloc (.cells #[.pointer (some ⟨1,85,none⟩),.pointer (some ⟨w.heap.size,0,none⟩),.int .u64 150] 114)).alloc (.cells #[.pointer (some ⟨1,85,none⟩),.pointer (some ⟨w.heap.size,0,none⟩),.int .u64 150] 114)) (by rw [World.cell?_alloc_lt _ _ ⟨w.heap.size,0,none⟩ (by simp;omega)];simp);have st:=setC t ⟨w.heap.size + 1 + 1 + 1,0,none⟩ e ov ((((w.alloc (.cells #[.pointer (some t)] 85)).alloc (.cells #[.pointer (some ⟨1,85,none⟩),.pointer (some ⟨w.heap.size,0,none⟩),.int .u64 150] 114)).alloc (.cells #[.pointer (some ⟨1,85,none⟩),.pointer (some ⟨w.heap.size,0,none⟩),.int .u64 150] 114)).alloc (.cells #[.int .i64 e] 70))
  (by rw [World.cell?_alloc_at _ _ _ _ (by simp)];rfl)
  (by rw [World.cell?_alloc_lt _ _ t (by simp;omega),World.cell?_alloc_lt _ _ t (by simp;omega),World.cell?_alloc_lt _ _ t (by simp;omega),World.cell?_alloc_lt _ _ t htl];exact ht0)
  (by rw [World.frozen?_alloc_old _ _ t (by simp;omega),World.frozen?_alloc_old _ _ t (by simp;omega),World.frozen?_alloc_old _ _ t (by simp;omega),World.frozen?_alloc_old _ _ t (Nat.ne_of_lt htl)];exact hf0)
 go_enter Tryz.func45,Tryz.ntmps45;go_wp2;refine wp_loop_rounds 1 ?_;rw [rounds_succ];go_wp2;go_ret;exact ⟨rfl,rfl⟩
end As
end Go.Proofs.YtiminjibcafkaaaGreatDoor.X
end
section
namespace Go.Proofs.YtiminjibcafkaaaGreatDoor.X
open RowKit YtiminjibcafkaaaGreatDoorW.PrintWords YtiminjibcafkaaaGreatDoorW.PrintLast YtiminjibcafkaaaGreatDoorW.PrintMore
attribute [local go_sem] max2_int min2_int max_two min_two max_three min_three max_four min_four
attribute [local go_sem high] eqA62 eqA67
def tidingsref01_Same.l0 : Nat → List (S67) → List (S67) → Int → Option (Bool)
 | 0,_,_,_=>none
 | k + 1,x0,x1,x5=>if x5 < (x0.length : Int) then (if 0 ≤ x5 then (if x5 < (x1.length : Int) then (if (!(((rd_T67 x0 x5).f0) == ((rd_T67 x1 x5).f0)) || (!(((rd_T67 x0 x5).f1) == ((rd_T67 x1 x5).f1)) || (!(((rd_T67 x0 x5).f2) == ((rd_T67 x1 x5).f2))))) = true then (some false) else (tidingsref01_Same.l0 k x0 x1 (wrap64 (x5 + 1)))) else (none)) else (none)) else (some true)
def tidingsref01_Same.f (k : Nat) (l0 : List (S67)) (l1 : List (S67)) : Option (Bool):=if (l0.length : Int) = (l1.length : Int) then (tidingsref01_Same.l0 k l0 l1 0) else (some false)
set_option maxHeartbeats 8000000 in
set_option maxRecDepth 100000 in
theorem tidingsref01_Same.calls (k : Nat) (A0 : Option Addr) (c0 : Nat) (l0 : List (S67)) (A1 : Option Addr) (c1 : Nat) (l1 : List (S67)) (r : Bool) (w : World) (hr0 : Kd.C k67 w A0 l0.length l0) (hc0 : l0.length ≤ c0) (hr1 : Kd.C k67 w A1 l1.length l1) (hc1 : l1.length ≤ c1) (h : tidingsref01_Same.f k l0 l1 = some r) :
 Calls Tryz.prog 46 #[.slice A0 l0.length c0,.slice A1 l1.length c1] w fun e w'=>e = .returned (.bool r) ∧ Drawn0 w w':=by
 have hu67:=Tryz.underlying67;have HR0:=zA hr0;have HC0:=zA hc0;clear hr0 hc0;have HR1:=zA hr1;have HC1:=zA hc1;clear hr1 hc1;have H : (if (l0.length : Int) = (l1.length : Int) then (tidingsref01_Same.l0 k l0 l1 0) else (some false)) = some r:=h;clear h;by_cases c3 : (l0.length : Int) = (l1.length : Int)
 ·rw [if_pos c3] at H;have c3b0 : ((l0.length : Int) == (l1.length : Int)) = true:=yB.mpr c3;have c3b1 : ((l0.length : Int) != (l1.length : Int)) = false:=zU.mpr c3;have c3b2 : (l0.length == l1.length) = true:=by (simp at c3 ⊢;omega)
  clear c3;have H':=zA H;clear H;go_enter Tryz.func46,Tryz.ntmps46;go_wp2;go_loopg [5] k (fun kq v5 w'=>∃ (x5_1 : Int),v5 = .int .i64 x5_1 ∧ Aside0 (tidingsref01_Same.l0 kq l0 l1 x5_1 = some r) ∧ Aside0 (kq ≤ k) ∧ Drawn0 w w')
  case atStart=>exact ⟨(0),(by rfl),H',⟨zM _⟩,by repeat (first | exact Drawn0.refl _)⟩
  case round =>
   clear H';clear c3b0 c3b1 c3b2;obtain ⟨x5_1,rfl,HA,HK1,⟨m1,rfl⟩⟩:=hrel;cases gk with
   | zero=>exact absurd HA.out (by simp [tidingsref01_Same.l0])
   | succ k1 =>
    have H:=HA.out;clear HA;simp only [tidingsref01_Same.l0] at H;by_cases c4 : x5_1 < (l0.length : Int)
    ·rw [if_pos c4] at H;have c4b0 : decide (x5_1 < (l0.length : Int)) = true:=zE c4;clear c4;by_cases c5 : 0 ≤ x5_1
     ·rw [if_pos c5] at H;have c5b0 : decide (0 ≤ x5_1) = true:=zE c5;clear c5;by_cases c6 : x5_1 < (l1.length : Int)
      ·rw [if_pos c6] at H;have c6b0 : decide (x5_1 < (l1.length : Int)) = true:=zE c6;clear c6;by_cases c7 : (!(((rd_T67 l0 x5_1).f0) == ((rd_T67 l1 x5_1).f0)) || (!(((rd_T67 l0 x5_1).f1) == ((rd_T67 l1 x5_1).f1)) || (!(((rd_T67 l0 x5_1).f2) == ((rd_T67 l1 x5_1).f2))))) = true
       ·rw [if_pos c7] at H;have c7b0 : (!(((rd_T67 l0 x5_1).f0) == ((rd_T67 l1 x5_1).f0)) || (!(((rd_T67 l0 x5_1).f1) == ((rd_T67 l1 x5_1).f1)) || (!(((rd_T67 l0 x5_1).f2) == ((rd_T67 l1 x5_1).f2))))) = true:=c7;clear c7;obtain rfl:=zH H;have p278 : 0 ≤ (x5_1 : Int):=oA;have q278 : x5_1 < (l0.length : Int):=oA;obtain ⟨ad278,e278,hx278_0,hx278_1,hx278_2⟩:=at_T67 HR0.out x5_1 p278 q278;cases e278;replace p278:=eq_true p278;replace q278:=eq_true q278;have p279 : 0 ≤ (x5_1 : Int):=oA;have q279 : x5_1 < (l1.length : Int):=oA;obtain ⟨ad279,e279,hx279_0,hx279_1,hx279_2⟩:=at_T67 HR1.out x5_1 p279 q279;cases e279;replace p279:=eq_true p279;replace q279:=eq_true q279;go_wp2
        repeat (go_quiet (fail);try go_wp2)
        go_ret;exact ⟨by rfl,by repeat (first | exact Drawn0.refl _ | apply Drawn0.step)⟩
       ·rw [if_neg c7] at H;have c7b0 : (!(((rd_T67 l0 x5_1).f0) == ((rd_T67 l1 x5_1).f0)) || (!(((rd_T67 l0 x5_1).f1) == ((rd_T67 l1 x5_1).f1)) || (!(((rd_T67 l0 x5_1).f2) == ((rd_T67 l1 x5_1).f2))))) = false:=by simpa using c7
        clear c7;have H':=zA H;clear H;have p278 : 0 ≤ (x5_1 : Int):=oA;have q278 : x5_1 < (l0.length : Int):=oA;obtain ⟨ad278,e278,hx278_0,hx278_1,hx278_2⟩:=at_T67 HR0.out x5_1 p278 q278;cases e278;replace p278:=eq_true p278;replace q278:=eq_true q278;have p279 : 0 ≤ (x5_1 : Int):=oA;have q279 : x5_1 < (l1.length : Int):=oA;obtain ⟨ad279,e279,hx279_0,hx279_1,hx279_2⟩:=at_T67 HR1.out x5_1 p279 q279;cases e279;replace p279:=eq_true p279;replace q279:=eq_true q279;go_wp2
        repeat (go_quiet (fail);try go_wp2)
        go_roundg k1
        case measure=>have:=HK1.out;omega
        case rel=>exact ⟨(wrap64 (x5_1 + 1)),(by rfl),H',⟨by have:=HK1.out;omega⟩,by repeat (first | exact Drawn0.refl _ | apply Drawn0.step)⟩
      ·rw [if_neg c6] at H;exact absurd H (by simp)
     ·rw [if_neg c5] at H;exact absurd H (by simp)
    ·rw [if_neg c4] at H;have c4b0 : decide (x5_1 < (l0.length : Int)) = false:=zF c4;clear c4;obtain rfl:=zH H;go_wp2;go_ret;exact ⟨by rfl,by repeat (first | exact Drawn0.refl _ | apply Drawn0.step)⟩
 ·rw [if_neg c3] at H;have c3b0 : ((l0.length : Int) == (l1.length : Int)) = false:=zR.mpr c3;have c3b1 : ((l0.length : Int) != (l1.length : Int)) = true:=yF.mpr c3;have c3b2 : (l0.length == l1.length) = false:=by (simp at c3 ⊢;omega)
  obtain rfl:=zH H;go_enter Tryz.func46,Tryz.ntmps46;go_wp2;go_ret;exact ⟨by rfl,by repeat (first | exact Drawn0.refl _)⟩
def tidingsref02_Same.l0 : Nat → List (S62) → List (S62) → Int → Option (Bool)
 | 0,_,_,_=>none
 | k + 1,x0,x1,x5=>if x5 < (x0.length : Int) then (if 0 ≤ x5 then (if x5 < (x1.length : Int) then (if (!(((rd_T62 x0 x5).f0) == ((rd_T62 x1 x5).f0)) || ((!(((rd_T62 x0 x5).f1.f0) == ((rd_T62 x1 x5).f1.f0)) || (!(((rd_T62 x0 x5).f1.f1) == ((rd_T62 x1 x5).f1.f1)) || (!(((rd_T62 x0 x5).f1.f2) == ((rd_T62 x1 x5).f1.f2))))) || (!(((rd_T62 x0 x5).f2) == ((rd_T62 x1 x5).f2)) || (!(((rd_T62 x0 x5).f3) == ((rd_T62 x1 x5).f3)) || (!(((rd_T62 x0 x5).f4) == ((rd_T62 x1 x5).f4))))))) = true then (some false) else (tidingsref02_Same.l0 k x0 x1 (wrap64 (x5 + 1)))) else (none)) else (none)) else (some true)
def tidingsref02_Same.f (k : Nat) (l0 : List (S62)) (l1 : List (S62)) : Option (Bool):=if (l0.length : Int) = (l1.length : Int) then (tidingsref02_Same.l0 k l0 l1 0) else (some false)
end Go.Proofs.YtiminjibcafkaaaGreatDoor.X
end
section
namespace Go.Proofs.YtiminjibcafkaaaGreatDoor.X
open RowKit YtiminjibcafkaaaGreatDoorW.PrintWords YtiminjibcafkaaaGreatDoorW.PrintLast YtiminjibcafkaaaGreatDoorW.PrintMore
attribute [local go_sem] max2_int min2_int max_two min_two max_three min_three max_four min_four
def tidingsref05_Short.f (a0_0 : Int) (a0_1 : Int) (a0_2 : Int) (a0_3 : Int) (l0_4 : List (S67)) (l0_5 : List (S62)) (a0_6 : Bool) (a0_7 : Int) (a0_8 : Int) (a0_9 : Int) (a0_10 : Int) (l0_11 : List (S67)) (a0_12 : Int) : Option (Bool):=if (l0_4.length : Int) ≤ 300 then (if (l0_5.length : Int) ≤ 300 then (some (decide ((l0_11.length : Int) ≤ 300))) else (some false)) else (some false)
set_option maxHeartbeats 8000000 in
set_option maxRecDepth 100000 in
theorem tidingsref05_Short.calls (a0_0 : Int) (a0_1 : Int) (a0_2 : Int) (a0_3 : Int) (A0_4 : Option Addr) (c0_4 : Nat) (l0_4 : List (S67)) (A0_5 : Option Addr) (c0_5 : Nat) (l0_5 : List (S62)) (a0_6 : Bool) (a0_7 : Int) (a0_8 : Int) (a0_9 : Int) (a0_10 : Int) (A0_11 : Option Addr) (c0_11 : Nat) (l0_11 : List (S67)) (a0_12 : Int) (r : Bool) (w : World) (hr0_4 : Kd.C k67 w A0_4 l0_4.length l0_4) (hc0_4 : l0_4.length ≤ c0_4) (hr0_5 : Kd.C k62 w A0_5 l0_5.length l0_5) (hc0_5 : l0_5.length ≤ c0_5) (hr0_11 : Kd.C k67 w A0_11 l0_11.length l0_11) (hc0_11 : l0_11.length ≤ c0_11) (h : tidingsref05_Short.f a0_0 a0_1 a0_2 a0_3 l0_4 l0_5 a0_6 a0_7 a0_8 a0_9 a0_10 l0_11 a0_12 = some r) :
 Calls Tryz.prog 7 #[.agg #[.int .u8 a0_0,.int .u8 a0_1,.int .u32 a0_2,.int .u32 a0_3,.slice A0_4 l0_4.length c0_4,.slice A0_5 l0_5.length c0_5,.bool a0_6,.int .u32 a0_7,.int .u8 a0_8,.int .u8 a0_9,.int .u32 a0_10,.slice A0_11 l0_11.length c0_11,.int .u32 a0_12]] w fun e w'=>e = .returned (.bool r) ∧ Below w.heap.size w w':=by
 have hu28:=Tryz.underlying28;have HR0_4':=zA hr0_4;have HC0_4':=zA hc0_4;have HR0_5':=zA hr0_5;have HC0_5':=zA hc0_5;have HR0_11':=zA hr0_11;have HC0_11':=zA hc0_11;clear hr0_4 hc0_4 hr0_5 hc0_5 hr0_11 hc0_11;have H:=zA h;clear h;go_enter Tryz.func7,Tryz.ntmps7;go_wp2
 all_goals (try go_ret)
 all_goals (have h:=H.out;clear H;simp only [tidingsref05_Short.f] at h)
 all_goals (refine ⟨?_,by first | ((repeat (first | exact zS _ _ | refine Below.alloc ?_ (by first | exact zM _ | (simp;done) | (simp;omega)) _));done) | (refine zG ?_ hx;(repeat (first | exact zS _ _ | refine Below.alloc ?_ (by first | exact zM _ | (simp;done) | (simp;omega)) _));done)⟩)
 all_goals (first | (simp [*] at h;simp [*];done) | (simp [*] at h;simp [← h];done) | (simp [*] at h;subst h;first | rfl | (simp;done)) | (simp [*] at h ⊢;done) | (simp [*] at h;rw [← h];first | rfl | (simp [*];done)) | (simp [*] at h;simp [h];done) | ((repeat' (split at h))<;>first | (exfalso;omega) | (exfalso;simp_all;done) | (simp [*] at h;subst h;simp [*];done) | (simp [*] at h;simp [*,← h];done) | (simp [*] at h;simp [h];done) | (simp [*] at h;subst h;simp;omega) | (simp at h;subst h;simp [*];done)))
end Go.Proofs.YtiminjibcafkaaaGreatDoor.X
end
end
section
namespace Go.Proofs.YtiminjibcafkaaaGreatDoor.X
open RowKit YtiminjibcafkaaaGreatDoorW.PrintWords YtiminjibcafkaaaGreatDoorW.PrintLast YtiminjibcafkaaaGreatDoorW.PrintMore
def codeOf : Option Int → Int
 | none=>0
 | some c=>if c > 0 then c else -1
set_option maxRecDepth 100000 in
set_option maxHeartbeats 4000000 in
theorem Code_calls (r : Option Int) (w : World) (hg : GT w) : Calls Tryz.prog 11 #[errW r] w fun e w'=>e = .returned (.int .i64 (codeOf r)) ∧ Below w.heap.size w w':=by
 cases r with
 | none =>
  rw [errW_none];go_enter Tryz.func11,Tryz.ntmps11;go_wp2;go_ret;exact ⟨rfl,zS _ _⟩
 | some c =>
  rw [errW_some];have hlt:=hg.lt;have hg1 : (w.alloc (.cells #[.int .i64 0] 70)).cell? ⟨0,0,none⟩ = some (.iface 145 (.agg #[.pointer (some ⟨1,35,none⟩)])):=by
   rw [World.cell?_alloc_lt _ _ ⟨0,0,none⟩ hlt];exact hg
  have HG:=zA hg1;have hc:=As.as_code c ⟨w.heap.size,0,none⟩ (.int .i64 0) (w.alloc (.cells #[.int .i64 0] 70)) HG.out (by simp) (by simp);clear hg hg1 HG;have hb : ∀ w',w' = (((((w.alloc (.cells #[.int .i64 0] 70)).alloc (.cells #[.pointer (some ⟨w.heap.size,0,none⟩)] 85)).alloc (.cells #[.pointer (some ⟨1,85,none⟩),.pointer (some ⟨(w.alloc (.cells #[.int .i64 0] 70)).heap.size,0,none⟩),.int .u64 150] 114)).alloc (.cells #[.pointer (some ⟨1,85,none⟩),.pointer (some ⟨(w.alloc (.cells #[.int .i64 0] 70)).heap.size,0,none⟩),.int .u64 150] 114)).alloc (.cells #[.int .i64 c] 70)).setCell ⟨w.heap.size,0,none⟩ (.int .i64 c) → Below w.heap.size w w' ∧ w'.cell? ⟨w.heap.size,0,none⟩ = some (.int .i64 c):=by
   rintro w' rfl;constructor
   ·exact (((((((zS _ w).alloc (zM _) _).alloc (by simp) _).alloc (by simp;omega) _).alloc (by simp;omega) _).alloc (by simp;omega) _)).setCell (zM _) _
   ·have h0 : (w.alloc (.cells #[.int .i64 0] 70)).heap[w.heap.size]? = some (.cells #[.int .i64 0] 70 (0,0)):=yL w _;exact (zI (blk_put (yE (yE (yE (yE h0 _) _) _) _) 0 _ rfl) 0).trans rfl
  replace hc:=hc.mono fun e w' h=>And.intro h.1 (hb w' h.2)
  clear hb;by_cases hp : c > 0
  ·have hd : decide (c > 0) = true:=zE hp;have hd2 : decide (0 < c) = true:=zE hp;go_enter Tryz.func11,Tryz.ntmps11;go_wp2_with (go_at_call 45;refine hc.mono ?_;rintro e w1 ⟨rfl,hb1,hc1⟩)
   go_ret;exact ⟨by simp [codeOf,hp],hb1⟩
  ·have hd : decide (c > 0) = false:=zF hp;have hd2 : decide (0 < c) = false:=zF hp;go_enter Tryz.func11,Tryz.ntmps11;go_wp2_with (go_at_call 45;refine hc.mono ?_;rintro e w1 ⟨rfl,hb1,hc1⟩)
   go_ret;exact ⟨by (simp [codeOf];intro h;omega),hb1⟩
end Go.Proofs.YtiminjibcafkaaaGreatDoor.X
end
