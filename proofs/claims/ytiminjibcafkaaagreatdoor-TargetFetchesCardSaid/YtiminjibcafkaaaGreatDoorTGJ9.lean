/- Texts that this claim's law comes to, joined by wip/slim.py: TAXhslicesSortFuncRun, TFwords. -/
import Derived.Test.YtiminjibcafkaaaGreatDoorTGTAJ4
import Derived.Test.YtiminjibcafkaaaGreatDoorTGTAJ5
import Derived.Test.YtiminjibcafkaaaGreatDoorTGTAXhslicesBinarySearchFuncEntryuint8
import Derived.Shelf.SlSortCmp.NoneTotal
import Derived.StillTailTactics
import Derived.Test.YtiminjibcafkaaaGreatDoorTGTAWWords
import Derived.Test.YtiminjibcafkaaaGreatDoorTGTAWLast
set_option linter.unusedSimpArgs false
set_option linter.unusedVariables false
section
namespace Go.Proofs.YtiminjibcafkaaaGreatDoor.X
open RowKit YtiminjibcafkaaaGreatDoorW.PrintWords YtiminjibcafkaaaGreatDoorW.PrintLast YtiminjibcafkaaaGreatDoorW.PrintMore
attribute [local go_sem] max2_int min2_int max_two min_two max_three min_three max_four min_four
theorem compare8_still (a b : Int) (w : World) : Calls Tryz.prog 100 #[.int .u8 a,.int .u8 b] w fun e w'=>e = .returned (.int .i64 (cmpI a b)) ∧ w' = w:=by
 unfold cmpI;by_cases h1 : a < b
 ·go_enter Tryz.func100,Tryz.ntmps100;go_wp2;go_ret;exact ⟨by simp [h1],rfl⟩
 ·by_cases h2 : b < a
  ·go_enter Tryz.func100,Tryz.ntmps100;go_wp2;go_ret;exact ⟨by (have q1 : ¬ a < b:=by omega);simp [q1,h2],rfl⟩
  ·go_enter Tryz.func100,Tryz.ntmps100;go_wp2;go_ret;exact ⟨by (have q1 : ¬ a < b:=by omega);(have q2 : ¬ b < a:=by omega);simp [q1,q2],rfl⟩
theorem compare32_still (a b : Int) (w : World) : Calls Tryz.prog 107 #[.int .u32 a,.int .u32 b] w fun e w'=>e = .returned (.int .i64 (cmpI a b)) ∧ w' = w:=by
 unfold cmpI;by_cases h1 : a < b
 ·go_enter Tryz.func107,Tryz.ntmps107;go_wp2;go_ret;exact ⟨by simp [h1],rfl⟩
 ·by_cases h2 : b < a
  ·go_enter Tryz.func107,Tryz.ntmps107;go_wp2;go_ret;exact ⟨by (have q1 : ¬ a < b:=by omega);simp [q1,h2],rfl⟩
  ·go_enter Tryz.func107,Tryz.ntmps107;go_wp2;go_ret;exact ⟨by (have q1 : ¬ a < b:=by omega);(have q2 : ¬ b < a:=by omega);simp [q1,q2],rfl⟩
def orI (a b : Int) : Int:=if a = 0 then b else a
theorem orI_is (a b : Int) : cmp_Or_int.f 3 [a,b] = some (orI a b):=by
 unfold cmp_Or_int.f orI;by_cases ha : a = 0
 ·by_cases hb : b = 0
  ·subst ha;subst hb;simp [cmp_Or_int.l0,rd,wrap64]
  ·subst ha;simp [cmp_Or_int.l0,rd,wrap64,hb]
 ·simp [cmp_Or_int.l0,rd,ha]
def runCmp (x y : S67) : Int:=orI (cmpI x.f0 y.f0) (cmpI x.f1 y.f1)
def encRun (x : S67) : List Value:=[.int .u8 x.f0,.int .u32 x.f1,.int .u32 x.f2]
theorem C_two (W : World) (p q : Int) : Kd.C (Kd.int .i64) (W.alloc (.cells #[.int .i64 p,.int .i64 q] 3)) (some ⟨W.heap.size,0,none⟩) 2 [p,q]:=by
 refine ⟨rfl,by decide,fun _=>⟨_,rfl,fun j x hj=>⟨[.int .i64 x],rfl,rfl,fun i u hu=>?_⟩⟩⟩
 match i,hu with
 | 0,hu =>
  obtain rfl:=zH hu
  match j,hj with
  | 0,hj=>obtain rfl:=zH hj;exact zI (yL W _) 0
  | 1,hj=>obtain rfl:=zH hj;exact zI (yL W _) 1
  | j + 2,hj=>simp at hj
 | i + 1,hu=>simp at hu
set_option maxRecDepth 100000 in
set_option maxHeartbeats 2000000 in
theorem know_merged_1.calls (x y : S67) (W : World) : Calls Tryz.prog 105 #[.agg #[.int .u8 x.f0,.int .u32 x.f1,.int .u32 x.f2],.agg #[.int .u8 y.f0,.int .u32 y.f1,.int .u32 y.f2]] W fun e w'=>e = .returned (.int .i64 (runCmp x y)) ∧ ∃ q os',w' = Sort.grow (W.drewN q) os':=by
 have hu:=Tryz.underlying67;obtain ⟨a0,a1,a2⟩:=x;obtain ⟨b0,b1,b2⟩:=y;unfold runCmp;dsimp only;have c8:=fun w=>compare8_still a0 b0 w
 have c32:=fun w=>compare32_still a1 b1 w
 have hor:=orI_is (cmpI a0 b0) (cmpI a1 b1);generalize cmpI a0 b0 = p at c8 hor ⊢;generalize cmpI a1 b1 = q at c32 hor ⊢;generalize orI p q = r at hor ⊢;have HO:=zA hor;clear hor;go_enter Tryz.func105,Tryz.ntmps105;go_wp2;have k0 : ((W.alloc (.cells #[.int .u8 a0,.int .u32 a1,.int .u32 a2] 67)).alloc (.cells #[.int .u8 b0,.int .u32 b1,.int .u32 b2] 67)).cell? ⟨W.heap.size,0,none⟩ = some (.int .u8 a0):=by simp
 have k1 : ((W.alloc (.cells #[.int .u8 a0,.int .u32 a1,.int .u32 a2] 67)).alloc (.cells #[.int .u8 b0,.int .u32 b1,.int .u32 b2] 67)).cell? ⟨W.heap.size,1,none⟩ = some (.int .u32 a1):=by simp
 have k2 : ((W.alloc (.cells #[.int .u8 a0,.int .u32 a1,.int .u32 a2] 67)).alloc (.cells #[.int .u8 b0,.int .u32 b1,.int .u32 b2] 67)).cell? ⟨W.heap.size + 1,0,none⟩ = some (.int .u8 b0):=by simp
 have k3 : ((W.alloc (.cells #[.int .u8 a0,.int .u32 a1,.int .u32 a2] 67)).alloc (.cells #[.int .u8 b0,.int .u32 b1,.int .u32 b2] 67)).cell? ⟨W.heap.size + 1,1,none⟩ = some (.int .u32 b1):=by simp
 have kw : (W.alloc (.cells #[.int .u8 a0,.int .u32 a1,.int .u32 a2] 67)).alloc (.cells #[.int .u8 b0,.int .u32 b1,.int .u32 b2] 67) = Sort.grow W #[.cells #[.int .u8 a0,.int .u32 a1,.int .u32 a2] 67,.cells #[.int .u8 b0,.int .u32 b1,.int .u32 b2] 67]:=by
  rw [Sort.alloc_eq_grow,Sort.alloc_eq_grow,Sort.grow_grow];rfl
 generalize (W.alloc (.cells #[.int .u8 a0,.int .u32 a1,.int .u32 a2] 67)).alloc (.cells #[.int .u8 b0,.int .u32 b1,.int .u32 b2] 67) = W2 at k0 k1 k2 k3 kw ⊢;refine wp_region_still_tail 10 (by kernel_rfl) (by kernel_rfl) ?_;obtain ⟨W3,hW3⟩ : ∃ W3 : World,W3 = { W2 with drawn:=W2.drawn + 1 }:=⟨_,rfl⟩
 rw [← hW3];replace k0 : W3.cell? ⟨W.heap.size,0,none⟩ = some (.int .u8 a0):=by rw [hW3];exact k0
 replace k1 : W3.cell? ⟨W.heap.size,1,none⟩ = some (.int .u32 a1):=by rw [hW3];exact k1
 replace k2 : W3.cell? ⟨W.heap.size + 1,0,none⟩ = some (.int .u8 b0):=by rw [hW3];exact k2
 replace k3 : W3.cell? ⟨W.heap.size + 1,1,none⟩ = some (.int .u32 b1):=by rw [hW3];exact k3
 have KW:=zA (show W3 = Sort.grow (W.drewN 1) #[.cells #[.int .u8 a0,.int .u32 a1,.int .u32 a2] 67,.cells #[.int .u8 b0,.int .u32 b1,.int .u32 b2] 67] by rw [hW3,kw];rfl);clear hW3 kw;simp only [List.take_succ_cons,List.take_zero,List.drop_succ_cons,List.drop_zero]
 repeat still_step
 still_call (c8 _)
 repeat still_step
 still_call (c32 _)
 repeat still_step
 refine wpStill_nil ?_;go_wp2_with (go_at_call 106;(refine (cmp_Or_int.calls 3 (some ⟨W3.heap.size,0,none⟩) 2 [p,q] r _ (C_two W3 p q) (zM 2) HO.out).mono ?_);rintro e w2 ⟨rfl,⟨nd,rfl⟩⟩)
 go_ret;refine ⟨rfl,1 + nd,#[.cells #[.int .u8 a0,.int .u32 a1,.int .u32 a2] 67,.cells #[.int .u8 b0,.int .u32 b1,.int .u32 b2] 67,.cells #[.int .i64 p,.int .i64 q] 3],?_⟩;rw [KW.out,Sort.alloc_eq_grow,Sort.grow_grow];simp [Sort.grow,World.drewN,Nat.add_assoc];exact ⟨rfl,rfl,rfl⟩
theorem runCmp_lt (x y : S67) : ltOf runCmp x y = (decide (x.f0 < y.f0) || (decide (x.f0 = y.f0) && decide (x.f1 < y.f1))):=by
 unfold ltOf runCmp orI cmpI;by_cases h1 : x.f0 < y.f0
 ·simp [h1]
 ·by_cases h2 : x.f0 > y.f0
  ·have h3 : ¬ x.f0 = y.f0:=by omega
   simp [h1,h2,h3]
  ·have h3 : x.f0 = y.f0:=by omega
   by_cases h4 : x.f1 < y.f1
   ·simp [h3,h4]
   ·by_cases h5 : x.f1 > y.f1<;>simp [h3,h4,h5]
theorem runCmp_swo : Sort.SWO (ltOf runCmp) where
 irrefl x:=by rw [runCmp_lt];simp
 trans x y z h1 h2:=by rw [runCmp_lt] at *;simp at *;omega
 ntrans x y z h1 h2:=by rw [runCmp_lt] at *;simp at *;omega
def Tryz.sortRun_ren : Go.Shelf.Ren:=⟨fun | 6=>104 | 15=>119 | 14=>118 | 28=>130 | 29=>131 | 20=>122 | 21=>123 | 22=>124 | 23=>125 | 24=>126 | 25=>127 | 26=>128 | 27=>129 | 46=>133 | 47=>134 | 48=>135 | 49=>136 | 50=>137 | 57=>138 | n=>n,fun | 22=>23 | 24=>67 | 25=>140 | 3=>3 | 39=>159 | 0=>0 | 53=>22 | 55=>127 | 4=>4 | 46=>168 | 45=>167 | 50=>130 | 5=>5 | 9=>9 | 66=>176 | 70=>180 | 76=>182 | 77=>183 | n=>n,fun | n=>n⟩
theorem Tryz.sortRun : Go.Proofs.SlLaysF0.n6 Tryz.prog Tryz.sortRun_ren:={
 mixed:=by kernel_rfl
 f6:=⟨Tryz.f104.name,by decide,Tryz.func104.trans (congrArg some (by kernel_rfl))⟩
 f14:=⟨Tryz.f118.name,by decide,Tryz.func118.trans (congrArg some (by kernel_rfl))⟩
 f15:=Tryz.func119.trans (congrArg some (by kernel_rfl))
 f20:=⟨Tryz.f122.name,by decide,Tryz.func122.trans (congrArg some (by kernel_rfl))⟩
 f21:=⟨Tryz.f123.name,by decide,Tryz.func123.trans (congrArg some (by kernel_rfl))⟩
 f22:=⟨Tryz.f124.name,by decide,Tryz.func124.trans (congrArg some (by kernel_rfl))⟩
 f23:=⟨Tryz.f125.name,by decide,Tryz.func125.trans (congrArg some (by kernel_rfl))⟩
 f24:=⟨Tryz.f126.name,by decide,Tryz.func126.trans (congrArg some (by kernel_rfl))⟩
 f25:=⟨Tryz.f127.name,by decide,Tryz.func127.trans (congrArg some (by kernel_rfl))⟩
 f26:=⟨Tryz.f128.name,by decide,Tryz.func128.trans (congrArg some (by kernel_rfl))⟩
 f27:=⟨Tryz.f129.name,by decide,Tryz.func129.trans (congrArg some (by kernel_rfl))⟩
 f28:=Tryz.func130.trans (congrArg some (by kernel_rfl))
 f29:=Tryz.func131.trans (congrArg some (by kernel_rfl))
 f46:=⟨Tryz.f133.name,by decide,Tryz.func133.trans (congrArg some (by kernel_rfl))⟩
 f47:=Tryz.func134.trans (congrArg some (by kernel_rfl))
 f48:=Tryz.func135.trans (congrArg some (by kernel_rfl))
 f49:=⟨Tryz.f136.name,by decide,Tryz.func136.trans (congrArg some (by kernel_rfl))⟩
 f50:=⟨Tryz.f137.name,by decide,Tryz.func137.trans (congrArg some (by kernel_rfl))⟩
 f57:=⟨Tryz.f138.name,by decide,Tryz.func138.trans (congrArg some (by kernel_rfl))⟩
 t0:=Tryz.underlying0
 a0:=Tryz.isAgg0
 z0:=Tryz.sizeOf0
 v0:=Tryz.zeroValue0
 t3:=Tryz.underlying3
 a3:=Tryz.isAgg3
 z3:=Tryz.sizeOf3
 v3:=Tryz.zeroValue3
 t4:=Tryz.underlying4
 a4:=Tryz.isAgg4
 z4:=Tryz.sizeOf4
 v4:=Tryz.zeroValue4
 t5:=Tryz.underlying5
 a5:=Tryz.isAgg5
 z5:=Tryz.sizeOf5
 v5:=Tryz.zeroValue5
 t9:=Tryz.underlying9
 a9:=Tryz.isAgg9
 z9:=Tryz.sizeOf9
 v9:=Tryz.zeroValue9
 t22:=Tryz.underlying23
 a22:=Tryz.isAgg23
 z22:=Tryz.sizeOf23
 v22:=Tryz.zeroValue23
 t25:=Tryz.underlying140
 a25:=Tryz.isAgg140
 z25:=Tryz.sizeOf140
 v25:=Tryz.zeroValue140
 t39:=Tryz.underlying159
 a39:=Tryz.isAgg159
 z39:=Tryz.sizeOf159
 v39:=Tryz.zeroValue159
 t45:=Tryz.underlying167
 a45:=Tryz.isAgg167
 z45:=Tryz.sizeOf167
 v45:=Tryz.zeroValue167
 t46:=Tryz.underlying168
 a46:=Tryz.isAgg168
 z46:=Tryz.sizeOf168
 v46:=Tryz.zeroValue168
 t50:=Tryz.underlying130
 a50:=Tryz.isAgg130
 z50:=Tryz.sizeOf130
 v50:=Tryz.zeroValue130
 t53:=Tryz.underlying22
 a53:=Tryz.isAgg22
 z53:=Tryz.sizeOf22
 v53:=Tryz.zeroValue22
 t55:=Tryz.underlying127
 a55:=Tryz.isAgg127
 z55:=Tryz.sizeOf127
 v55:=Tryz.zeroValue127
 t66:=Tryz.underlying176
 a66:=Tryz.isAgg176
 z66:=Tryz.sizeOf176
 v66:=Tryz.zeroValue176
 t70:=Tryz.underlying180
 a70:=Tryz.isAgg180
 z70:=Tryz.sizeOf180
 v70:=Tryz.zeroValue180
 t76:=Tryz.underlying182
 a76:=Tryz.isAgg182
 z76:=Tryz.sizeOf182
 v76:=Tryz.zeroValue182
 t77:=Tryz.underlying183
 a77:=Tryz.isAgg183
 z77:=Tryz.sizeOf183
 v77:=Tryz.zeroValue183 }
instance : Inhabited S67:=⟨z67⟩
def slices_SortFunc_Run.f (l0 : List (S67)) : Option (List (S67)):=if l0.length < 11728124029610 then some (Sort.pdq (ltOf runCmp) l0.toArray 0 l0.toArray.size (Lib.bitLen l0.toArray.size) true true).toList else none
theorem encRun_M {w : World} {base : Nat} {ok : Nat → Prop} (p : S67) (c : List Value) (h : k67.M w base ok p c) : c = encRun p:=k67_openM h
theorem flat_Run (d : Array S67) (t : Nat) (h : t < d.size * 3) : some ((Sort.flatK encRun 3 d)[t]!) = (encRun (d.toList.getD (t / 3) z67))[t % 3]?:=by
 have hd : t / 3 < d.size:=by omega
 have e : d.toList.getD (t / 3) z67 = d[t / 3]:=by rw [yG,zO (by simpa using hd)];simp
 have h3 : t % 3 < (encRun d[t / 3]).length:=by simp [encRun];omega
 rw [e,Sort.get_flatK encRun 3 d t h,getElem!_pos d (t / 3) hd,getElem!_pos _ (t % 3) h3,zO h3]
theorem size_flat_Run (d : Array S67) : (Sort.flatK encRun 3 d).size = d.size * 3:=by simp [Sort.flatK]
set_option maxHeartbeats 8000000 in
set_option maxRecDepth 100000 in
theorem slices_SortFunc_Run.calls (P0_ : Nat → Prop) (u9000_ : Value) (l0 : List (S67)) (r : List (S67)) (w0 w : World) (hB : Below w0.heap.size w0 w) (ho0 : Kd.R k67 67 w w0.heap.size P0_ u9000_ l0) (h : slices_SortFunc_Run.f l0 = some r) :
 Calls Tryz.prog 104 #[u9000_,.func (.func 105) #[] #[]] w fun e w'=>e = .returned (.tuple #[]) ∧ Kd.R k67 67 w' w0.heap.size (fun k_=>(P0_ k_ ∨ w.heap.size ≤ k_)) u9000_ r ∧ Below w0.heap.size w0 w' ∧ Kept w w' (fun k_=>P0_ k_):=by
 have eg : ∀ args w,(callFunc 105 args).run Tryz.prog w = .ok (.enter 105 args) w:=enters_of Tryz.func105 (by kernel_rfl) rfl;unfold slices_SortFunc_Run.f at h;by_cases hsz : l0.length < 11728124029610
 case neg=>rw [if_neg hsz] at h;cases h
 rw [if_pos hsz] at h;have hr:=zH h;clear h;obtain ⟨hP,inner,hown,hreps⟩:=ho0;replace hreps : Reps _ 3 l0 inner:=hreps;rcases hown.2 with ⟨rfl,hn⟩ | ⟨g,cap,cur,rfl,hbase,hheap,hncap,hcapm,hcur,htake⟩
 ·have hl : l0 = []:=List.eq_nil_of_length_eq_zero hn;subst hl;have hps:=Sort.pdq_sorts (ltOf runCmp) runCmp_swo #[] 0 0 (Lib.bitLen 0) true true (Nat.zero_le _) (zM _) (Or.inl rfl);have hr0 : r = []:=by
   rw [← hr];exact List.eq_nil_of_length_eq_zero (by have:=hps.1.1;simpa using this)
  subst hr0;have hcon:=AnyF.slices_SortFunc_none Tryz.sortRun none 0 (.func (.func 105) #[] #[]) w;change Calls Tryz.prog 104 _ _ _ at hcon;refine hcon.mono ?_;rintro e w' ⟨rfl,rfl⟩;exact ⟨rfl,Kd.R_nil _ _ _ _ _,hB,Kept.refl _ _⟩
 ·replace hcur : cur.size = cap * 3:=hcur;replace htake : cur.toList.take (l0.length * 3) = inner:=htake;have hps:=Sort.pdq_sorts (ltOf runCmp) runCmp_swo l0.toArray 0 l0.toArray.size (Lib.bitLen l0.toArray.size) true true (Nat.zero_le _) (zM _) (Or.inl rfl);have hblk : g < w.heap.size:=blk_lt hheap;have hcells : ∀ t,t < l0.length * 3 → cur[t]? = (encRun (l0.getD (t / 3) z67))[t % 3]?:=by
   intro t ht;rw [← reps_get hreps encRun encRun_M (by decide) z67 t ht,← htake,List.getElem?_take,if_pos ht,Array.getElem?_toList]
  have hH : Sort.HoldsK encRun 3 w g 0 l0.toArray:=by
   intro t ht;rw [size_flat_Run] at ht;refine ⟨?_,yA hheap _⟩;rw [Nat.zero_add,zI hheap,hcells t (by simpa using ht)];exact (flat_Run l0.toArray t ht).symm
  have hcon:=AnyQ.slices_SortFunc_eq Tryz.sortRun 3 Tryz.isAgg67 Tryz.sizeOf67 encRun (fun _=>rfl) (fun x v hv=>by simp only [encRun,List.mem_cons,List.not_mem_nil,or_false] at hv;rcases hv with rfl | rfl | rfl<;>rfl) runCmp runCmp_swo 105 #[] g 0 cap l0.toArray w eg
   (fun _ _ _ _ x y=>know_merged_1.calls x y _) hH hblk (by simp;omega)
  change Calls Tryz.prog 104 _ _ _ at hcon;refine hcon.mono ?_;rintro e w' ⟨rfl,n,os,rfl⟩;generalize hd : Sort.pdq (ltOf runCmp) l0.toArray 0 l0.toArray.size (Lib.bitLen l0.toArray.size) true true = d' at hr hps ⊢;have hsize : d'.size = l0.length:=by have:=hps.1.1;simpa using this
  subst hr;have hh : ∀ k,k < w.heap.size → (sortWorldK encRun 3 w g 0 n d' os).heap[k]? = if k = g then some (.cells (Sort.putCells id 0 (Sort.flatK encRun 3 d') cur) 67 (0,0)) else w.heap[k]?:=by
   intro k hk;show ((w.heap.modify g (Sort.onCells (Sort.putCells id 0 (Sort.flatK encRun 3 d')))) ++ os)[k]? = _;rw [Array.getElem?_append_left (by simpa using hk),Array.getElem?_modify];by_cases hkg : g = k
   ·subst hkg;rw [if_pos rfl,if_pos rfl,hheap];rfl
   ·rw [if_neg hkg,if_neg (Ne.symm hkg)]
  have hsw : w.heap.size ≤ (sortWorldK encRun 3 w g 0 n d' os).heap.size:=by
   show _ ≤ ((w.heap.modify g (Sort.onCells (Sort.putCells id 0 (Sort.flatK encRun 3 d')))) ++ os).size;simp
  refine ⟨rfl,⟨fun k hk=>.inl (hP k hk),(Sort.flatK encRun 3 d').toList,⟨?_,.inr ⟨g,cap,Sort.putCells id 0 (Sort.flatK encRun 3 d') cur,by simp [hsize],hbase,by rw [hh g hblk,if_pos rfl],by simp [hsize];exact hncap,hcapm,by simp only [Sort.putCells,Array.size_mapIdx,hcur];rfl,?_⟩⟩,?_⟩,?_,?_⟩
  ·show (Sort.flatK encRun 3 d').toList.length = d'.toList.length * 3;rw [Array.length_toList,size_flat_Run,Array.length_toList]
  ·show List.take (d'.toList.length * 3) _ = _;apply List.ext_getElem?;intro j;rw [List.getElem?_take];by_cases hj : j < d'.toList.length * 3
   ·have hj2 : j < cur.size:=by rw [hcur];simp [hsize] at hj;omega
    have hj3 : j < (Sort.flatK encRun 3 d').size:=by rw [size_flat_Run];simpa using hj
    rw [if_pos hj];have hj4 : j < d'.size * 3:=by simpa using hj
    rw [Array.getElem?_toList,Array.getElem?_toList,Array.getElem?_eq_getElem hj3,← getElem!_pos _ j hj3];simp [Sort.putCells,hj2,hj4,size_flat_Run]
   ·rw [if_neg hj,List.getElem?_eq_none];rw [Array.length_toList,size_flat_Run];simpa using hj
  ·show Reps _ 3 _ _;refine reps_mk encRun (fun _=>rfl) (fun p=>k67_mkM _ _ _ p) (by decide) z67 ?_ ?_
   ·rw [Array.length_toList,size_flat_Run,Array.length_toList]
   ·intro j hj;have hj3 : j < (Sort.flatK encRun 3 d').size:=by rw [size_flat_Run];simpa using hj
    rw [← flat_Run d' j (by simpa using hj),Array.getElem?_toList,Array.getElem?_eq_getElem hj3,getElem!_pos _ j hj3]
  ·refine hB.trans ⟨rfl,rfl,rfl,hsw,fun k hk=>?_⟩;rw [hh k (Nat.lt_of_lt_of_le hk hB.size),if_neg (by omega)]
  ·refine ⟨hsw,fun k hk hn=>?_⟩;rw [hh k hk,if_neg];rintro rfl;exact hn (hP _ rfl)
end Go.Proofs.YtiminjibcafkaaaGreatDoor.X
end
section
namespace Go.Proofs.YtiminjibcafkaaaGreatDoorW.PrintWords
open Go.RowKit
section
theorem grown_of_below {w w1 : World} (h : Below w.heap.size w w1) (row : Option Nat) : w.grownBy w1 row:=⟨h.os,h.tape,h.output,h.size,fun i hi _=>h.block i hi⟩
end
end Go.Proofs.YtiminjibcafkaaaGreatDoorW.PrintWords
namespace Go.Proofs.YtiminjibcafkaaaGreatDoorW.PrintWords
open Go.RowKit
section
theorem blk_ne {w : World} {g g' : Nat} {t t' : TypeId} {cs cs' : Array Value} (h : w.heap[g]? = some (.cells cs t (0,0))) (h' : w.heap[g']? = some (.cells cs' t' (0,0))) (hne : t ≠ t') : g ≠ g':=by
 rintro rfl;rw [h] at h';injection h' with h';injection h' with _ ht;exact hne ht
end
end Go.Proofs.YtiminjibcafkaaaGreatDoorW.PrintWords
namespace Go.Proofs.YtiminjibcafkaaaGreatDoorW.PrintWords
open Go.RowKit
section
variable {P : Program} {ops : Array Oper} {o : Oper} {a : Act} {Q : Exit → Act → World → Prop} {K : Act → World → Prop}
theorem step_append_cells {w0 W : World} (base : Nat) (hw : Region.wanted o (yielded ops a.tmps) = true) (s x : Operand) (t e : TypeId) (z : Value) (size bytes : Nat)
 (ho : o.op = .call { callee:=.builtin .append,args:=#[s,x],argTypes:=#[t,t] })
 (ht : P.underlying t = some (.slice e)) (hinfo : (P.info? e).map (fun i=>(i.zero,i.size,i.bytes)) = some (some z,size,bytes)) (hz : z.cells.size = size) (hs0 : 0 < size) (hb0 : 0 < bytes)
 (v : Value) (n : Nat) (xs ys : List Value) (hs : a.eval s = v) (hx : a.eval x = .slice (some ⟨W.heap.size,0,none⟩) 1 1) (hys : ys.length = size) (h1 : ∀ u ∈ ys,u.oneCell' = true)
 (HO : W.ownsRow base e size v n xs) (HB : Below base w0 W) (hbase : base ≤ W.heap.size) (hl : (n + 1) * bytes ≤ 140737488355328)
 (h : ∀ v1 w1,w1.ownsRow base e size v1 (n + 1) (xs ++ ys) → Below base w0 w1 → W.grownBy w1 v.ownBlock → (v1.ownBlock = v.ownBlock ∨ ∃ b,v1.ownBlock = some b ∧ W.heap.size ≤ b) → K (a.put o.dst v1) w1) :
 if Region.wanted o (yielded ops a.tmps) = true then Oper.wp P o a (W.alloc (.cells ys.toArray e)) K Q else K (a.put o.dst undef) (W.alloc (.cells ys.toArray e)):=by
 obtain ⟨i0,hi,hzz⟩:=Option.map_eq_some_iff.1 hinfo;simp only [Prod.mk.injEq] at hzz;obtain ⟨hz0,hz1,hz2⟩:=hzz;have hlen : n + 1 ≤ 140737488355328:=Nat.le_trans (Nat.le_mul_of_pos_right _ hb0) hl;rw [if_pos hw];obtain ⟨v1,w1,hr,hown,hg,_,hat⟩:=run_append_own_at (P:=P) (W.alloc (.cells ys.toArray e)) base t o.type e i0 z size bytes ht hi hz0 hz1 hz2 hz hs0 v n xs (HO.alloc _) ⟨W.heap.size,0,none⟩ 1 1 ys (by rw [hys];simp)
  (by simpa using World.news_of_block (cs:=ys.toArray) (t:=e) (fr:=(0,0)) (heap_alloc_new W (.cells ys.toArray e))) h1 (by simp only [maxLen];omega) hl (by simp;omega)
 unfold Oper.wp execOp;simp only [ho,resolve,invoke,builtin,Sem.run_bind,Sem.run_pure,Result.andThen_ok,List.map_toArray,List.map_cons,List.map_nil,hs,hx,hr];refine h v1 w1 hown ((HB.alloc hbase _).grown hg (by simp;omega) (own_base HO)) (World.grownBy.trans (World.grownBy_alloc W _ _) hg) ?_;rcases hat with hat | hat
 ·exact .inl hat
 ·exact .inr ⟨_,hat,by simp⟩
end
end Go.Proofs.YtiminjibcafkaaaGreatDoorW.PrintWords
namespace Go.Proofs.YtiminjibcafkaaaGreatDoorW.PrintWords.Kd
open Go.RowKit
section
variable {α : Type} {d : Kd α} {e : Nat} {w w1 : World} {base : Nat} {ok ok' : Nat → Prop} {v : Value} {xs : List α}
theorem R_grown (h : d.R e w base ok v xs) {row : Option Nat} (hg : w.grownBy w1 row) (hok : ∀ k,ok k → some k ≠ row) : d.R e w1 base ok v xs:=R_step h (fun k ho hk=>hg.block k hk (hok k ho))
end
end Go.Proofs.YtiminjibcafkaaaGreatDoorW.PrintWords.Kd
namespace Go.Proofs.YtiminjibcafkaaaGreatDoorW.PrintWords.Kd
open Go.RowKit
section
variable {α : Type} {d : Kd α} {e : Nat} {w w1 : World} {base : Nat} {ok ok' : Nat → Prop} {v : Value} {xs : List α}
theorem R_types (h : d.R e w base ok v xs) {g t : Nat} {cells : Array Value} (hb : w.heap[g]? = some (.cells cells t (0,0))) (ht : ∀ q,q ∈ e :: d.E → q ≠ t) : d.R e w base (fun k=>ok k ∧ k ≠ g) v xs :=
 R_mono (R_bound h) (fun k hk=>⟨hk.1,by
  obtain ⟨_,_,_,q,hq,cells',hc⟩:=hk;rintro rfl;rw [hc] at hb;injection hb with hb;injection hb with _ hb;exact ht q hq hb⟩)
end
end Go.Proofs.YtiminjibcafkaaaGreatDoorW.PrintWords.Kd
namespace Go.Proofs.YtiminjibcafkaaaGreatDoorW.PrintWords.Kd
open Go.RowKit
section
variable {P : Program} {ops : Array Oper} {o : Oper} {a : Act} {Q : Exit → Act → World → Prop} {Kc : Act → World → Prop} {α : Type}
theorem R_append_step (d : Kd α) {w0 W : World} (base : Nat) (hw : Region.wanted o (yielded ops a.tmps) = true) (s x : Operand) (t e : TypeId) (z : Value) (bytes : Nat)
 (ho : o.op = .call { callee:=.builtin .append,args:=#[s,x],argTypes:=#[t,t] })
 (ht : P.underlying t = some (.slice e)) (hinfo : (P.info? e).map (fun i=>(i.zero,i.size,i.bytes)) = some (some z,d.sz,bytes)) (hz : z.cells.size = d.sz) (hs0 : 0 < d.sz) (hb0 : 0 < bytes)
 (v : Value) (xs : List α) (p : α) (cs : List Value) (ok okp : Nat → Prop) (hs : a.eval s = v) (hx : a.eval x = .slice (some ⟨W.heap.size,0,none⟩) 1 1) (hp : d.M W base okp p cs) (hokp : ∀ k,okp k → ok k ∧ some k ≠ v.ownBlock) (hfresh : ∀ k,W.heap.size ≤ k → ok k)
 (HO : d.R e W base ok v xs) (HB : Below base w0 W) (hbase : base ≤ W.heap.size) (hl : (xs.length + 1) * bytes ≤ 140737488355328)
 (h : ∀ v1 w1,d.R e w1 base ok v1 (xs ++ [p]) → Below base w0 w1 → W.grownBy w1 v.ownBlock → (v1.ownBlock = v.ownBlock ∨ ∃ b,v1.ownBlock = some b ∧ W.heap.size ≤ b) → Kc (a.put o.dst v1) w1) :
 if Region.wanted o (yielded ops a.tmps) = true then Oper.wp P o a (W.alloc (.cells cs.toArray e)) Kc Q else Kc (a.put o.dst undef) (W.alloc (.cells cs.toArray e)):=by
 obtain ⟨h0,inner,hown,hr⟩:=HO;refine step_append_cells base hw s x t e z d.sz bytes ho ht hinfo hz hs0 hb0 v xs.length inner cs hs hx (d.K_len (d.K_of_M hp)) (d.K_one (d.K_of_M hp)) hown HB hbase hl ?_;intro v1 w1 hown1 hb1 hg1 hat1;exact h v1 w1 (R_appended h0 hr hp hokp hfresh hown1 hg1 hat1) hb1 hg1 hat1
end
end Go.Proofs.YtiminjibcafkaaaGreatDoorW.PrintWords.Kd
namespace Go.Proofs.YtiminjibcafkaaaGreatDoorW.PrintWords
open Go.RowKit
section
theorem Kd.R_flat {α : Type} {d : Kd α} {e base : Nat} {ok ok' : Nat → Prop} {w : World} {v : Value} {xs : List α} (hd : ∀ {ok1 ok2 : Nat → Prop} {x : α} {cs : List Value},d.M w base ok1 x cs → d.M w base ok2 x cs) (h : d.R e w base ok v xs) (hok : ∀ k,v.ownBlock = some k → ok k → ok' k) : d.R e w base ok' v xs:=by
 obtain ⟨h0,inner,hown,hr⟩:=h;exact ⟨fun k hk=>hok k hk (h0 k hk),inner,hown,hr.imp_ (fun _ _ hm=>hd hm)⟩
end
end Go.Proofs.YtiminjibcafkaaaGreatDoorW.PrintWords
end
