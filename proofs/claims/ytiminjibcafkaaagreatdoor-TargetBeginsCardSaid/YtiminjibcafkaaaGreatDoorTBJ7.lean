/- Texts that this claim's law comes to, joined by wip/slim.py: XhslicesSortFuncRun, X17, Xonrow, Xsame. -/
import Derived.Test.YtiminjibcafkaaaGreatDoorTBJ4
import Derived.Test.YtiminjibcafkaaaGreatDoorTBJ5
import Derived.Test.YtiminjibcafkaaaGreatDoorTBJ6
import Derived.Shelf.SlSortCmp.NoneTotal
import Derived.StillTailTactics
section
-- MADE BY wip/prx.py (the kit's printer, with contracts proved by hand). Not trusted: Lean checks it.
namespace Go.Proofs.YtiminjibcafkaaaGreatDoor.X
open Go.RowKit Go.Proofs.YtiminjibcafkaaaGreatDoorW.PrintWords Go.Proofs.YtiminjibcafkaaaGreatDoorW.PrintLast Go.Proofs.YtiminjibcafkaaaGreatDoorW.PrintMore
attribute [local go_sem] max2_int min2_int max_two min_two max_three min_three max_four min_four   -- for this text's walks alone
set_option linter.unusedVariables false
set_option linter.unusedSimpArgs false
--EXT Derived.Shelf.SlSortCmp.NoneTotal Derived.StillTailTactics
/-! ### slices_SortFunc_Run: function 104, by hand -/
theorem compare8_still (a b : Int) (w : World) : Calls Tryz.prog 100 #[.int .u8 a,.int .u8 b] w fun e w'=>e = .returned (.int .i64 (cmpI a b)) ∧ w' = w:=by
 unfold cmpI
 by_cases h1 : a < b
 ·go_enter Tryz.func100,Tryz.ntmps100
  go_wp2
  go_ret
  exact ⟨by simp [h1],rfl⟩
 ·by_cases h2 : b < a
  ·go_enter Tryz.func100,Tryz.ntmps100
   go_wp2
   go_ret
   exact ⟨by (have q1 : ¬ a < b:=by omega);simp [q1,h2],rfl⟩
  ·go_enter Tryz.func100,Tryz.ntmps100
   go_wp2
   go_ret
   exact ⟨by (have q1 : ¬ a < b:=by omega);(have q2 : ¬ b < a:=by omega);simp [q1,q2],rfl⟩
theorem compare32_still (a b : Int) (w : World) : Calls Tryz.prog 107 #[.int .u32 a,.int .u32 b] w fun e w'=>e = .returned (.int .i64 (cmpI a b)) ∧ w' = w:=by
 unfold cmpI
 by_cases h1 : a < b
 ·go_enter Tryz.func107,Tryz.ntmps107
  go_wp2
  go_ret
  exact ⟨by simp [h1],rfl⟩
 ·by_cases h2 : b < a
  ·go_enter Tryz.func107,Tryz.ntmps107
   go_wp2
   go_ret
   exact ⟨by (have q1 : ¬ a < b:=by omega);simp [q1,h2],rfl⟩
  ·go_enter Tryz.func107,Tryz.ntmps107
   go_wp2
   go_ret
   exact ⟨by (have q1 : ¬ a < b:=by omega);(have q2 : ¬ b < a:=by omega);simp [q1,q2],rfl⟩
def orI (a b : Int) : Int:=if a = 0 then b else a
theorem orI_is (a b : Int) : cmp_Or_int.f 3 [a,b] = some (orI a b):=by
 unfold cmp_Or_int.f orI
 by_cases ha : a = 0
 ·by_cases hb : b = 0
  ·subst ha;subst hb
   simp [cmp_Or_int.l0,rd,wrap64]
  ·subst ha
   simp [cmp_Or_int.l0,rd,wrap64,hb]
 ·simp [cmp_Or_int.l0,rd,ha]
def runCmp (x y : S67) : Int:=orI (cmpI x.f0 y.f0) (cmpI x.f1 y.f1)
def encRun (x : S67) : List Value:=[.int .u8 x.f0,.int .u32 x.f1,.int .u32 x.f2]
theorem C_two (W : World) (p q : Int) : Kd.C (Kd.int .i64) (W.alloc (.cells #[.int .i64 p,.int .i64 q] 3)) (some ⟨W.heap.size,0,none⟩) 2 [p,q]:=by
 refine ⟨rfl,by decide,fun _=>⟨_,rfl,fun j x hj=>⟨[.int .i64 x],rfl,rfl,fun i u hu=>?_⟩⟩⟩
 match i,hu with
 | 0,hu =>
  obtain rfl:=Option.some.inj hu
  match j,hj with
  | 0,hj=>obtain rfl:=Option.some.inj hj;exact blk_cell (blk_new W _) 0
  | 1,hj=>obtain rfl:=Option.some.inj hj;exact blk_cell (blk_new W _) 1
  | j + 2,hj=>simp at hj
 | i + 1,hu=>simp at hu
set_option maxRecDepth 100000 in
set_option maxHeartbeats 2000000 in
theorem know_merged_1.calls (x y : S67) (W : World) : Calls Tryz.prog 105 #[.agg #[.int .u8 x.f0,.int .u32 x.f1,.int .u32 x.f2],.agg #[.int .u8 y.f0,.int .u32 y.f1,.int .u32 y.f2]] W fun e w'=>e = .returned (.int .i64 (runCmp x y)) ∧ ∃ q os',w' = Sort.grow (W.drewN q) os':=by
 have hu:=Tryz.underlying67
 obtain ⟨a0,a1,a2⟩:=x
 obtain ⟨b0,b1,b2⟩:=y
 unfold runCmp
 dsimp only
 have c8:=fun w=>compare8_still a0 b0 w
 have c32:=fun w=>compare32_still a1 b1 w
 have hor:=orI_is (cmpI a0 b0) (cmpI a1 b1)
 generalize cmpI a0 b0 = p at c8 hor ⊢
 generalize cmpI a1 b1 = q at c32 hor ⊢
 generalize orI p q = r at hor ⊢
 have HO:=Aside0.mk hor
 clear hor
 go_enter Tryz.func105,Tryz.ntmps105
 go_wp2
 have k0 : ((W.alloc (.cells #[.int .u8 a0,.int .u32 a1,.int .u32 a2] 67)).alloc (.cells #[.int .u8 b0,.int .u32 b1,.int .u32 b2] 67)).cell? ⟨W.heap.size,0,none⟩ = some (.int .u8 a0):=by simp
 have k1 : ((W.alloc (.cells #[.int .u8 a0,.int .u32 a1,.int .u32 a2] 67)).alloc (.cells #[.int .u8 b0,.int .u32 b1,.int .u32 b2] 67)).cell? ⟨W.heap.size,1,none⟩ = some (.int .u32 a1):=by simp
 have k2 : ((W.alloc (.cells #[.int .u8 a0,.int .u32 a1,.int .u32 a2] 67)).alloc (.cells #[.int .u8 b0,.int .u32 b1,.int .u32 b2] 67)).cell? ⟨W.heap.size + 1,0,none⟩ = some (.int .u8 b0):=by simp
 have k3 : ((W.alloc (.cells #[.int .u8 a0,.int .u32 a1,.int .u32 a2] 67)).alloc (.cells #[.int .u8 b0,.int .u32 b1,.int .u32 b2] 67)).cell? ⟨W.heap.size + 1,1,none⟩ = some (.int .u32 b1):=by simp
 have kw : (W.alloc (.cells #[.int .u8 a0,.int .u32 a1,.int .u32 a2] 67)).alloc (.cells #[.int .u8 b0,.int .u32 b1,.int .u32 b2] 67) = Sort.grow W #[.cells #[.int .u8 a0,.int .u32 a1,.int .u32 a2] 67,.cells #[.int .u8 b0,.int .u32 b1,.int .u32 b2] 67]:=by
  rw [Sort.alloc_eq_grow,Sort.alloc_eq_grow,Sort.grow_grow];rfl
 generalize (W.alloc (.cells #[.int .u8 a0,.int .u32 a1,.int .u32 a2] 67)).alloc (.cells #[.int .u8 b0,.int .u32 b1,.int .u32 b2] 67) = W2 at k0 k1 k2 k3 kw ⊢
 refine wp_region_still_tail 10 (by kernel_rfl) (by kernel_rfl) ?_
 obtain ⟨W3,hW3⟩ : ∃ W3 : World,W3 = { W2 with drawn:=W2.drawn + 1 }:=⟨_,rfl⟩
 rw [← hW3]
 replace k0 : W3.cell? ⟨W.heap.size,0,none⟩ = some (.int .u8 a0):=by rw [hW3];exact k0
 replace k1 : W3.cell? ⟨W.heap.size,1,none⟩ = some (.int .u32 a1):=by rw [hW3];exact k1
 replace k2 : W3.cell? ⟨W.heap.size + 1,0,none⟩ = some (.int .u8 b0):=by rw [hW3];exact k2
 replace k3 : W3.cell? ⟨W.heap.size + 1,1,none⟩ = some (.int .u32 b1):=by rw [hW3];exact k3
 have KW:=Aside0.mk (show W3 = Sort.grow (W.drewN 1) #[.cells #[.int .u8 a0,.int .u32 a1,.int .u32 a2] 67,.cells #[.int .u8 b0,.int .u32 b1,.int .u32 b2] 67] by rw [hW3,kw];rfl)
 clear hW3 kw
 simp only [List.take_succ_cons,List.take_zero,List.drop_succ_cons,List.drop_zero]
 repeat still_step
 still_call (c8 _)
 repeat still_step
 still_call (c32 _)
 repeat still_step
 refine wpStill_nil ?_
 go_wp2_with (go_at_call 106;(refine (cmp_Or_int.calls 3 (some ⟨W3.heap.size,0,none⟩) 2 [p,q] r _ (C_two W3 p q) (Nat.le_refl 2) HO.out).mono ?_);rintro e w2 ⟨rfl,⟨nd,rfl⟩⟩)
 go_ret
 refine ⟨rfl,1 + nd,#[.cells #[.int .u8 a0,.int .u32 a1,.int .u32 a2] 67,.cells #[.int .u8 b0,.int .u32 b1,.int .u32 b2] 67,.cells #[.int .i64 p,.int .i64 q] 3],?_⟩
 rw [KW.out,Sort.alloc_eq_grow,Sort.grow_grow]
 simp [Sort.grow,World.drewN,Nat.add_assoc]
 exact ⟨rfl,rfl,rfl⟩
theorem runCmp_lt (x y : S67) : ltOf runCmp x y = (decide (x.f0 < y.f0) || (decide (x.f0 = y.f0) && decide (x.f1 < y.f1))):=by
 unfold ltOf runCmp orI cmpI
 by_cases h1 : x.f0 < y.f0
 ·simp [h1]
 ·by_cases h2 : x.f0 > y.f0
  ·have h3 : ¬ x.f0 = y.f0:=by omega
   simp [h1,h2,h3]
  ·have h3 : x.f0 = y.f0:=by omega
   by_cases h4 : x.f1 < y.f1
   ·simp [h3,h4]
   ·by_cases h5 : x.f1 > y.f1<;>simp [h3,h4,h5]
theorem runCmp_swo : Sort.SWO (ltOf runCmp) where
 irrefl x:=by rw [runCmp_lt];simp
 trans x y z h1 h2:=by rw [runCmp_lt] at *;simp at *;omega
 ntrans x y z h1 h2:=by rw [runCmp_lt] at *;simp at *;omega
def Tryz.sortRun_ren : Go.Shelf.Ren:=⟨fun | 6=>104 | 15=>119 | 14=>118 | 28=>130 | 29=>131 | 20=>122 | 21=>123 | 22=>124 | 23=>125 | 24=>126 | 25=>127 | 26=>128 | 27=>129 | 46=>133 | 47=>134 | 48=>135 | 49=>136 | 50=>137 | 57=>138 | n=>n,fun | 22=>23 | 24=>67 | 25=>140 | 3=>3 | 39=>159 | 0=>0 | 53=>22 | 55=>127 | 4=>4 | 46=>168 | 45=>167 | 50=>130 | 5=>5 | 9=>9 | 66=>176 | 70=>180 | 76=>182 | 77=>183 | n=>n,fun | n=>n⟩
theorem Tryz.sortRun : Go.Proofs.SlLaysF0.n6 Tryz.prog Tryz.sortRun_ren:={
 mixed:=by kernel_rfl
 f6:=⟨Tryz.f104.name,by decide,Tryz.func104.trans (congrArg some (by kernel_rfl))⟩
 f14:=⟨Tryz.f118.name,by decide,Tryz.func118.trans (congrArg some (by kernel_rfl))⟩
 f15:=Tryz.func119.trans (congrArg some (by kernel_rfl))
 f20:=⟨Tryz.f122.name,by decide,Tryz.func122.trans (congrArg some (by kernel_rfl))⟩
 f21:=⟨Tryz.f123.name,by decide,Tryz.func123.trans (congrArg some (by kernel_rfl))⟩
 f22:=⟨Tryz.f124.name,by decide,Tryz.func124.trans (congrArg some (by kernel_rfl))⟩
 f23:=⟨Tryz.f125.name,by decide,Tryz.func125.trans (congrArg some (by kernel_rfl))⟩
 f24:=⟨Tryz.f126.name,by decide,Tryz.func126.trans (congrArg some (by kernel_rfl))⟩
 f25:=⟨Tryz.f127.name,by decide,Tryz.func127.trans (congrArg some (by kernel_rfl))⟩
 f26:=⟨Tryz.f128.name,by decide,Tryz.func128.trans (congrArg some (by kernel_rfl))⟩
 f27:=⟨Tryz.f129.name,by decide,Tryz.func129.trans (congrArg some (by kernel_rfl))⟩
 f28:=Tryz.func130.trans (congrArg some (by kernel_rfl))
 f29:=Tryz.func131.trans (congrArg some (by kernel_rfl))
 f46:=⟨Tryz.f133.name,by decide,Tryz.func133.trans (congrArg some (by kernel_rfl))⟩
 f47:=Tryz.func134.trans (congrArg some (by kernel_rfl))
 f48:=Tryz.func135.trans (congrArg some (by kernel_rfl))
 f49:=⟨Tryz.f136.name,by decide,Tryz.func136.trans (congrArg some (by kernel_rfl))⟩
 f50:=⟨Tryz.f137.name,by decide,Tryz.func137.trans (congrArg some (by kernel_rfl))⟩
 f57:=⟨Tryz.f138.name,by decide,Tryz.func138.trans (congrArg some (by kernel_rfl))⟩
 t0:=Tryz.underlying0
 a0:=Tryz.isAgg0
 z0:=Tryz.sizeOf0
 v0:=Tryz.zeroValue0
 t3:=Tryz.underlying3
 a3:=Tryz.isAgg3
 z3:=Tryz.sizeOf3
 v3:=Tryz.zeroValue3
 t4:=Tryz.underlying4
 a4:=Tryz.isAgg4
 z4:=Tryz.sizeOf4
 v4:=Tryz.zeroValue4
 t5:=Tryz.underlying5
 a5:=Tryz.isAgg5
 z5:=Tryz.sizeOf5
 v5:=Tryz.zeroValue5
 t9:=Tryz.underlying9
 a9:=Tryz.isAgg9
 z9:=Tryz.sizeOf9
 v9:=Tryz.zeroValue9
 t22:=Tryz.underlying23
 a22:=Tryz.isAgg23
 z22:=Tryz.sizeOf23
 v22:=Tryz.zeroValue23
 t25:=Tryz.underlying140
 a25:=Tryz.isAgg140
 z25:=Tryz.sizeOf140
 v25:=Tryz.zeroValue140
 t39:=Tryz.underlying159
 a39:=Tryz.isAgg159
 z39:=Tryz.sizeOf159
 v39:=Tryz.zeroValue159
 t45:=Tryz.underlying167
 a45:=Tryz.isAgg167
 z45:=Tryz.sizeOf167
 v45:=Tryz.zeroValue167
 t46:=Tryz.underlying168
 a46:=Tryz.isAgg168
 z46:=Tryz.sizeOf168
 v46:=Tryz.zeroValue168
 t50:=Tryz.underlying130
 a50:=Tryz.isAgg130
 z50:=Tryz.sizeOf130
 v50:=Tryz.zeroValue130
 t53:=Tryz.underlying22
 a53:=Tryz.isAgg22
 z53:=Tryz.sizeOf22
 v53:=Tryz.zeroValue22
 t55:=Tryz.underlying127
 a55:=Tryz.isAgg127
 z55:=Tryz.sizeOf127
 v55:=Tryz.zeroValue127
 t66:=Tryz.underlying176
 a66:=Tryz.isAgg176
 z66:=Tryz.sizeOf176
 v66:=Tryz.zeroValue176
 t70:=Tryz.underlying180
 a70:=Tryz.isAgg180
 z70:=Tryz.sizeOf180
 v70:=Tryz.zeroValue180
 t76:=Tryz.underlying182
 a76:=Tryz.isAgg182
 z76:=Tryz.sizeOf182
 v76:=Tryz.zeroValue182
 t77:=Tryz.underlying183
 a77:=Tryz.isAgg183
 z77:=Tryz.sizeOf183
 v77:=Tryz.zeroValue183 }
instance : Inhabited S67:=⟨z67⟩
/-- slices.SortFunc by Rep, then by From: to the element, as Go's own text goes. -/
def slices_SortFunc_Run.f (l0 : List (S67)) : Option (List (S67)):=if l0.length < 11728124029610 then some (Sort.pdq (ltOf runCmp) l0.toArray 0 l0.toArray.size (Lib.bitLen l0.toArray.size) true true).toList else none
theorem encRun_M {w : World} {base : Nat} {ok : Nat → Prop} (p : S67) (c : List Value) (h : k67.M w base ok p c) : c = encRun p:=k67_openM h
theorem flat_Run (d : Array S67) (t : Nat) (h : t < d.size * 3) : some ((Sort.flatK encRun 3 d)[t]!) = (encRun (d.toList.getD (t / 3) z67))[t % 3]?:=by
 have hd : t / 3 < d.size:=by omega
 have e : d.toList.getD (t / 3) z67 = d[t / 3]:=by rw [List.getD_eq_getElem?_getD,List.getElem?_eq_getElem (by simpa using hd)];simp
 have h3 : t % 3 < (encRun d[t / 3]).length:=by simp [encRun];omega
 rw [e,Sort.get_flatK encRun 3 d t h,getElem!_pos d (t / 3) hd,getElem!_pos _ (t % 3) h3,List.getElem?_eq_getElem h3]
theorem size_flat_Run (d : Array S67) : (Sort.flatK encRun 3 d).size = d.size * 3:=by simp [Sort.flatK]
set_option maxHeartbeats 8000000 in
set_option maxRecDepth 100000 in
theorem slices_SortFunc_Run.calls (P0_ : Nat → Prop) (u9000_ : Value) (l0 : List (S67)) (r : List (S67)) (w0 w : World) (hB : Below w0.heap.size w0 w) (ho0 : Kd.R k67 67 w w0.heap.size P0_ u9000_ l0) (h : slices_SortFunc_Run.f l0 = some r) :
 Calls Tryz.prog 104 #[u9000_,.func (.func 105) #[] #[]] w fun e w'=>e = .returned (.tuple #[]) ∧ Kd.R k67 67 w' w0.heap.size (fun k_=>(P0_ k_ ∨ w.heap.size ≤ k_)) u9000_ r ∧ Below w0.heap.size w0 w' ∧ Kept w w' (fun k_=>P0_ k_):=by
 have eg : ∀ args w,(callFunc 105 args).run Tryz.prog w = .ok (.enter 105 args) w:=enters_of Tryz.func105 (by kernel_rfl) rfl
 unfold slices_SortFunc_Run.f at h
 by_cases hsz : l0.length < 11728124029610
 case neg=>rw [if_neg hsz] at h;cases h
 rw [if_pos hsz] at h
 have hr:=Option.some.inj h
 clear h
 obtain ⟨hP,inner,hown,hreps⟩:=ho0
 replace hreps : Reps _ 3 l0 inner:=hreps
 rcases hown.2 with ⟨rfl,hn⟩ | ⟨g,cap,cur,rfl,hbase,hheap,hncap,hcapm,hcur,htake⟩
 ·have hl : l0 = []:=List.eq_nil_of_length_eq_zero hn
  subst hl
  have hps:=Sort.pdq_sorts (ltOf runCmp) runCmp_swo #[] 0 0 (Lib.bitLen 0) true true (Nat.zero_le _) (Nat.le_refl _) (Or.inl rfl)
  have hr0 : r = []:=by
   rw [← hr]
   exact List.eq_nil_of_length_eq_zero (by have:=hps.1.1;simpa using this)
  subst hr0
  have hcon:=AnyF.slices_SortFunc_none Tryz.sortRun none 0 (.func (.func 105) #[] #[]) w
  change Calls Tryz.prog 104 _ _ _ at hcon
  refine hcon.mono ?_
  rintro e w' ⟨rfl,rfl⟩
  exact ⟨rfl,Kd.R_nil _ _ _ _ _,hB,Kept.refl _ _⟩
 ·replace hcur : cur.size = cap * 3:=hcur
  replace htake : cur.toList.take (l0.length * 3) = inner:=htake
  have hps:=Sort.pdq_sorts (ltOf runCmp) runCmp_swo l0.toArray 0 l0.toArray.size (Lib.bitLen l0.toArray.size) true true (Nat.zero_le _) (Nat.le_refl _) (Or.inl rfl)
  have hblk : g < w.heap.size:=blk_lt hheap
  have hcells : ∀ t,t < l0.length * 3 → cur[t]? = (encRun (l0.getD (t / 3) z67))[t % 3]?:=by
   intro t ht
   rw [← reps_get hreps encRun encRun_M (by decide) z67 t ht,← htake,List.getElem?_take,if_pos ht,Array.getElem?_toList]
  have hH : Sort.HoldsK encRun 3 w g 0 l0.toArray:=by
   intro t ht
   rw [size_flat_Run] at ht
   refine ⟨?_,blk_frozen hheap _⟩
   rw [Nat.zero_add,blk_cell hheap,hcells t (by simpa using ht)]
   exact (flat_Run l0.toArray t ht).symm
  have hcon:=AnyQ.slices_SortFunc_eq Tryz.sortRun 3 Tryz.isAgg67 Tryz.sizeOf67 encRun (fun _=>rfl) (fun x v hv=>by simp only [encRun,List.mem_cons,List.not_mem_nil,or_false] at hv;rcases hv with rfl | rfl | rfl<;>rfl) runCmp runCmp_swo 105 #[] g 0 cap l0.toArray w eg
   (fun _ _ _ _ x y=>know_merged_1.calls x y _) hH hblk (by simp;omega)
  change Calls Tryz.prog 104 _ _ _ at hcon
  refine hcon.mono ?_
  rintro e w' ⟨rfl,n,os,rfl⟩
  generalize hd : Sort.pdq (ltOf runCmp) l0.toArray 0 l0.toArray.size (Lib.bitLen l0.toArray.size) true true = d' at hr hps ⊢
  have hsize : d'.size = l0.length:=by have:=hps.1.1;simpa using this
  subst hr
  have hh : ∀ k,k < w.heap.size → (sortWorldK encRun 3 w g 0 n d' os).heap[k]? = if k = g then some (.cells (Sort.putCells id 0 (Sort.flatK encRun 3 d') cur) 67 (0,0)) else w.heap[k]?:=by
   intro k hk
   show ((w.heap.modify g (Sort.onCells (Sort.putCells id 0 (Sort.flatK encRun 3 d')))) ++ os)[k]? = _
   rw [Array.getElem?_append_left (by simpa using hk),Array.getElem?_modify]
   by_cases hkg : g = k
   ·subst hkg;rw [if_pos rfl,if_pos rfl,hheap];rfl
   ·rw [if_neg hkg,if_neg (Ne.symm hkg)]
  have hsw : w.heap.size ≤ (sortWorldK encRun 3 w g 0 n d' os).heap.size:=by
   show _ ≤ ((w.heap.modify g (Sort.onCells (Sort.putCells id 0 (Sort.flatK encRun 3 d')))) ++ os).size
   simp
  refine ⟨rfl,⟨fun k hk=>.inl (hP k hk),(Sort.flatK encRun 3 d').toList,⟨?_,.inr ⟨g,cap,Sort.putCells id 0 (Sort.flatK encRun 3 d') cur,by simp [hsize],hbase,by rw [hh g hblk,if_pos rfl],by simp [hsize];exact hncap,hcapm,by simp only [Sort.putCells,Array.size_mapIdx,hcur];rfl,?_⟩⟩,?_⟩,?_,?_⟩
  ·show (Sort.flatK encRun 3 d').toList.length = d'.toList.length * 3
   rw [Array.length_toList,size_flat_Run,Array.length_toList]
  ·show List.take (d'.toList.length * 3) _ = _
   apply List.ext_getElem?
   intro j
   rw [List.getElem?_take]
   by_cases hj : j < d'.toList.length * 3
   ·have hj2 : j < cur.size:=by rw [hcur];simp [hsize] at hj;omega
    have hj3 : j < (Sort.flatK encRun 3 d').size:=by rw [size_flat_Run];simpa using hj
    rw [if_pos hj]
    have hj4 : j < d'.size * 3:=by simpa using hj
    rw [Array.getElem?_toList,Array.getElem?_toList,Array.getElem?_eq_getElem hj3,← getElem!_pos _ j hj3]
    simp [Sort.putCells,hj2,hj4,size_flat_Run]
   ·rw [if_neg hj,List.getElem?_eq_none]
    rw [Array.length_toList,size_flat_Run];simpa using hj
  ·show Reps _ 3 _ _
   refine reps_mk encRun (fun _=>rfl) (fun p=>k67_mkM _ _ _ p) (by decide) z67 ?_ ?_
   ·rw [Array.length_toList,size_flat_Run,Array.length_toList]
   ·intro j hj
    have hj3 : j < (Sort.flatK encRun 3 d').size:=by rw [size_flat_Run];simpa using hj
    rw [← flat_Run d' j (by simpa using hj),Array.getElem?_toList,Array.getElem?_eq_getElem hj3,getElem!_pos _ j hj3]
  ·refine hB.trans ⟨rfl,rfl,rfl,hsw,fun k hk=>?_⟩
   rw [hh k (Nat.lt_of_lt_of_le hk hB.size),if_neg (by omega)]
  ·refine ⟨hsw,fun k hk hn=>?_⟩
   rw [hh k hk,if_neg]
   rintro rfl
   exact hn (hP _ rfl)
end Go.Proofs.YtiminjibcafkaaaGreatDoor.X
end
section
-- MADE BY wip/prx.py (the kit's printer, with contracts proved by hand). Not trusted: Lean checks it.
namespace Go.Proofs.YtiminjibcafkaaaGreatDoor.X
open Go.RowKit Go.Proofs.YtiminjibcafkaaaGreatDoorW.PrintWords Go.Proofs.YtiminjibcafkaaaGreatDoorW.PrintLast Go.Proofs.YtiminjibcafkaaaGreatDoorW.PrintMore
attribute [local go_sem] max2_int min2_int max_two min_two max_three min_three max_four min_four   -- for this text's walks alone
set_option linter.unusedVariables false
set_option linter.unusedSimpArgs false
/-! ### item_Cmp: function 103 -/
def item_Cmp.f (k : Nat) (a0_0 : Int) (a0_1 : Int) (a0_2 : Int) (a1_0 : Int) (a1_1 : Int) (a1_2 : Int) : Option (Int):=(cmp_Compare_uint32.f a0_2 a1_2).bind fun t218=>((cmp_Compare_uint8.f a0_0 a1_0).bind fun t219=>((cmp_Compare_uint32.f a0_1 a1_1).bind fun t220=>((cmp_Or_int.f k (([t218,t219,t220] : List Int))).bind fun t224=>(some t224))))
def item_Cmp.T1 : Bool × List (List Nat × List Nat):=(true,[([],[]),([0],[0]),([],[]),([2],[2]),([1,3],[1,3]),([],[]),([5],[5]),([],[]),([7],[7]),([6,8,4],[6,8]),([],[]),([10],[10]),([],[]),([12],[12]),([11,13,9],[11,13]),([4,9,14],[4,9,14]),([15,14],[15]),([16,16,0,1,2,3,4,5,6,7,8,9,10,11,12,13,14,15,16],[16])])
def item_Cmp.B1 : List Nat:=[0,1,0,4,15,0,32,0,128,511,0,1024,0,4096,16383,32767,65535,131071]
theorem item_Cmp.tab1 : rtab .any (opsOf Tryz.f103 1) = item_Cmp.T1:=by kernel_rfl
theorem item_Cmp.bits1 : waitsOk item_Cmp.T1.2 item_Cmp.B1 = true:=by kernel_rfl
set_option maxHeartbeats 8000000 in
set_option maxRecDepth 100000 in
theorem item_Cmp.calls (k : Nat) (a0_0 : Int) (a0_1 : Int) (a0_2 : Int) (a1_0 : Int) (a1_1 : Int) (a1_2 : Int) (r : Int) (w : World) (h : item_Cmp.f k a0_0 a0_1 a0_2 a1_0 a1_1 a1_2 = some r) :
 Calls Tryz.prog 103 #[.agg #[.int .u8 a0_0,.int .u32 a0_1,.int .u32 a0_2],.agg #[.int .u8 a1_0,.int .u32 a1_1,.int .u32 a1_2]] w fun e w'=>e = .returned (.int .i64 r) ∧ Below w.heap.size w w':=by
 have hu60:=Tryz.underlying60
 have HB:=Aside0.mk (Below.refl w.heap.size w)
 have H : ((cmp_Compare_uint32.f a0_2 a1_2).bind fun t218=>((cmp_Compare_uint8.f a0_0 a1_0).bind fun t219=>((cmp_Compare_uint32.f a0_1 a1_1).bind fun t220=>((cmp_Or_int.f k (([t218,t219,t220] : List Int))).bind fun t224=>(some t224))))) = some r:=h
 clear h
 replace H:=Option.bind_eq_some_iff.mp H
 obtain ⟨t218,A30,H⟩:=H
 have A3:=Aside0.mk A30
 clear A30
 replace H:=Option.bind_eq_some_iff.mp H
 obtain ⟨t219,A40,H⟩:=H
 have A4:=Aside0.mk A40
 clear A40
 replace H:=Option.bind_eq_some_iff.mp H
 obtain ⟨t220,A50,H⟩:=H
 have A5:=Aside0.mk A50
 clear A50
 obtain ⟨y221,hy221⟩ : ∃ y_ : List Int,y_ = (([t218,t219,t220] : List Int)):=⟨_,rfl⟩
 replace H : ((cmp_Or_int.f k y221).bind fun t224=>(some t224)) = some r:=by (rw [hy221];with_reducible exact H)
 have Ny221:=Aside0.mk hy221
 clear hy221
 replace H:=Option.bind_eq_some_iff.mp H
 obtain ⟨t224,A60,H⟩:=H
 have A6:=Aside0.mk A60
 clear A60
 obtain rfl:=Option.some.inj H
 go_enter Tryz.func103,Tryz.ntmps103
 try go_wp2_with (first | ((with_reducible refine gate_dst (N:=2) rfl ?_);refine box_event ?hg (N:=2) ?hd (cs:=#[.int .u8 a0_0,.int .u32 a0_1,.int .u32 a0_2]) (t:=60) ?hr ?_;(case hd=>rfl);(case hg=>rfl);(case hr=>(go_simp;done));intro gb216 hg w7 hbox hb;have n0_:=Aside0.mk (below_step (by repeat ((with_reducible first | exact HB.out))) hb);have n1_:=Aside0.mk (hbox);have n2_:=Aside0.mk ((by rw [hg];exact (below_size (by repeat ((with_reducible first | exact HB.out)))) : w.heap.size ≤ gb216));have n3_:=Aside0.mk ((by rw [hg];exact (below_size (by repeat ((with_reducible first | exact HB.out)))) : w.heap.size ≤ gb216));clear HB;have HB:=n0_;have BK216:=n1_;have GW216:=n2_;have GE216:=n3_;clear n0_ n1_ n2_ n3_ hb hbox hg) | ((with_reducible refine gate_dst (N:=3) rfl ?_);refine box_event ?hg (N:=3) ?hd (cs:=#[.int .u8 a1_0,.int .u32 a1_1,.int .u32 a1_2]) (t:=60) ?hr ?_;(case hd=>rfl);(case hg=>rfl);(case hr=>(go_simp;done));intro gb217 hg w8 hbox hb;have n0_:=Aside0.mk (blk_below BK216.out hb);have n1_:=Aside0.mk (below_step (by repeat ((with_reducible first | exact HB.out))) hb);have n2_:=Aside0.mk (hbox);have n3_:=Aside0.mk ((by rw [hg];exact (below_size (by repeat ((with_reducible first | exact HB.out)))) : w.heap.size ≤ gb217));have n4_:=Aside0.mk ((by rw [hg];exact (below_size (by repeat ((with_reducible first | exact HB.out)))) : w.heap.size ≤ gb217));have n5_:=Aside0.mk ((by rw [hg];exact Nat.ne_of_lt (blk_lt (g:=gb216) (o:=.cells #[.int .u8 a0_0,.int .u32 a0_1,.int .u32 a0_2] 60 (0,0)) BK216.out) : gb216 ≠ gb217));have n6_:=Aside0.mk ((by rw [hg];exact Nat.ne_of_gt (blk_lt (g:=gb216) (o:=.cells #[.int .u8 a0_0,.int .u32 a0_1,.int .u32 a0_2] 60 (0,0)) BK216.out) : gb217 ≠ gb216));clear BK216 HB;have BK216:=n0_;have HB:=n1_;have BK217:=n2_;have GW217:=n3_;have GE217:=n4_;have NB216_217:=n5_;have NB217_216:=n6_;clear n0_ n1_ n2_ n3_ n4_ n5_ n6_ hb hbox hg))
 replace BK216:=Aside0.mk (blk_drew BK216.out)
 replace BK217:=Aside0.mk (blk_drew BK217.out)
 replace HB:=Aside0.mk (below_drew1 HB.out)
 refine start_ (n:=18) (S:=fun w'=>w'.cell? ⟨gb216,0,none⟩ = some (.int .u8 a0_0) ∧ w'.cell? ⟨gb216,1,none⟩ = some (.int .u32 a0_1) ∧ w'.cell? ⟨gb216,2,none⟩ = some (.int .u32 a0_2) ∧ w'.cell? ⟨gb217,0,none⟩ = some (.int .u8 a1_0) ∧ w'.cell? ⟨gb217,1,none⟩ = some (.int .u32 a1_1) ∧ w'.cell? ⟨gb217,2,none⟩ = some (.int .u32 a1_2)) (ds:=[]) #[false,false,false,false,false,false,false,false,false,false,false,false,false,false,false,false,false,false] (by kernel_rfl) rfl rfl ⟨(blk_cell BK216.out 0).trans rfl,(blk_cell BK216.out 1).trans rfl,(blk_cell BK216.out 2).trans rfl,(blk_cell BK217.out 0).trans rfl,(blk_cell BK217.out 1).trans rfl,(blk_cell BK217.out 2).trans rfl⟩ (fun hHeld=>?_);refine with_tabW item_Cmp.tab1 item_Cmp.bits1 (fun HT_ HW_=>?_)
 generalize w8.drew = w9 at BK216 BK217 HB hHeld ⊢
 refine pu 0 (some 5) HT_ rfl rfl ?_
 refine pu 2 (some 7) HT_ rfl rfl ?_
 refine pu 5 (some 10) HT_ rfl rfl ?_
 refine pu 7 (some 12) HT_ rfl rfl ?_
 refine pu 10 (some 15) HT_ rfl rfl ?_
 refine pu 12 (some 17) HT_ rfl rfl ?_
 refine ta 1 (some 6) HT_ HW_ hHeld rfl rfl (by rintro w' ⟨s0,s1,s2,s3,s4,s5⟩;go_simp;with_reducible rfl) ?_
 refine ta 3 (some 8) HT_ HW_ hHeld rfl rfl (by rintro w' ⟨s0,s1,s2,s3,s4,s5⟩;go_simp;with_reducible rfl) ?_
 refine ta 6 (some 11) HT_ HW_ hHeld rfl rfl (by rintro w' ⟨s0,s1,s2,s3,s4,s5⟩;go_simp;with_reducible rfl) ?_
 refine ta 8 (some 13) HT_ HW_ hHeld rfl rfl (by rintro w' ⟨s0,s1,s2,s3,s4,s5⟩;go_simp;with_reducible rfl) ?_
 refine ta 11 (some 16) HT_ HW_ hHeld rfl rfl (by rintro w' ⟨s0,s1,s2,s3,s4,s5⟩;go_simp;with_reducible rfl) ?_
 refine ta 13 (some 18) HT_ HW_ hHeld rfl rfl (by rintro w' ⟨s0,s1,s2,s3,s4,s5⟩;go_simp;with_reducible rfl) ?_
 refine one_ (i:=4) (N:=some 9) #[true,true,true,true,true,true,true,true,true,false,true,true,true,true,false,false,false,false] rfl rfl (one_of HT_.out (by kernel_rfl)) (by decide) (fun K hK=>?_)
 refine goes_ Tryz.func107 (by kernel_rfl) rfl #[.int .u32 a0_2,.int .u32 a1_2] (by rfl) rfl rfl (by (try simp only [List.map_toArray,List.map_cons,List.map_nil]);first | rfl) ?_
 with_reducible refine (cmp_Compare_uint32.calls a0_2 a1_2 t218 _ A3.out).mono ?_
 rintro e w' ⟨rfl,⟨nd,rfl⟩⟩
 refine ⟨_,rfl,?_⟩
 refine hK.out _ _ ⟨(blk_cell BK216.out 0).trans rfl,(blk_cell BK216.out 1).trans rfl,(blk_cell BK216.out 2).trans rfl,(blk_cell BK217.out 0).trans rfl,(blk_cell BK217.out 1).trans rfl,(blk_cell BK217.out 2).trans rfl⟩ (fun hHeld=>?_)
 clear hK K
 refine no_ (some 9) ?_
 refine one_ (i:=9) (N:=some 14) #[true,true,true,true,true,true,true,true,true,true,true,true,true,true,false,false,false,false] rfl rfl (one_of HT_.out (by kernel_rfl)) (by decide) (fun K hK=>?_)
 refine goes_ Tryz.func100 (by kernel_rfl) rfl #[.int .u8 a0_0,.int .u8 a1_0] (by rfl) rfl rfl (by (try simp only [List.map_toArray,List.map_cons,List.map_nil]);first | rfl) ?_
 with_reducible refine (cmp_Compare_uint8.calls a0_0 a1_0 t219 _ A4.out).mono ?_
 rintro e w' ⟨rfl,⟨nd,rfl⟩⟩
 refine ⟨_,rfl,?_⟩
 refine hK.out _ _ ⟨(blk_cell BK216.out 0).trans rfl,(blk_cell BK216.out 1).trans rfl,(blk_cell BK216.out 2).trans rfl,(blk_cell BK217.out 0).trans rfl,(blk_cell BK217.out 1).trans rfl,(blk_cell BK217.out 2).trans rfl⟩ (fun hHeld=>?_)
 clear hK K
 refine no_ (some 14) ?_
 refine one_ (i:=14) (N:=some 19) #[true,true,true,true,true,true,true,true,true,true,true,true,true,true,true,false,false,false] rfl rfl (one_of HT_.out (by kernel_rfl)) (by decide) (fun K hK=>?_)
 refine goes_ Tryz.func107 (by kernel_rfl) rfl #[.int .u32 a0_1,.int .u32 a1_1] (by rfl) rfl rfl (by (try simp only [List.map_toArray,List.map_cons,List.map_nil]);first | rfl) ?_
 with_reducible refine (cmp_Compare_uint32.calls a0_1 a1_1 t220 _ A5.out).mono ?_
 rintro e w' ⟨rfl,⟨nd,rfl⟩⟩
 refine ⟨_,rfl,?_⟩
 refine hK.out _ _ ⟨(blk_cell BK216.out 0).trans rfl,(blk_cell BK216.out 1).trans rfl,(blk_cell BK216.out 2).trans rfl,(blk_cell BK217.out 0).trans rfl,(blk_cell BK217.out 1).trans rfl,(blk_cell BK217.out 2).trans rfl⟩ (fun hHeld=>?_)
 clear hK K
 refine no_ (some 19) ?_
 refine one_ (i:=15) (N:=some 20) #[true,true,true,true,true,true,true,true,true,true,true,true,true,true,true,true,false,false] rfl rfl (one_of HT_.out (by kernel_rfl)) (by decide) (fun K hK=>?_)
 refine Kd.R_lit_step (Kd.int .i64) _ 3 ?hg (N:=20) ?hd (xs:=([t218,t219,t220] : List Int)) (inner:=[.int .i64 t218,.int .i64 t219,.int .i64 t220]) (ok:=fun _=>True) (okp:=fun _=>True) ?hr ?hp (fun _ hk=>hk) trivial (Below.refl _ _) (Nat.le_refl _) (by simp) ?_;(case hd=>rfl);(case hg=>rfl);(case hr=>(go_simp;done));(case hp=>exact (Reps.one (show Kd.M (Kd.int .i64) _ _ _ t218 [.int .i64 t218] from rfl) (Reps.one (show Kd.M (Kd.int .i64) _ _ _ t219 [.int .i64 t219] from rfl) (Reps.one (show Kd.M (Kd.int .i64) _ _ _ t220 [.int .i64 t220] from rfl) (Reps.none _ _)))))
 intro v222 w10 ho11 hb hg_ hnew_
 clear hg_ hnew_
 (first | rw [← Ny221.out] at ho11)
 have n0_:=Aside0.mk (Kd.R_lower ho11 (below_size (by repeat ((with_reducible first | exact HB.out | apply pw_below_drewN)))))
 have n1_:=Aside0.mk (blk_below (g:=gb216) (o:=.cells #[.int .u8 a0_0,.int .u32 a0_1,.int .u32 a0_2] 60 (0,0)) (by (with_reducible repeat (first | refine blk_drewN ?_ _));exact BK216.out) hb)
 have n2_:=Aside0.mk (blk_below (g:=gb217) (o:=.cells #[.int .u8 a1_0,.int .u32 a1_1,.int .u32 a1_2] 60 (0,0)) (by (with_reducible repeat (first | refine blk_drewN ?_ _));exact BK217.out) hb)
 have n3_:=Aside0.mk (below_step (by repeat ((with_reducible first | exact HB.out | apply pw_below_drewN))) hb)
 clear BK216 BK217 HB
 have HO223:=n0_
 have BK216:=n1_
 have BK217:=n2_
 have HB:=n3_
 clear n0_ n1_ n2_ n3_ hb ho11
 obtain ⟨Ao12,co12,eo12⟩:=Kd.R_slice HO223.out
 (first | subst eo12)
 refine hK.out _ _ ⟨(blk_cell BK216.out 0).trans rfl,(blk_cell BK216.out 1).trans rfl,(blk_cell BK216.out 2).trans rfl,(blk_cell BK217.out 0).trans rfl,(blk_cell BK217.out 1).trans rfl,(blk_cell BK217.out 2).trans rfl⟩ (fun hHeld=>?_)
 clear hK K
 refine no_ (some 20) ?_
 refine one_ (i:=16) (N:=some 21) #[true,true,true,true,true,true,true,true,true,true,true,true,true,true,true,true,true,false] rfl rfl (one_of HT_.out (by kernel_rfl)) (by decide) (fun K hK=>?_)
 refine goes_ Tryz.func106 (by kernel_rfl) rfl #[.slice Ao12 y221.length co12] (by rfl) rfl rfl (by (try simp only [List.map_toArray,List.map_cons,List.map_nil]);first | rfl) ?_
 with_reducible refine (cmp_Or_int.calls k _ _ y221 t224 _ ?side1 ?side2 A6.out).mono ?_
 (case side1=>repeat (first | exact (Kd.R_reads' HO223.out).2.2))
 (case side2=>exact (Kd.R_reads' HO223.out).2.1)
 rintro e w' ⟨rfl,⟨nd,rfl⟩⟩
 refine ⟨_,rfl,?_⟩
 refine hK.out _ _ ⟨(blk_cell BK216.out 0).trans rfl,(blk_cell BK216.out 1).trans rfl,(blk_cell BK216.out 2).trans rfl,(blk_cell BK217.out 0).trans rfl,(blk_cell BK217.out 1).trans rfl,(blk_cell BK217.out 2).trans rfl⟩ (fun hHeld=>?_)
 clear hK K
 refine no_ (some 21) ?_
 refine pu 17 (some 4) HT_ rfl rfl ?_
 refine done_ (done_of HT_.out (by kernel_rfl)) ?_
 try go_wp2
 go_ret
 exact ⟨by first | rfl,by repeat ((with_reducible first | exact HB.out | apply pw_below_drewN))⟩
end Go.Proofs.YtiminjibcafkaaaGreatDoor.X
end
section
/- Rows that are read, and where they lie. -/
namespace Go.Proofs.YtiminjibcafkaaaGreatDoor.X
open Go.RowKit Go.Proofs.YtiminjibcafkaaaGreatDoorW.PrintWords Go.Proofs.YtiminjibcafkaaaGreatDoorW.PrintLast Go.Proofs.YtiminjibcafkaaaGreatDoorW.PrintMore
set_option linter.unusedVariables false
/-- A row that is read, whose block S lets. -/
structure On {α : Type} (d : Kd α) (w : World) (S : Nat → Prop) (A : Option Addr) (c : Nat) (l : List α) : Prop where
 len : l.length ≤ c
 row : d.C w A l.length l
 off : ∀ ad,A = some ad → 0 < l.length → S ad.block
section
variable {α : Type} {d : Kd α} {w w1 : World} {S S' : Nat → Prop} {A : Option Addr} {c : Nat} {l : List α}
theorem On.mono (h : On d w S A c l) (hs : ∀ k,S k → S' k) : On d w S' A c l:=⟨h.len,h.row,fun ad e n=>hs _ (h.off ad e n)⟩
theorem On.below (h : On d w S A c l) (hb : Below w.heap.size w w1) : On d w1 S A c l:=⟨h.len,Kd.C_below h.row hb,h.off⟩
theorem On.nil : On d w S none 0 ([] : List α):=⟨Nat.le_refl _,⟨rfl,by simp,fun h=>absurd h (Nat.lt_irrefl 0)⟩,fun ad e=>by cases e⟩
theorem On.lt (hsz : 0 < d.sz) (h : On d w S A c l) : On d w (fun k=>S k ∧ k < w.heap.size) A c l:=by
 refine ⟨h.len,h.row,fun ad e hn=>⟨h.off ad e hn,?_⟩⟩
 obtain ⟨h1,h2,h3⟩:=h.row
 obtain ⟨ad',e',hc⟩:=h3 hn
 rw [e] at e'
 cases e'
 obtain ⟨cs,a,b,f⟩:=hc 0 _ (List.getElem?_eq_getElem hn)
 have h0 : 0 < cs.length:=by omega
 have:=World.block_lt_of_cell? w _ (f 0 _ (List.getElem?_eq_getElem h0))
 rwa [add_block] at this
theorem On.far (hK : ∀ (w w1 : World) x cs,d.K w x cs → d.K w1 x cs) (h : On d w S A c l) {p : Addr} (hS : ∀ k,S k → k ≠ p.block) (u : Value) : On d (w.setCell p u) S A c l:=by
 refine ⟨h.len,?_,h.off⟩
 obtain ⟨h1,h2,h3⟩:=h.row
 refine ⟨h1,h2,fun hn=>?_⟩
 obtain ⟨ad,e,hc⟩:=h3 hn
 refine ⟨ad,e,fun j p' hj=>?_⟩
 obtain ⟨cs,a,b,f⟩:=hc j p' hj
 exact ⟨cs,a,hK _ _ _ _ b,fun i u' hu=>(cell_far (by rw [add_block];exact hS _ (h.off ad e (by omega))) u).trans (f i u' hu)⟩
theorem On.of_R {e base : Nat} {ok : Nat → Prop} {n : Nat} (h : d.R e w base ok (.slice A n c) l) (hS : ∀ k,ok k → base ≤ k → S k) : On d w S A c l:=by
 obtain ⟨A',c',hv,h1,h2⟩:=Kd.R_reads h
 injection hv with e1 e2 e3
 subst e1;subst e3
 refine ⟨h1,h2,fun ad he hn=>?_⟩
 subst he
 have hb : (Value.slice (some ad) n c).ownBlock = some ad.block:=rfl
 exact hS _ (h.1 _ hb) (Kd.R_base h _ hb)
end
theorem flatK_Run (w w1 : World) (x : S67) (cs : List Value) (h : Kd.K k67 w x cs) : Kd.K k67 w1 x cs:=h
theorem flatK_Entry (w w1 : World) (x : S62) (cs : List Value) (h : Kd.K k62 w x cs) : Kd.K k62 w1 x cs:=h
/-- Stores into a block, from place i on. -/
def put_ (w : World) (g : Nat) : Nat → List Value → World
 | _,[]=>w
 | i,v :: l=>put_ (w.setCell ⟨g,i,none⟩ v) g (i + 1) l
theorem put_far (g g' : Nat) (h : g' ≠ g) : ∀ (l : List Value) (w : World) (i : Nat),(put_ w g i l).heap[g']? = w.heap[g']?
 | [],w,i=>rfl
 | v :: l,w,i=>(put_far g g' h l _ _).trans (Below.heap_setCell w ⟨g,i,none⟩ v g' h)
theorem put_size (g : Nat) : ∀ (l : List Value) (w : World) (i : Nat),(put_ w g i l).heap.size = w.heap.size
 | [],w,i=>rfl
 | v :: l,w,i=>(put_size g l _ _).trans (by simp [World.setCell])
theorem put_below {B : Nat} {w0 : World} (g : Nat) (hg : B ≤ g) : ∀ (l : List Value) (w : World) (i : Nat),Below B w0 w → Below B w0 (put_ w g i l)
 | [],w,i,h=>h
 | v :: l,w,i,h=>put_below g hg l _ _ (h.setCell (p:=⟨g,i,none⟩) hg v)
theorem put_lit {t : TypeId} (g : Nat) : ∀ (l pre old post : List Value) (w : World),old.length = l.length → w.heap[g]? = some (.cells (pre ++ old ++ post).toArray t (0,0)) → (put_ w g pre.length l).heap[g]? = some (.cells (pre ++ l ++ post).toArray t (0,0))
 | [],pre,old,post,w,hl,h=>by
  have : old = []:=List.eq_nil_of_length_eq_zero hl
  subst this
  exact h
 | v :: l,pre,[],post,w,hl,h=>by simp at hl
 | v :: l,pre,o :: old,post,w,hl,h=>by
  have h1:=blk_set h pre.length v
  have h2:=put_lit (t:=t) g l (pre ++ [v]) old post (w.setCell ⟨g,pre.length,none⟩ v) (by simpa using hl) (by
   rw [h1]
   simp)
  simp only [List.length_append,List.length_cons,List.length_nil,Nat.zero_add,List.append_assoc,List.cons_append,List.nil_append] at h2
  simp only [List.append_assoc,List.cons_append]
  exact h2
theorem On.put {α : Type} {d : Kd α} {S : Nat → Prop} {A : Option Addr} {c : Nat} {xs : List α} (hK : ∀ (w w1 : World) x cs,d.K w x cs → d.K w1 x cs) (g : Nat) (hS : ∀ k,S k → k ≠ g) : ∀ (l : List Value) (w : World) (i : Nat),On d w S A c xs → On d (put_ w g i l) S A c xs
 | [],w,i,h=>h
 | v :: l,w,i,h=>On.put hK g hS l _ _ (h.far hK (p:=⟨g,i,none⟩) hS v)
theorem On.drewN {α : Type} {d : Kd α} {S : Nat → Prop} {A : Option Addr} {c : Nat} {l : List α} {w : World} (h : On d w S A c l) (n : Nat) : On d (w.drewN n) S A c l:=h.below ⟨rfl,rfl,rfl,Nat.le_refl _,fun _ _=>rfl⟩
section
variable {w w1 : World} {g g' : Nat}
theorem far_ {lo : Nat} {l : List Value} {x : Option Obj} (hw : w1 = put_ w g lo l) (hn : g' ≠ g) (h : w.heap[g']? = x) : w1.heap[g']? = x:=by rw [hw,put_far _ _ hn];exact h
theorem bel_ {B lo : Nat} {l : List Value} {w0 : World} (hw : w1 = put_ w g lo l) (hg : B ≤ g) (h : Below B w0 w) : Below B w0 w1:=hw ▸ put_below g hg l w lo h
theorem siz_ {n lo : Nat} {l : List Value} (hw : w1 = put_ w g lo l) (h : n ≤ w.heap.size) : n ≤ w1.heap.size:=by rw [hw,put_size];exact h
theorem On.puts {α : Type} {d : Kd α} {S : Nat → Prop} {A : Option Addr} {c lo : Nat} {xs : List α} {l : List Value} (h : On d w S A c xs) (hw : w1 = put_ w g lo l) (hK : ∀ (w w1 : World) x cs,d.K w x cs → d.K w1 x cs) (hS : ∀ k,S k → k ≠ g) : On d w1 S A c xs:=hw ▸ On.put hK g hS l w lo h
/-- A block that a region leaves as it was. -/
theorem keep_ {w2 : World} {o : Obj} (h : w1.heap[g]? = w.heap[g]?) (B : w.heap[g]? = some o) (hx : Below w1.heap.size w1 w2) : w2.heap[g]? = w.heap[g]?:=(blk_below (h.trans B) hx).trans B.symm
theorem keepi_ {w2 : World} {o o' : Obj} {c : Prop} [Decidable c] (h : w1.heap[g]? = if c then some o' else w.heap[g]?) (B : w.heap[g]? = some o) (hx : Below w1.heap.size w1 w2) : w2.heap[g]? = if c then some o' else w.heap[g]?:=by
 by_cases hc : c
 ·rw [if_pos hc] at h ⊢;exact blk_below h hx
 ·rw [if_neg hc] at h ⊢;exact keep_ h B hx
end
theorem al1_0 {w w1 : World} {o0 : Obj} (h : w.alloc o0 = w1) : w1.heap[w.heap.size]? = some o0:=by subst h;exact blk_new w o0
theorem al1B {w w1 : World} {o0 : Obj} (h : w.alloc o0 = w1) : Below w.heap.size w w1:=h ▸ (Below.refl _ w).alloc (Nat.le_refl _) o0
theorem al2_0 {w w1 : World} {o0 o1 : Obj} (h : (w.alloc o0).alloc o1 = w1) : w1.heap[w.heap.size]? = some o0:=by subst h;exact blk_alloc (blk_new w o0) o1
theorem al2_1 {w w1 : World} {o0 o1 : Obj} (h : (w.alloc o0).alloc o1 = w1) : w1.heap[w.heap.size + 1]? = some o1:=by subst h;simpa using blk_new (w.alloc o0) o1
theorem al2B {w w1 : World} {o0 o1 : Obj} (h : (w.alloc o0).alloc o1 = w1) : Below w.heap.size w w1:=h ▸ ((Below.refl _ w).alloc (Nat.le_refl _) o0).alloc (by simp;try omega) o1
theorem al3_0 {w w1 : World} {o0 o1 o2 : Obj} (h : ((w.alloc o0).alloc o1).alloc o2 = w1) : w1.heap[w.heap.size]? = some o0:=by subst h;exact blk_alloc (blk_alloc (blk_new w o0) o1) o2
theorem al3_1 {w w1 : World} {o0 o1 o2 : Obj} (h : ((w.alloc o0).alloc o1).alloc o2 = w1) : w1.heap[w.heap.size + 1]? = some o1:=by subst h;simpa using blk_alloc (blk_new (w.alloc o0) o1) o2
theorem al3_2 {w w1 : World} {o0 o1 o2 : Obj} (h : ((w.alloc o0).alloc o1).alloc o2 = w1) : w1.heap[w.heap.size + 1 + 1]? = some o2:=by subst h;simpa using blk_new ((w.alloc o0).alloc o1) o2
theorem al3B {w w1 : World} {o0 o1 o2 : Obj} (h : ((w.alloc o0).alloc o1).alloc o2 = w1) : Below w.heap.size w w1:=h ▸ (((Below.refl _ w).alloc (Nat.le_refl _) o0).alloc (by simp;try omega) o1).alloc (by simp;try omega) o2
theorem al4_0 {w w1 : World} {o0 o1 o2 o3 : Obj} (h : (((w.alloc o0).alloc o1).alloc o2).alloc o3 = w1) : w1.heap[w.heap.size]? = some o0:=by subst h;exact blk_alloc (blk_alloc (blk_alloc (blk_new w o0) o1) o2) o3
theorem al4_1 {w w1 : World} {o0 o1 o2 o3 : Obj} (h : (((w.alloc o0).alloc o1).alloc o2).alloc o3 = w1) : w1.heap[w.heap.size + 1]? = some o1:=by subst h;simpa using blk_alloc (blk_alloc (blk_new (w.alloc o0) o1) o2) o3
theorem al4_2 {w w1 : World} {o0 o1 o2 o3 : Obj} (h : (((w.alloc o0).alloc o1).alloc o2).alloc o3 = w1) : w1.heap[w.heap.size + 1 + 1]? = some o2:=by subst h;simpa using blk_alloc (blk_new ((w.alloc o0).alloc o1) o2) o3
theorem al4_3 {w w1 : World} {o0 o1 o2 o3 : Obj} (h : (((w.alloc o0).alloc o1).alloc o2).alloc o3 = w1) : w1.heap[w.heap.size + 1 + 1 + 1]? = some o3:=by subst h;simpa using blk_new (((w.alloc o0).alloc o1).alloc o2) o3
theorem al4B {w w1 : World} {o0 o1 o2 o3 : Obj} (h : (((w.alloc o0).alloc o1).alloc o2).alloc o3 = w1) : Below w.heap.size w w1:=h ▸ ((((Below.refl _ w).alloc (Nat.le_refl _) o0).alloc (by simp;try omega) o1).alloc (by simp;try omega) o2).alloc (by simp;try omega) o3
theorem own13_0_13 {w w1 : World} {g : Nat} {t : TypeId} {o0 o1 o2 o3 o4 o5 o6 o7 o8 o9 o10 o11 o12 v0 v1 v2 v3 v4 v5 v6 v7 v8 v9 v10 v11 v12 : Value} (hw : w1 = put_ w g 0 [v0,v1,v2,v3,v4,v5,v6,v7,v8,v9,v10,v11,v12]) (h : w.heap[g]? = some (.cells #[o0,o1,o2,o3,o4,o5,o6,o7,o8,o9,o10,o11,o12] t (0,0))) : w1.heap[g]? = some (.cells #[v0,v1,v2,v3,v4,v5,v6,v7,v8,v9,v10,v11,v12] t (0,0)):=hw ▸ put_lit g [v0,v1,v2,v3,v4,v5,v6,v7,v8,v9,v10,v11,v12] [] [o0,o1,o2,o3,o4,o5,o6,o7,o8,o9,o10,o11,o12] [] w rfl h
theorem own12_0_12 {w w1 : World} {g : Nat} {t : TypeId} {o0 o1 o2 o3 o4 o5 o6 o7 o8 o9 o10 o11 v0 v1 v2 v3 v4 v5 v6 v7 v8 v9 v10 v11 : Value} (hw : w1 = put_ w g 0 [v0,v1,v2,v3,v4,v5,v6,v7,v8,v9,v10,v11]) (h : w.heap[g]? = some (.cells #[o0,o1,o2,o3,o4,o5,o6,o7,o8,o9,o10,o11] t (0,0))) : w1.heap[g]? = some (.cells #[v0,v1,v2,v3,v4,v5,v6,v7,v8,v9,v10,v11] t (0,0)):=hw ▸ put_lit g [v0,v1,v2,v3,v4,v5,v6,v7,v8,v9,v10,v11] [] [o0,o1,o2,o3,o4,o5,o6,o7,o8,o9,o10,o11] [] w rfl h
theorem own13_6_7 {w w1 : World} {g : Nat} {t : TypeId} {o0 o1 o2 o3 o4 o5 o6 o7 o8 o9 o10 o11 o12 v0 v1 v2 v3 v4 v5 v6 : Value} (hw : w1 = put_ w g 6 [v0,v1,v2,v3,v4,v5,v6]) (h : w.heap[g]? = some (.cells #[o0,o1,o2,o3,o4,o5,o6,o7,o8,o9,o10,o11,o12] t (0,0))) : w1.heap[g]? = some (.cells #[o0,o1,o2,o3,o4,o5,v0,v1,v2,v3,v4,v5,v6] t (0,0)):=hw ▸ put_lit g [v0,v1,v2,v3,v4,v5,v6] [o0,o1,o2,o3,o4,o5] [o6,o7,o8,o9,o10,o11,o12] [] w rfl h
theorem own7_0_7 {w w1 : World} {g : Nat} {t : TypeId} {o0 o1 o2 o3 o4 o5 o6 v0 v1 v2 v3 v4 v5 v6 : Value} (hw : w1 = put_ w g 0 [v0,v1,v2,v3,v4,v5,v6]) (h : w.heap[g]? = some (.cells #[o0,o1,o2,o3,o4,o5,o6] t (0,0))) : w1.heap[g]? = some (.cells #[v0,v1,v2,v3,v4,v5,v6] t (0,0)):=hw ▸ put_lit g [v0,v1,v2,v3,v4,v5,v6] [] [o0,o1,o2,o3,o4,o5,o6] [] w rfl h
theorem own13_4_1 {w w1 : World} {g : Nat} {t : TypeId} {o0 o1 o2 o3 o4 o5 o6 o7 o8 o9 o10 o11 o12 v0 : Value} (hw : w1 = put_ w g 4 [v0]) (h : w.heap[g]? = some (.cells #[o0,o1,o2,o3,o4,o5,o6,o7,o8,o9,o10,o11,o12] t (0,0))) : w1.heap[g]? = some (.cells #[o0,o1,o2,o3,v0,o5,o6,o7,o8,o9,o10,o11,o12] t (0,0)):=hw ▸ put_lit g [v0] [o0,o1,o2,o3] [o4] [o5,o6,o7,o8,o9,o10,o11,o12] w rfl h
theorem own13_5_1 {w w1 : World} {g : Nat} {t : TypeId} {o0 o1 o2 o3 o4 o5 o6 o7 o8 o9 o10 o11 o12 v0 : Value} (hw : w1 = put_ w g 5 [v0]) (h : w.heap[g]? = some (.cells #[o0,o1,o2,o3,o4,o5,o6,o7,o8,o9,o10,o11,o12] t (0,0))) : w1.heap[g]? = some (.cells #[o0,o1,o2,o3,o4,v0,o6,o7,o8,o9,o10,o11,o12] t (0,0)):=hw ▸ put_lit g [v0] [o0,o1,o2,o3,o4] [o5] [o6,o7,o8,o9,o10,o11,o12] w rfl h
theorem own1_0_1 {w w1 : World} {g : Nat} {t : TypeId} {o v : Value} (hw : w1 = put_ w g 0 [v]) (h : w.heap[g]? = some (.cells #[o] t (0,0))) : w1.heap[g]? = some (.cells #[v] t (0,0)):=hw ▸ put_lit g [v] [] [o] [] w rfl h
theorem al5B {w w1 : World} {o0 o1 o2 o3 o4 : Obj} (h : ((((w.alloc o0).alloc o1).alloc o2).alloc o3).alloc o4 = w1) : Below w.heap.size w w1:=h ▸ (((((Below.refl _ w).alloc (Nat.le_refl _) o0).alloc (by simp;try omega) o1).alloc (by simp;try omega) o2).alloc (by simp;try omega) o3).alloc (by simp;try omega) o4
theorem al6_0 {w w1 : World} {o0 o1 o2 o3 o4 o5 : Obj} (h : (((((w.alloc o0).alloc o1).alloc o2).alloc o3).alloc o4).alloc o5 = w1) : w1.heap[w.heap.size]? = some o0:=by subst h;exact blk_alloc (blk_alloc (blk_alloc (blk_alloc (blk_alloc (blk_new w o0) o1) o2) o3) o4) o5
theorem al6_1 {w w1 : World} {o0 o1 o2 o3 o4 o5 : Obj} (h : (((((w.alloc o0).alloc o1).alloc o2).alloc o3).alloc o4).alloc o5 = w1) : w1.heap[w.heap.size + 1]? = some o1:=by subst h;simpa using blk_alloc (blk_alloc (blk_alloc (blk_alloc (blk_new (w.alloc o0) o1) o2) o3) o4) o5
theorem al6_2 {w w1 : World} {o0 o1 o2 o3 o4 o5 : Obj} (h : (((((w.alloc o0).alloc o1).alloc o2).alloc o3).alloc o4).alloc o5 = w1) : w1.heap[w.heap.size + 1 + 1]? = some o2:=by subst h;simpa using blk_alloc (blk_alloc (blk_alloc (blk_new ((w.alloc o0).alloc o1) o2) o3) o4) o5
theorem al6_3 {w w1 : World} {o0 o1 o2 o3 o4 o5 : Obj} (h : (((((w.alloc o0).alloc o1).alloc o2).alloc o3).alloc o4).alloc o5 = w1) : w1.heap[w.heap.size + 1 + 1 + 1]? = some o3:=by subst h;simpa using blk_alloc (blk_alloc (blk_new (((w.alloc o0).alloc o1).alloc o2) o3) o4) o5
theorem al6_4 {w w1 : World} {o0 o1 o2 o3 o4 o5 : Obj} (h : (((((w.alloc o0).alloc o1).alloc o2).alloc o3).alloc o4).alloc o5 = w1) : w1.heap[w.heap.size + 1 + 1 + 1 + 1]? = some o4:=by subst h;simpa using blk_alloc (blk_new ((((w.alloc o0).alloc o1).alloc o2).alloc o3) o4) o5
theorem al6_5 {w w1 : World} {o0 o1 o2 o3 o4 o5 : Obj} (h : (((((w.alloc o0).alloc o1).alloc o2).alloc o3).alloc o4).alloc o5 = w1) : w1.heap[w.heap.size + 1 + 1 + 1 + 1 + 1]? = some o5:=by subst h;simpa using blk_new (((((w.alloc o0).alloc o1).alloc o2).alloc o3).alloc o4) o5
theorem al6B {w w1 : World} {o0 o1 o2 o3 o4 o5 : Obj} (h : (((((w.alloc o0).alloc o1).alloc o2).alloc o3).alloc o4).alloc o5 = w1) : Below w.heap.size w w1:=h ▸ ((((((Below.refl _ w).alloc (Nat.le_refl _) o0).alloc (by simp;try omega) o1).alloc (by simp;try omega) o2).alloc (by simp;try omega) o3).alloc (by simp;try omega) o4).alloc (by simp;try omega) o5
theorem R_puts {α : Type} {d : Kd α} {e base : Nat} {ok : Nat → Prop} {v : Value} {xs : List α} {g : Nat} (hok : ∀ k,ok k → k ≠ g) : ∀ (l : List Value) (lo : Nat) {w w1 : World},d.R e w base ok v xs → w1 = put_ w g lo l → d.R e w1 base ok v xs
 | [],lo,w,w1,h,hw=>by subst hw;exact h
 | u :: l,lo,w,w1,h,hw=>R_puts hok l (lo + 1) (Kd.R_far h (p:=⟨g,lo,none⟩) hok u) hw
end Go.Proofs.YtiminjibcafkaaaGreatDoor.X
end
section
/- tidingsref05.Same and tidingsref04.Same of two that are alike. -/
namespace Go.Proofs.YtiminjibcafkaaaGreatDoor.X
open Go.RowKit Go.Proofs.YtiminjibcafkaaaGreatDoorW.PrintWords Go.Proofs.YtiminjibcafkaaaGreatDoorW.PrintLast Go.Proofs.YtiminjibcafkaaaGreatDoorW.PrintMore
set_option linter.unusedVariables false
set_option linter.unusedSimpArgs false
set_option maxRecDepth 100000 in
set_option maxHeartbeats 8000000 in
theorem same5_walk (k : Nat) (a0 a1 a2 a3 : Int) (l4 : List S67) (l5 : List S62) (a6 : Bool) (a7 a8 a9 a10 : Int) (l11 : List S67) (a12 : Int) (A4 A5 A11 B4 B5 B11 : Option Addr) (c4 c5 c11 d4 d5 d11 : Nat) (w : World) (r4 : Kd.C k67 w A4 l4.length l4) (i4 : l4.length ≤ c4) (r5 : Kd.C k62 w A5 l5.length l5) (i5 : l5.length ≤ c5) (r11 : Kd.C k67 w A11 l11.length l11) (i11 : l11.length ≤ c11) (s4 : Kd.C k67 w B4 l4.length l4) (j4 : l4.length ≤ d4) (s5 : Kd.C k62 w B5 l5.length l5) (j5 : l5.length ≤ d5) (s11 : Kd.C k67 w B11 l11.length l11) (j11 : l11.length ≤ d11) (h4 : tidingsref01_Same.f k l4 l4 = some true) (h5 : tidingsref02_Same.f k l5 l5 = some true) (h11 : tidingsref01_Same.f k l11 l11 = some true) : Calls Tryz.prog 12 #[.agg #[.int .u8 a0,.int .u8 a1,.int .u32 a2,.int .u32 a3,.slice A4 l4.length c4,.slice A5 l5.length c5,.bool a6,.int .u32 a7,.int .u8 a8,.int .u8 a9,.int .u32 a10,.slice A11 l11.length c11,.int .u32 a12],.agg #[.int .u8 a0,.int .u8 a1,.int .u32 a2,.int .u32 a3,.slice B4 l4.length d4,.slice B5 l5.length d5,.bool a6,.int .u32 a7,.int .u8 a8,.int .u8 a9,.int .u32 a10,.slice B11 l11.length d11,.int .u32 a12]] w fun e w'=>e = .returned (.bool true) ∧ Below w.heap.size w w':=by
 have huR:=Tryz.underlying28
 have huS:=Tryz.underlying26
 have R4':=Aside0.mk r4
 have I4':=Aside0.mk i4
 have R5':=Aside0.mk r5
 have I5':=Aside0.mk i5
 have R11':=Aside0.mk r11
 have I11':=Aside0.mk i11
 have S4':=Aside0.mk s4
 have J4':=Aside0.mk j4
 have S5':=Aside0.mk s5
 have J5':=Aside0.mk j5
 have S11':=Aside0.mk s11
 have J11':=Aside0.mk j11
 have H4':=Aside0.mk h4
 have H5':=Aside0.mk h5
 have H11':=Aside0.mk h11
 clear r4 i4 r5 i5 r11 i11 s4 j4 s5 j5 s11 j11 h4 h5 h11
 go_enter Tryz.func12,Tryz.ntmps12
 go_wp2_with fail
 generalize hW : World.alloc (World.alloc (World.alloc (World.alloc w _) _) _) _ = w0
 have Ba0:=Aside0.mk (al4_0 hW)
 have Bb0:=Aside0.mk (al4_1 hW)
 have Bs0:=Aside0.mk (al4_2 hW)
 have Bu0:=Aside0.mk (al4_3 hW)
 have HB0:=Aside0.mk (al4B hW)
 clear hW
 have GG:=Aside0.mk (show w.heap.size + 4 ≤ w0.heap.size by have:=blk_lt Bu0.out;omega)
 have HG0:=Aside0.mk (Nat.le_refl w0.heap.size)
 refine (tidingsref01_Same.calls k _ _ l11 _ _ l11 true _ (Kd.C_below R11'.out HB0.out) I11'.out (Kd.C_below S11'.out HB0.out) J11'.out H11'.out).mono ?_
 rintro ev w1 ⟨rfl,hx0⟩
 have hx:=hx0.below
 clear hx0
 have Ba1:=Aside0.mk (blk_below Ba0.out hx)
 have Bb1:=Aside0.mk (blk_below Bb0.out hx)
 have Bs1:=Aside0.mk (blk_below Bs0.out hx)
 have Bu1:=Aside0.mk (blk_below Bu0.out hx)
 have HB1:=Aside0.mk (below_step HB0.out hx)
 have HG1:=Aside0.mk (Nat.le_trans HG0.out hx.size)
 clear hx HB0 HG0 Ba0 Bb0 Bs0 Bu0
 obtain ⟨a_0,a_1,a_2,a_3,a_4,a_5,a_6,a_7,a_8,a_9,a_10,a_11,a_12⟩:=cells13 Ba1.out
 obtain ⟨b_0,b_1,b_2,b_3,b_4,b_5,b_6,b_7,b_8,b_9,b_10,b_11,b_12⟩:=cells13 Bb1.out
 go_wp2_with fail
 refine (tidingsref01_Same.calls k _ _ l4 _ _ l4 true _ (Kd.C_below R4'.out HB1.out) I4'.out (Kd.C_below S4'.out HB1.out) J4'.out H4'.out).mono ?_
 rintro ev w2 ⟨rfl,hx0⟩
 have hx:=hx0.below
 clear hx0
 have Ba2:=Aside0.mk (blk_below Ba1.out hx)
 have Bb2:=Aside0.mk (blk_below Bb1.out hx)
 have Bs2:=Aside0.mk (blk_below Bs1.out hx)
 have Bu2:=Aside0.mk (blk_below Bu1.out hx)
 have HB2:=Aside0.mk (below_step HB1.out hx)
 have HG2:=Aside0.mk (Nat.le_trans HG1.out hx.size)
 clear a_0 a_1 a_2 a_3 a_4 a_5 a_6 a_7 a_8 a_9 a_10 a_11 a_12 b_0 b_1 b_2 b_3 b_4 b_5 b_6 b_7 b_8 b_9 b_10 b_11 b_12
 clear hx HB1 HG1 Ba1 Bb1 Bs1 Bu1
 obtain ⟨a_0,a_1,a_2,a_3,a_4,a_5,a_6,a_7,a_8,a_9,a_10,a_11,a_12⟩:=cells13 Ba2.out
 obtain ⟨b_0,b_1,b_2,b_3,b_4,b_5,b_6,b_7,b_8,b_9,b_10,b_11,b_12⟩:=cells13 Bb2.out
 go_wp2_with fail
 refine (tidingsref02_Same.calls k _ _ l5 _ _ l5 true _ (Kd.C_below R5'.out HB2.out) I5'.out (Kd.C_below S5'.out HB2.out) J5'.out H5'.out).mono ?_
 rintro ev w3 ⟨rfl,hx0⟩
 have hx:=hx0.below
 clear hx0
 have Ba3:=Aside0.mk (blk_below Ba2.out hx)
 have Bb3:=Aside0.mk (blk_below Bb2.out hx)
 have Bs3:=Aside0.mk (blk_below Bs2.out hx)
 have Bu3:=Aside0.mk (blk_below Bu2.out hx)
 have HB3:=Aside0.mk (below_step HB2.out hx)
 have HG3:=Aside0.mk (Nat.le_trans HG2.out hx.size)
 clear a_0 a_1 a_2 a_3 a_4 a_5 a_6 a_7 a_8 a_9 a_10 a_11 a_12 b_0 b_1 b_2 b_3 b_4 b_5 b_6 b_7 b_8 b_9 b_10 b_11 b_12
 clear hx HB2 HG2 Ba2 Bb2 Bs2 Bu2
 go_wp2_with fail
 go_ret
 exact ⟨rfl,HB3.out⟩
set_option maxRecDepth 100000 in
set_option maxHeartbeats 8000000 in
theorem same4_walk (k : Nat) (a0 a1 a2 a3 a4 a5 : Int) (l6 : List S67) (a7 : Int) (l8 : List S62) (a9 : Int) (a10 : Bool) (l11 : List S67) (A6 A8 A11 B6 B8 B11 : Option Addr) (c6 c8 c11 d6 d8 d11 : Nat) (w : World) (r6 : Kd.C k67 w A6 l6.length l6) (i6 : l6.length ≤ c6) (r8 : Kd.C k62 w A8 l8.length l8) (i8 : l8.length ≤ c8) (r11 : Kd.C k67 w A11 l11.length l11) (i11 : l11.length ≤ c11) (s6 : Kd.C k67 w B6 l6.length l6) (j6 : l6.length ≤ d6) (s8 : Kd.C k62 w B8 l8.length l8) (j8 : l8.length ≤ d8) (s11 : Kd.C k67 w B11 l11.length l11) (j11 : l11.length ≤ d11) (h6 : tidingsref01_Same.f k l6 l6 = some true) (h8 : tidingsref02_Same.f k l8 l8 = some true) (h11 : tidingsref01_Same.f k l11 l11 = some true) : Calls Tryz.prog 13 #[.agg #[.int .i64 a0,.int .u8 a1,.int .u8 a2,.int .u32 a3,.int .u8 a4,.int .u8 a5,.slice A6 l6.length c6,.int .u32 a7,.slice A8 l8.length c8,.int .u8 a9,.bool a10,.slice A11 l11.length c11],.agg #[.int .i64 a0,.int .u8 a1,.int .u8 a2,.int .u32 a3,.int .u8 a4,.int .u8 a5,.slice B6 l6.length d6,.int .u32 a7,.slice B8 l8.length d8,.int .u8 a9,.bool a10,.slice B11 l11.length d11]] w fun e w'=>e = .returned (.bool true) ∧ Below w.heap.size w w':=by
 have huN:=Tryz.underlying30
 have R6':=Aside0.mk r6
 have I6':=Aside0.mk i6
 have R8':=Aside0.mk r8
 have I8':=Aside0.mk i8
 have R11':=Aside0.mk r11
 have I11':=Aside0.mk i11
 have S6':=Aside0.mk s6
 have J6':=Aside0.mk j6
 have S8':=Aside0.mk s8
 have J8':=Aside0.mk j8
 have S11':=Aside0.mk s11
 have J11':=Aside0.mk j11
 have H6':=Aside0.mk h6
 have H8':=Aside0.mk h8
 have H11':=Aside0.mk h11
 clear r6 i6 r8 i8 r11 i11 s6 j6 s8 j8 s11 j11 h6 h8 h11
 go_enter Tryz.func13,Tryz.ntmps13
 go_wp2_with fail
 generalize hW : World.alloc (World.alloc w _) _ = w0
 have Ba0:=Aside0.mk (al2_0 hW)
 have Bb0:=Aside0.mk (al2_1 hW)
 have HB0:=Aside0.mk (al2B hW)
 clear hW
 have GG:=Aside0.mk (show w.heap.size + 2 ≤ w0.heap.size by have:=blk_lt Bb0.out;omega)
 have HG0:=Aside0.mk (Nat.le_refl w0.heap.size)
 refine (tidingsref01_Same.calls k _ _ l6 _ _ l6 true _ (Kd.C_below R6'.out HB0.out) I6'.out (Kd.C_below S6'.out HB0.out) J6'.out H6'.out).mono ?_
 rintro ev w1 ⟨rfl,hx0⟩
 have hx:=hx0.below
 clear hx0
 have Ba1:=Aside0.mk (blk_below Ba0.out hx)
 have Bb1:=Aside0.mk (blk_below Bb0.out hx)
 have HB1:=Aside0.mk (below_step HB0.out hx)
 have HG1:=Aside0.mk (Nat.le_trans HG0.out hx.size)
 clear hx HB0 HG0 Ba0 Bb0
 obtain ⟨a_0,a_1,a_2,a_3,a_4,a_5,a_6,a_7,a_8,a_9,a_10,a_11⟩:=cells12 Ba1.out
 obtain ⟨b_0,b_1,b_2,b_3,b_4,b_5,b_6,b_7,b_8,b_9,b_10,b_11⟩:=cells12 Bb1.out
 go_wp2_with fail
 refine (tidingsref02_Same.calls k _ _ l8 _ _ l8 true _ (Kd.C_below R8'.out HB1.out) I8'.out (Kd.C_below S8'.out HB1.out) J8'.out H8'.out).mono ?_
 rintro ev w2 ⟨rfl,hx0⟩
 have hx:=hx0.below
 clear hx0
 have Ba2:=Aside0.mk (blk_below Ba1.out hx)
 have Bb2:=Aside0.mk (blk_below Bb1.out hx)
 have HB2:=Aside0.mk (below_step HB1.out hx)
 have HG2:=Aside0.mk (Nat.le_trans HG1.out hx.size)
 clear a_0 a_1 a_2 a_3 a_4 a_5 a_6 a_7 a_8 a_9 a_10 a_11 b_0 b_1 b_2 b_3 b_4 b_5 b_6 b_7 b_8 b_9 b_10 b_11
 clear hx HB1 HG1 Ba1 Bb1
 obtain ⟨a_0,a_1,a_2,a_3,a_4,a_5,a_6,a_7,a_8,a_9,a_10,a_11⟩:=cells12 Ba2.out
 obtain ⟨b_0,b_1,b_2,b_3,b_4,b_5,b_6,b_7,b_8,b_9,b_10,b_11⟩:=cells12 Bb2.out
 go_wp2_with fail
 refine (tidingsref01_Same.calls k _ _ l11 _ _ l11 true _ (Kd.C_below R11'.out HB2.out) I11'.out (Kd.C_below S11'.out HB2.out) J11'.out H11'.out).mono ?_
 rintro ev w3 ⟨rfl,hx0⟩
 have hx:=hx0.below
 clear hx0
 have Ba3:=Aside0.mk (blk_below Ba2.out hx)
 have Bb3:=Aside0.mk (blk_below Bb2.out hx)
 have HB3:=Aside0.mk (below_step HB2.out hx)
 have HG3:=Aside0.mk (Nat.le_trans HG2.out hx.size)
 clear a_0 a_1 a_2 a_3 a_4 a_5 a_6 a_7 a_8 a_9 a_10 a_11 b_0 b_1 b_2 b_3 b_4 b_5 b_6 b_7 b_8 b_9 b_10 b_11
 clear hx HB2 HG2 Ba2 Bb2
 go_wp2_with fail
 go_ret
 exact ⟨rfl,HB3.out⟩
end Go.Proofs.YtiminjibcafkaaaGreatDoor.X
end
