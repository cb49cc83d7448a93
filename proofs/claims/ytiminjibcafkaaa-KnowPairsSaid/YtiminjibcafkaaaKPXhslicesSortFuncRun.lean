-- MADE BY wip/prx.py (the kit's printer, with contracts proved by hand). Not trusted: Lean checks it.
import Derived.Test.YtiminjibcafkaaaKPX0
import Derived.Test.YtiminjibcafkaaaKPXhcommon
import Derived.Test.YtiminjibcafkaaaKPX4
import Derived.Test.YtiminjibcafkaaaKPXhslicesBinarySearchFuncEntryuint8
import Derived.Shelf.SlSortCmp.NoneTotal
import Derived.StillTailTactics
namespace Go.Proofs.Ytiminjibcafkaaa.X
open Go.RowKit Go.Proofs.YtiminjibcafkaaaW.PrintWords Go.Proofs.YtiminjibcafkaaaW.PrintLast Go.Proofs.YtiminjibcafkaaaW.PrintMore
attribute [local go_sem] max2_int min2_int max_two min_two max_three min_three max_four min_four   -- for this text's walks alone
set_option linter.unusedVariables false
set_option linter.unusedSimpArgs false
--EXT Derived.Shelf.SlSortCmp.NoneTotal Derived.StillTailTactics
/-! ### slices_SortFunc_Run: function 69, by hand -/
theorem compare8_still (a b : Int) (w : World) : Calls Try.prog 41 #[.int .u8 a, .int .u8 b] w fun e w' => e = .returned (.int .i64 (cmpI a b)) ∧ w' = w := by
  unfold cmpI
  by_cases h1 : a < b
  · go_enter Try.func41, Try.ntmps41
    go_wp2
    go_ret
    exact ⟨by simp [h1], rfl⟩
  · by_cases h2 : b < a
    · go_enter Try.func41, Try.ntmps41
      go_wp2
      go_ret
      exact ⟨by (have q1 : ¬ a < b := by omega); simp [q1, h2], rfl⟩
    · go_enter Try.func41, Try.ntmps41
      go_wp2
      go_ret
      exact ⟨by (have q1 : ¬ a < b := by omega); (have q2 : ¬ b < a := by omega); simp [q1, q2], rfl⟩
theorem compare32_still (a b : Int) (w : World) : Calls Try.prog 45 #[.int .u32 a, .int .u32 b] w fun e w' => e = .returned (.int .i64 (cmpI a b)) ∧ w' = w := by
  unfold cmpI
  by_cases h1 : a < b
  · go_enter Try.func45, Try.ntmps45
    go_wp2
    go_ret
    exact ⟨by simp [h1], rfl⟩
  · by_cases h2 : b < a
    · go_enter Try.func45, Try.ntmps45
      go_wp2
      go_ret
      exact ⟨by (have q1 : ¬ a < b := by omega); simp [q1, h2], rfl⟩
    · go_enter Try.func45, Try.ntmps45
      go_wp2
      go_ret
      exact ⟨by (have q1 : ¬ a < b := by omega); (have q2 : ¬ b < a := by omega); simp [q1, q2], rfl⟩
def orI (a b : Int) : Int := if a = 0 then b else a
theorem orI_is (a b : Int) : cmp_Or_int.f 3 [a, b] = some (orI a b) := by
  unfold cmp_Or_int.f orI
  by_cases ha : a = 0
  · by_cases hb : b = 0
    · subst ha; subst hb
      simp [cmp_Or_int.l0, rd, wrap64]
    · subst ha
      simp [cmp_Or_int.l0, rd, wrap64, hb]
  · simp [cmp_Or_int.l0, rd, ha]
def runCmp (x y : S78) : Int := orI (cmpI x.f0 y.f0) (cmpI x.f1 y.f1)
def encRun (x : S78) : List Value := [.int .u8 x.f0, .int .u32 x.f1, .int .u32 x.f2]
theorem C_two (W : World) (p q : Int) : Kd.C (Kd.int .i64) (W.alloc (.cells #[.int .i64 p, .int .i64 q] 3)) (some ⟨W.heap.size, 0, none⟩) 2 [p, q] := by
  refine ⟨rfl, by decide, fun _ => ⟨_, rfl, fun j x hj => ⟨[.int .i64 x], rfl, rfl, fun i u hu => ?_⟩⟩⟩
  match i, hu with
  | 0, hu =>
    obtain rfl := Option.some.inj hu
    match j, hj with
    | 0, hj => obtain rfl := Option.some.inj hj; exact blk_cell (blk_new W _) 0
    | 1, hj => obtain rfl := Option.some.inj hj; exact blk_cell (blk_new W _) 1
    | j + 2, hj => simp at hj
  | i + 1, hu => simp at hu
set_option maxRecDepth 100000 in
set_option maxHeartbeats 2000000 in
theorem know_merged_1.calls (x y : S78) (W : World) : Calls Try.prog 70 #[.agg #[.int .u8 x.f0, .int .u32 x.f1, .int .u32 x.f2], .agg #[.int .u8 y.f0, .int .u32 y.f1, .int .u32 y.f2]] W fun e w' => e = .returned (.int .i64 (runCmp x y)) ∧ ∃ q os', w' = Sort.grow (W.drewN q) os' := by
  have hu := Try.underlying78
  obtain ⟨a0, a1, a2⟩ := x
  obtain ⟨b0, b1, b2⟩ := y
  unfold runCmp
  dsimp only
  have c8 := fun w => compare8_still a0 b0 w
  have c32 := fun w => compare32_still a1 b1 w
  have hor := orI_is (cmpI a0 b0) (cmpI a1 b1)
  generalize cmpI a0 b0 = p at c8 hor ⊢
  generalize cmpI a1 b1 = q at c32 hor ⊢
  generalize orI p q = r at hor ⊢
  have HO := Aside0.mk hor
  clear hor
  go_enter Try.func70, Try.ntmps70
  go_wp2
  have k0 : ((W.alloc (.cells #[.int .u8 a0, .int .u32 a1, .int .u32 a2] 78)).alloc (.cells #[.int .u8 b0, .int .u32 b1, .int .u32 b2] 78)).cell? ⟨W.heap.size, 0, none⟩ = some (.int .u8 a0) := by simp
  have k1 : ((W.alloc (.cells #[.int .u8 a0, .int .u32 a1, .int .u32 a2] 78)).alloc (.cells #[.int .u8 b0, .int .u32 b1, .int .u32 b2] 78)).cell? ⟨W.heap.size, 1, none⟩ = some (.int .u32 a1) := by simp
  have k2 : ((W.alloc (.cells #[.int .u8 a0, .int .u32 a1, .int .u32 a2] 78)).alloc (.cells #[.int .u8 b0, .int .u32 b1, .int .u32 b2] 78)).cell? ⟨W.heap.size + 1, 0, none⟩ = some (.int .u8 b0) := by simp
  have k3 : ((W.alloc (.cells #[.int .u8 a0, .int .u32 a1, .int .u32 a2] 78)).alloc (.cells #[.int .u8 b0, .int .u32 b1, .int .u32 b2] 78)).cell? ⟨W.heap.size + 1, 1, none⟩ = some (.int .u32 b1) := by simp
  have kw : (W.alloc (.cells #[.int .u8 a0, .int .u32 a1, .int .u32 a2] 78)).alloc (.cells #[.int .u8 b0, .int .u32 b1, .int .u32 b2] 78) = Sort.grow W #[.cells #[.int .u8 a0, .int .u32 a1, .int .u32 a2] 78, .cells #[.int .u8 b0, .int .u32 b1, .int .u32 b2] 78] := by
    rw [Sort.alloc_eq_grow, Sort.alloc_eq_grow, Sort.grow_grow]; rfl
  generalize (W.alloc (.cells #[.int .u8 a0, .int .u32 a1, .int .u32 a2] 78)).alloc (.cells #[.int .u8 b0, .int .u32 b1, .int .u32 b2] 78) = W2 at k0 k1 k2 k3 kw ⊢
  refine wp_region_still_tail 10 (by kernel_rfl) (by kernel_rfl) ?_
  obtain ⟨W3, hW3⟩ : ∃ W3 : World, W3 = { W2 with drawn := W2.drawn + 1 } := ⟨_, rfl⟩
  rw [← hW3]
  replace k0 : W3.cell? ⟨W.heap.size, 0, none⟩ = some (.int .u8 a0) := by rw [hW3]; exact k0
  replace k1 : W3.cell? ⟨W.heap.size, 1, none⟩ = some (.int .u32 a1) := by rw [hW3]; exact k1
  replace k2 : W3.cell? ⟨W.heap.size + 1, 0, none⟩ = some (.int .u8 b0) := by rw [hW3]; exact k2
  replace k3 : W3.cell? ⟨W.heap.size + 1, 1, none⟩ = some (.int .u32 b1) := by rw [hW3]; exact k3
  have KW := Aside0.mk (show W3 = Sort.grow (W.drewN 1) #[.cells #[.int .u8 a0, .int .u32 a1, .int .u32 a2] 78, .cells #[.int .u8 b0, .int .u32 b1, .int .u32 b2] 78] by rw [hW3, kw]; rfl)
  clear hW3 kw
  simp only [List.take_succ_cons, List.take_zero, List.drop_succ_cons, List.drop_zero]
  repeat still_step
  still_call (c8 _)
  repeat still_step
  still_call (c32 _)
  repeat still_step
  refine wpStill_nil ?_
  go_wp2_with (go_at_call 44; (refine (cmp_Or_int.calls 3 (some ⟨W3.heap.size, 0, none⟩) 2 [p, q] r _ (C_two W3 p q) (Nat.le_refl 2) HO.out).mono ?_); rintro e w2 ⟨rfl, ⟨nd, rfl⟩⟩)
  go_ret
  refine ⟨rfl, 1 + nd, #[.cells #[.int .u8 a0, .int .u32 a1, .int .u32 a2] 78, .cells #[.int .u8 b0, .int .u32 b1, .int .u32 b2] 78, .cells #[.int .i64 p, .int .i64 q] 3], ?_⟩
  rw [KW.out, Sort.alloc_eq_grow, Sort.grow_grow]
  simp [Sort.grow, World.drewN, Nat.add_assoc]
  exact ⟨rfl, rfl, rfl⟩
theorem runCmp_lt (x y : S78) : ltOf runCmp x y = (decide (x.f0 < y.f0) || (decide (x.f0 = y.f0) && decide (x.f1 < y.f1))) := by
  unfold ltOf runCmp orI cmpI
  by_cases h1 : x.f0 < y.f0
  · simp [h1]
  · by_cases h2 : x.f0 > y.f0
    · have h3 : ¬ x.f0 = y.f0 := by omega
      simp [h1, h2, h3]
    · have h3 : x.f0 = y.f0 := by omega
      by_cases h4 : x.f1 < y.f1
      · simp [h3, h4]
      · by_cases h5 : x.f1 > y.f1 <;> simp [h3, h4, h5]
theorem runCmp_swo : Sort.SWO (ltOf runCmp) where
  irrefl x := by rw [runCmp_lt]; simp
  trans x y z h1 h2 := by rw [runCmp_lt] at *; simp at *; omega
  ntrans x y z h1 h2 := by rw [runCmp_lt] at *; simp at *; omega
def Try.sortRun_ren : Go.Shelf.Ren := ⟨fun | 6 => 69 | 15 => 79 | 14 => 78 | 28 => 91 | 29 => 92 | 20 => 83 | 21 => 84 | 22 => 85 | 23 => 86 | 24 => 87 | 25 => 88 | 26 => 89 | 27 => 90 | 46 => 93 | 47 => 94 | 48 => 95 | 49 => 96 | 50 => 97 | 57 => 98 | n => n, fun | 22 => 47 | 24 => 78 | 25 => 98 | 3 => 3 | 39 => 91 | 0 => 0 | 53 => 23 | 55 => 96 | 4 => 4 | 46 => 111 | 45 => 110 | 50 => 68 | 5 => 5 | 9 => 9 | 66 => 118 | 70 => 122 | 76 => 124 | 77 => 125 | n => n, fun | n => n⟩
theorem Try.sortRun : Go.Proofs.SlLaysF0.n6 Try.prog Try.sortRun_ren := {
  mixed := by kernel_rfl
  f6 := ⟨Try.f69.name, by decide, Try.func69.trans (congrArg some (by kernel_rfl))⟩
  f14 := ⟨Try.f78.name, by decide, Try.func78.trans (congrArg some (by kernel_rfl))⟩
  f15 := Try.func79.trans (congrArg some (by kernel_rfl))
  f20 := ⟨Try.f83.name, by decide, Try.func83.trans (congrArg some (by kernel_rfl))⟩
  f21 := ⟨Try.f84.name, by decide, Try.func84.trans (congrArg some (by kernel_rfl))⟩
  f22 := ⟨Try.f85.name, by decide, Try.func85.trans (congrArg some (by kernel_rfl))⟩
  f23 := ⟨Try.f86.name, by decide, Try.func86.trans (congrArg some (by kernel_rfl))⟩
  f24 := ⟨Try.f87.name, by decide, Try.func87.trans (congrArg some (by kernel_rfl))⟩
  f25 := ⟨Try.f88.name, by decide, Try.func88.trans (congrArg some (by kernel_rfl))⟩
  f26 := ⟨Try.f89.name, by decide, Try.func89.trans (congrArg some (by kernel_rfl))⟩
  f27 := ⟨Try.f90.name, by decide, Try.func90.trans (congrArg some (by kernel_rfl))⟩
  f28 := Try.func91.trans (congrArg some (by kernel_rfl))
  f29 := Try.func92.trans (congrArg some (by kernel_rfl))
  f46 := ⟨Try.f93.name, by decide, Try.func93.trans (congrArg some (by kernel_rfl))⟩
  f47 := Try.func94.trans (congrArg some (by kernel_rfl))
  f48 := Try.func95.trans (congrArg some (by kernel_rfl))
  f49 := ⟨Try.f96.name, by decide, Try.func96.trans (congrArg some (by kernel_rfl))⟩
  f50 := ⟨Try.f97.name, by decide, Try.func97.trans (congrArg some (by kernel_rfl))⟩
  f57 := ⟨Try.f98.name, by decide, Try.func98.trans (congrArg some (by kernel_rfl))⟩
  t0 := Try.underlying0
  a0 := Try.isAgg0
  z0 := Try.sizeOf0
  v0 := Try.zeroValue0
  t3 := Try.underlying3
  a3 := Try.isAgg3
  z3 := Try.sizeOf3
  v3 := Try.zeroValue3
  t4 := Try.underlying4
  a4 := Try.isAgg4
  z4 := Try.sizeOf4
  v4 := Try.zeroValue4
  t5 := Try.underlying5
  a5 := Try.isAgg5
  z5 := Try.sizeOf5
  v5 := Try.zeroValue5
  t9 := Try.underlying9
  a9 := Try.isAgg9
  z9 := Try.sizeOf9
  v9 := Try.zeroValue9
  t22 := Try.underlying47
  a22 := Try.isAgg47
  z22 := Try.sizeOf47
  v22 := Try.zeroValue47
  t25 := Try.underlying98
  a25 := Try.isAgg98
  z25 := Try.sizeOf98
  v25 := Try.zeroValue98
  t39 := Try.underlying91
  a39 := Try.isAgg91
  z39 := Try.sizeOf91
  v39 := Try.zeroValue91
  t45 := Try.underlying110
  a45 := Try.isAgg110
  z45 := Try.sizeOf110
  v45 := Try.zeroValue110
  t46 := Try.underlying111
  a46 := Try.isAgg111
  z46 := Try.sizeOf111
  v46 := Try.zeroValue111
  t50 := Try.underlying68
  a50 := Try.isAgg68
  z50 := Try.sizeOf68
  v50 := Try.zeroValue68
  t53 := Try.underlying23
  a53 := Try.isAgg23
  z53 := Try.sizeOf23
  v53 := Try.zeroValue23
  t55 := Try.underlying96
  a55 := Try.isAgg96
  z55 := Try.sizeOf96
  v55 := Try.zeroValue96
  t66 := Try.underlying118
  a66 := Try.isAgg118
  z66 := Try.sizeOf118
  v66 := Try.zeroValue118
  t70 := Try.underlying122
  a70 := Try.isAgg122
  z70 := Try.sizeOf122
  v70 := Try.zeroValue122
  t76 := Try.underlying124
  a76 := Try.isAgg124
  z76 := Try.sizeOf124
  v76 := Try.zeroValue124
  t77 := Try.underlying125
  a77 := Try.isAgg125
  z77 := Try.sizeOf125
  v77 := Try.zeroValue125 }
instance : Inhabited S78 := ⟨z78⟩
/-- slices.SortFunc by Rep, then by From: to the element, as Go's own text goes. -/
def slices_SortFunc_Run.f (l0 : List (S78)) : Option (List (S78)) := if l0.length < 11728124029610 then some (Sort.pdq (ltOf runCmp) l0.toArray 0 l0.toArray.size (Lib.bitLen l0.toArray.size) true true).toList else none
theorem encRun_M {w : World} {base : Nat} {ok : Nat → Prop} (p : S78) (c : List Value) (h : k78.M w base ok p c) : c = encRun p := k78_openM h
theorem flat_Run (d : Array S78) (t : Nat) (h : t < d.size * 3) : some ((Sort.flatK encRun 3 d)[t]!) = (encRun (d.toList.getD (t / 3) z78))[t % 3]? := by
  have hd : t / 3 < d.size := by omega
  have e : d.toList.getD (t / 3) z78 = d[t / 3] := by rw [List.getD_eq_getElem?_getD, List.getElem?_eq_getElem (by simpa using hd)]; simp
  have h3 : t % 3 < (encRun d[t / 3]).length := by simp [encRun]; omega
  rw [e, Sort.get_flatK encRun 3 d t h, getElem!_pos d (t / 3) hd, getElem!_pos _ (t % 3) h3, List.getElem?_eq_getElem h3]
theorem size_flat_Run (d : Array S78) : (Sort.flatK encRun 3 d).size = d.size * 3 := by simp [Sort.flatK]
set_option maxHeartbeats 8000000 in
set_option maxRecDepth 100000 in
theorem slices_SortFunc_Run.calls (P0_ : Nat → Prop) (u9000_ : Value) (l0 : List (S78)) (r : List (S78)) (w0 w : World) (hB : Below w0.heap.size w0 w) (ho0 : Kd.R k78 78 w w0.heap.size P0_ u9000_ l0) (h : slices_SortFunc_Run.f l0 = some r) :
    Calls Try.prog 69 #[u9000_, .func (.func 70) #[] #[]] w fun e w' => e = .returned (.tuple #[]) ∧ Kd.R k78 78 w' w0.heap.size (fun k_ => (P0_ k_ ∨ w.heap.size ≤ k_)) u9000_ r ∧ Below w0.heap.size w0 w' ∧ Kept w w' (fun k_ => P0_ k_) := by
  have eg : ∀ args w, (callFunc 70 args).run Try.prog w = .ok (.enter 70 args) w := enters_of Try.func70 (by kernel_rfl) rfl
  unfold slices_SortFunc_Run.f at h
  by_cases hsz : l0.length < 11728124029610
  case neg => rw [if_neg hsz] at h; cases h
  rw [if_pos hsz] at h
  have hr := Option.some.inj h
  clear h
  obtain ⟨hP, inner, hown, hreps⟩ := ho0
  replace hreps : Reps _ 3 l0 inner := hreps
  rcases hown.2 with ⟨rfl, hn⟩ | ⟨g, cap, cur, rfl, hbase, hheap, hncap, hcapm, hcur, htake⟩
  · have hl : l0 = [] := List.eq_nil_of_length_eq_zero hn
    subst hl
    have hps := Sort.pdq_sorts (ltOf runCmp) runCmp_swo #[] 0 0 (Lib.bitLen 0) true true (Nat.zero_le _) (Nat.le_refl _) (Or.inl rfl)
    have hr0 : r = [] := by
      rw [← hr]
      exact List.eq_nil_of_length_eq_zero (by have := hps.1.1; simpa using this)
    subst hr0
    have hcon := AnyF.slices_SortFunc_none Try.sortRun none 0 (.func (.func 70) #[] #[]) w
    change Calls Try.prog 69 _ _ _ at hcon
    refine hcon.mono ?_
    rintro e w' ⟨rfl, rfl⟩
    exact ⟨rfl, Kd.R_nil _ _ _ _ _, hB, Kept.refl _ _⟩
  · replace hcur : cur.size = cap * 3 := hcur
    replace htake : cur.toList.take (l0.length * 3) = inner := htake
    have hps := Sort.pdq_sorts (ltOf runCmp) runCmp_swo l0.toArray 0 l0.toArray.size (Lib.bitLen l0.toArray.size) true true (Nat.zero_le _) (Nat.le_refl _) (Or.inl rfl)
    have hblk : g < w.heap.size := blk_lt hheap
    have hcells : ∀ t, t < l0.length * 3 → cur[t]? = (encRun (l0.getD (t / 3) z78))[t % 3]? := by
      intro t ht
      rw [← reps_get hreps encRun encRun_M (by decide) z78 t ht, ← htake, List.getElem?_take, if_pos ht, Array.getElem?_toList]
    have hH : Sort.HoldsK encRun 3 w g 0 l0.toArray := by
      intro t ht
      rw [size_flat_Run] at ht
      refine ⟨?_, blk_frozen hheap _⟩
      rw [Nat.zero_add, blk_cell hheap, hcells t (by simpa using ht)]
      exact (flat_Run l0.toArray t ht).symm
    have hcon := AnyQ.slices_SortFunc_eq Try.sortRun 3 Try.isAgg78 Try.sizeOf78 encRun (fun _ => rfl) (fun x v hv => by simp only [encRun, List.mem_cons, List.not_mem_nil, or_false] at hv; rcases hv with rfl | rfl | rfl <;> rfl) runCmp runCmp_swo 70 #[] g 0 cap l0.toArray w eg
      (fun _ _ _ _ x y => know_merged_1.calls x y _) hH hblk (by simp; omega)
    change Calls Try.prog 69 _ _ _ at hcon
    refine hcon.mono ?_
    rintro e w' ⟨rfl, n, os, rfl⟩
    generalize hd : Sort.pdq (ltOf runCmp) l0.toArray 0 l0.toArray.size (Lib.bitLen l0.toArray.size) true true = d' at hr hps ⊢
    have hsize : d'.size = l0.length := by have := hps.1.1; simpa using this
    subst hr
    have hh : ∀ k, k < w.heap.size → (sortWorldK encRun 3 w g 0 n d' os).heap[k]? = if k = g then some (.cells (Sort.putCells id 0 (Sort.flatK encRun 3 d') cur) 78 (0, 0)) else w.heap[k]? := by
      intro k hk
      show ((w.heap.modify g (Sort.onCells (Sort.putCells id 0 (Sort.flatK encRun 3 d')))) ++ os)[k]? = _
      rw [Array.getElem?_append_left (by simpa using hk), Array.getElem?_modify]
      by_cases hkg : g = k
      · subst hkg; rw [if_pos rfl, if_pos rfl, hheap]; rfl
      · rw [if_neg hkg, if_neg (Ne.symm hkg)]
    have hsw : w.heap.size ≤ (sortWorldK encRun 3 w g 0 n d' os).heap.size := by
      show _ ≤ ((w.heap.modify g (Sort.onCells (Sort.putCells id 0 (Sort.flatK encRun 3 d')))) ++ os).size
      simp
    refine ⟨rfl, ⟨fun k hk => .inl (hP k hk), (Sort.flatK encRun 3 d').toList, ⟨?_, .inr ⟨g, cap, Sort.putCells id 0 (Sort.flatK encRun 3 d') cur, by simp [hsize], hbase, by rw [hh g hblk, if_pos rfl], by simp [hsize]; exact hncap, hcapm, by simp only [Sort.putCells, Array.size_mapIdx, hcur]; rfl, ?_⟩⟩, ?_⟩, ?_, ?_⟩
    · show (Sort.flatK encRun 3 d').toList.length = d'.toList.length * 3
      rw [Array.length_toList, size_flat_Run, Array.length_toList]
    · show List.take (d'.toList.length * 3) _ = _
      apply List.ext_getElem?
      intro j
      rw [List.getElem?_take]
      by_cases hj : j < d'.toList.length * 3
      · have hj2 : j < cur.size := by rw [hcur]; simp [hsize] at hj; omega
        have hj3 : j < (Sort.flatK encRun 3 d').size := by rw [size_flat_Run]; simpa using hj
        rw [if_pos hj]
        have hj4 : j < d'.size * 3 := by simpa using hj
        rw [Array.getElem?_toList, Array.getElem?_toList, Array.getElem?_eq_getElem hj3, ← getElem!_pos _ j hj3]
        simp [Sort.putCells, hj2, hj4, size_flat_Run]
      · rw [if_neg hj, List.getElem?_eq_none]
        rw [Array.length_toList, size_flat_Run]; simpa using hj
    · show Reps _ 3 _ _
      refine reps_mk encRun (fun _ => rfl) (fun p => k78_mkM _ _ _ p) (by decide) z78 ?_ ?_
      · rw [Array.length_toList, size_flat_Run, Array.length_toList]
      · intro j hj
        have hj3 : j < (Sort.flatK encRun 3 d').size := by rw [size_flat_Run]; simpa using hj
        rw [← flat_Run d' j (by simpa using hj), Array.getElem?_toList, Array.getElem?_eq_getElem hj3, getElem!_pos _ j hj3]
    · refine hB.trans ⟨rfl, rfl, rfl, hsw, fun k hk => ?_⟩
      rw [hh k (Nat.lt_of_lt_of_le hk hB.size), if_neg (by omega)]
    · refine ⟨hsw, fun k hk hn => ?_⟩
      rw [hh k hk, if_neg]
      rintro rfl
      exact hn (hP _ rfl)
end Go.Proofs.Ytiminjibcafkaaa.X
