-- MADE BY wip/prx.py (the kit's printer, with contracts proved by hand). Not trusted: Lean checks it.
import Derived.Test.YtiminjibcafkaaaDoorKUJ7
import Derived.Test.YtiminjibcafkaaaDoorKUXhcommon
import Derived.Test.YtiminjibcafkaaaDoorKUJ12
import Derived.Shelf.SlSortCmp.NoneTotal
import Derived.StillTailTactics
namespace Go.Proofs.YtiminjibcafkaaaDoor.X
open Go.RowKit Go.Proofs.YtiminjibcafkaaaDoorW.PrintWords Go.Proofs.YtiminjibcafkaaaDoorW.PrintLast Go.Proofs.YtiminjibcafkaaaDoorW.PrintMore
attribute [local go_sem] max2_int min2_int max_two min_two max_three min_three max_four min_four   -- for this text's walks alone
set_option linter.unusedVariables false
set_option linter.unusedSimpArgs false
--EXT Derived.Shelf.SlSortCmp.NoneTotal Derived.StillTailTactics
/-! ### slices_SortFunc_Run: function 57, by hand -/
theorem compare8_still (a b : Int) (w : World) : Calls Tryd.prog 32 #[.int .u8 a, .int .u8 b] w fun e w' => e = .returned (.int .i64 (cmpI a b)) ∧ w' = w := by
  unfold cmpI
  by_cases h1 : a < b
  · go_enter Tryd.func32, Tryd.ntmps32
    go_wp2
    go_ret
    exact ⟨by simp [h1], rfl⟩
  · by_cases h2 : b < a
    · go_enter Tryd.func32, Tryd.ntmps32
      go_wp2
      go_ret
      exact ⟨by (have q1 : ¬ a < b := by omega); simp [q1, h2], rfl⟩
    · go_enter Tryd.func32, Tryd.ntmps32
      go_wp2
      go_ret
      exact ⟨by (have q1 : ¬ a < b := by omega); (have q2 : ¬ b < a := by omega); simp [q1, q2], rfl⟩
theorem compare32_still (a b : Int) (w : World) : Calls Tryd.prog 52 #[.int .u32 a, .int .u32 b] w fun e w' => e = .returned (.int .i64 (cmpI a b)) ∧ w' = w := by
  unfold cmpI
  by_cases h1 : a < b
  · go_enter Tryd.func52, Tryd.ntmps52
    go_wp2
    go_ret
    exact ⟨by simp [h1], rfl⟩
  · by_cases h2 : b < a
    · go_enter Tryd.func52, Tryd.ntmps52
      go_wp2
      go_ret
      exact ⟨by (have q1 : ¬ a < b := by omega); simp [q1, h2], rfl⟩
    · go_enter Tryd.func52, Tryd.ntmps52
      go_wp2
      go_ret
      exact ⟨by (have q1 : ¬ a < b := by omega); (have q2 : ¬ b < a := by omega); simp [q1, q2], rfl⟩
def orI (a b : Int) : Int := if a = 0 then b else a
theorem orI_is (a b : Int) : cmp_Or_int.f 3 [a, b] = some (orI a b) := by
  unfold cmp_Or_int.f orI
  by_cases ha : a = 0
  · by_cases hb : b = 0
    · subst ha; subst hb
      simp [cmp_Or_int.l0, rd, wrap64]
    · subst ha
      simp [cmp_Or_int.l0, rd, wrap64, hb]
  · simp [cmp_Or_int.l0, rd, ha]
def runCmp (x y : S65) : Int := orI (cmpI x.f0 y.f0) (cmpI x.f1 y.f1)
def encRun (x : S65) : List Value := [.int .u8 x.f0, .int .u32 x.f1, .int .u32 x.f2]
theorem C_two (W : World) (p q : Int) : Kd.C (Kd.int .i64) (W.alloc (.cells #[.int .i64 p, .int .i64 q] 3)) (some ⟨W.heap.size, 0, none⟩) 2 [p, q] := by
  refine ⟨rfl, by decide, fun _ => ⟨_, rfl, fun j x hj => ⟨[.int .i64 x], rfl, rfl, fun i u hu => ?_⟩⟩⟩
  match i, hu with
  | 0, hu =>
    obtain rfl := Option.some.inj hu
    match j, hj with
    | 0, hj => obtain rfl := Option.some.inj hj; exact blk_cell (blk_new W _) 0
    | 1, hj => obtain rfl := Option.some.inj hj; exact blk_cell (blk_new W _) 1
    | j + 2, hj => simp at hj
  | i + 1, hu => simp at hu
set_option maxRecDepth 100000 in
set_option maxHeartbeats 2000000 in
theorem know_merged_1.calls (x y : S65) (W : World) : Calls Tryd.prog 58 #[.agg #[.int .u8 x.f0, .int .u32 x.f1, .int .u32 x.f2], .agg #[.int .u8 y.f0, .int .u32 y.f1, .int .u32 y.f2]] W fun e w' => e = .returned (.int .i64 (runCmp x y)) ∧ ∃ q os', w' = Sort.grow (W.drewN q) os' := by
  have hu := Tryd.underlying65
  obtain ⟨a0, a1, a2⟩ := x
  obtain ⟨b0, b1, b2⟩ := y
  unfold runCmp
  dsimp only
  have c8 := fun w => compare8_still a0 b0 w
  have c32 := fun w => compare32_still a1 b1 w
  have hor := orI_is (cmpI a0 b0) (cmpI a1 b1)
  generalize cmpI a0 b0 = p at c8 hor ⊢
  generalize cmpI a1 b1 = q at c32 hor ⊢
  generalize orI p q = r at hor ⊢
  have HO := Aside0.mk hor
  clear hor
  go_enter Tryd.func58, Tryd.ntmps58
  go_wp2
  have k0 : ((W.alloc (.cells #[.int .u8 a0, .int .u32 a1, .int .u32 a2] 65)).alloc (.cells #[.int .u8 b0, .int .u32 b1, .int .u32 b2] 65)).cell? ⟨W.heap.size, 0, none⟩ = some (.int .u8 a0) := by simp
  have k1 : ((W.alloc (.cells #[.int .u8 a0, .int .u32 a1, .int .u32 a2] 65)).alloc (.cells #[.int .u8 b0, .int .u32 b1, .int .u32 b2] 65)).cell? ⟨W.heap.size, 1, none⟩ = some (.int .u32 a1) := by simp
  have k2 : ((W.alloc (.cells #[.int .u8 a0, .int .u32 a1, .int .u32 a2] 65)).alloc (.cells #[.int .u8 b0, .int .u32 b1, .int .u32 b2] 65)).cell? ⟨W.heap.size + 1, 0, none⟩ = some (.int .u8 b0) := by simp
  have k3 : ((W.alloc (.cells #[.int .u8 a0, .int .u32 a1, .int .u32 a2] 65)).alloc (.cells #[.int .u8 b0, .int .u32 b1, .int .u32 b2] 65)).cell? ⟨W.heap.size + 1, 1, none⟩ = some (.int .u32 b1) := by simp
  have kw : (W.alloc (.cells #[.int .u8 a0, .int .u32 a1, .int .u32 a2] 65)).alloc (.cells #[.int .u8 b0, .int .u32 b1, .int .u32 b2] 65) = Sort.grow W #[.cells #[.int .u8 a0, .int .u32 a1, .int .u32 a2] 65, .cells #[.int .u8 b0, .int .u32 b1, .int .u32 b2] 65] := by
    rw [Sort.alloc_eq_grow, Sort.alloc_eq_grow, Sort.grow_grow]; rfl
  generalize (W.alloc (.cells #[.int .u8 a0, .int .u32 a1, .int .u32 a2] 65)).alloc (.cells #[.int .u8 b0, .int .u32 b1, .int .u32 b2] 65) = W2 at k0 k1 k2 k3 kw ⊢
  refine wp_region_still_tail 10 (by kernel_rfl) (by kernel_rfl) ?_
  obtain ⟨W3, hW3⟩ : ∃ W3 : World, W3 = { W2 with drawn := W2.drawn + 1 } := ⟨_, rfl⟩
  rw [← hW3]
  replace k0 : W3.cell? ⟨W.heap.size, 0, none⟩ = some (.int .u8 a0) := by rw [hW3]; exact k0
  replace k1 : W3.cell? ⟨W.heap.size, 1, none⟩ = some (.int .u32 a1) := by rw [hW3]; exact k1
  replace k2 : W3.cell? ⟨W.heap.size + 1, 0, none⟩ = some (.int .u8 b0) := by rw [hW3]; exact k2
  replace k3 : W3.cell? ⟨W.heap.size + 1, 1, none⟩ = some (.int .u32 b1) := by rw [hW3]; exact k3
  have KW := Aside0.mk (show W3 = Sort.grow (W.drewN 1) #[.cells #[.int .u8 a0, .int .u32 a1, .int .u32 a2] 65, .cells #[.int .u8 b0, .int .u32 b1, .int .u32 b2] 65] by rw [hW3, kw]; rfl)
  clear hW3 kw
  simp only [List.take_succ_cons, List.take_zero, List.drop_succ_cons, List.drop_zero]
  repeat still_step
  still_call (c8 _)
  repeat still_step
  still_call (c32 _)
  repeat still_step
  refine wpStill_nil ?_
  go_wp2_with (go_at_call 51; (refine (cmp_Or_int.calls 3 (some ⟨W3.heap.size, 0, none⟩) 2 [p, q] r _ (C_two W3 p q) (Nat.le_refl 2) HO.out).mono ?_); rintro e w2 ⟨rfl, ⟨nd, rfl⟩⟩)
  go_ret
  refine ⟨rfl, 1 + nd, #[.cells #[.int .u8 a0, .int .u32 a1, .int .u32 a2] 65, .cells #[.int .u8 b0, .int .u32 b1, .int .u32 b2] 65, .cells #[.int .i64 p, .int .i64 q] 3], ?_⟩
  rw [KW.out, Sort.alloc_eq_grow, Sort.grow_grow]
  simp [Sort.grow, World.drewN, Nat.add_assoc]
  exact ⟨rfl, rfl, rfl⟩
theorem runCmp_lt (x y : S65) : ltOf runCmp x y = (decide (x.f0 < y.f0) || (decide (x.f0 = y.f0) && decide (x.f1 < y.f1))) := by
  unfold ltOf runCmp orI cmpI
  by_cases h1 : x.f0 < y.f0
  · simp [h1]
  · by_cases h2 : x.f0 > y.f0
    · have h3 : ¬ x.f0 = y.f0 := by omega
      simp [h1, h2, h3]
    · have h3 : x.f0 = y.f0 := by omega
      by_cases h4 : x.f1 < y.f1
      · simp [h3, h4]
      · by_cases h5 : x.f1 > y.f1 <;> simp [h3, h4, h5]
theorem runCmp_swo : Sort.SWO (ltOf runCmp) where
  irrefl x := by rw [runCmp_lt]; simp
  trans x y z h1 h2 := by rw [runCmp_lt] at *; simp at *; omega
  ntrans x y z h1 h2 := by rw [runCmp_lt] at *; simp at *; omega
def Tryd.sortRun_ren : Go.Shelf.Ren := ⟨fun | 6 => 57 | 15 => 69 | 14 => 68 | 28 => 79 | 29 => 80 | 20 => 71 | 21 => 72 | 22 => 73 | 23 => 74 | 24 => 75 | 25 => 76 | 26 => 77 | 27 => 78 | 46 => 81 | 47 => 82 | 48 => 83 | 49 => 84 | 50 => 85 | 57 => 86 | n => n, fun | 22 => 39 | 24 => 65 | 25 => 91 | 3 => 3 | 39 => 73 | 0 => 0 | 53 => 23 | 55 => 70 | 4 => 4 | 46 => 119 | 45 => 118 | 50 => 53 | 5 => 5 | 9 => 9 | 66 => 126 | 70 => 130 | 76 => 132 | 77 => 133 | n => n, fun | n => n⟩
theorem Tryd.sortRun : Go.Proofs.SlLaysF0.n6 Tryd.prog Tryd.sortRun_ren := {
  mixed := by kernel_rfl
  f6 := ⟨Tryd.f57.name, by decide, Tryd.func57.trans (congrArg some (by kernel_rfl))⟩
  f14 := ⟨Tryd.f68.name, by decide, Tryd.func68.trans (congrArg some (by kernel_rfl))⟩
  f15 := Tryd.func69.trans (congrArg some (by kernel_rfl))
  f20 := ⟨Tryd.f71.name, by decide, Tryd.func71.trans (congrArg some (by kernel_rfl))⟩
  f21 := ⟨Tryd.f72.name, by decide, Tryd.func72.trans (congrArg some (by kernel_rfl))⟩
  f22 := ⟨Tryd.f73.name, by decide, Tryd.func73.trans (congrArg some (by kernel_rfl))⟩
  f23 := ⟨Tryd.f74.name, by decide, Tryd.func74.trans (congrArg some (by kernel_rfl))⟩
  f24 := ⟨Tryd.f75.name, by decide, Tryd.func75.trans (congrArg some (by kernel_rfl))⟩
  f25 := ⟨Tryd.f76.name, by decide, Tryd.func76.trans (congrArg some (by kernel_rfl))⟩
  f26 := ⟨Tryd.f77.name, by decide, Tryd.func77.trans (congrArg some (by kernel_rfl))⟩
  f27 := ⟨Tryd.f78.name, by decide, Tryd.func78.trans (congrArg some (by kernel_rfl))⟩
  f28 := Tryd.func79.trans (congrArg some (by kernel_rfl))
  f29 := Tryd.func80.trans (congrArg some (by kernel_rfl))
  f46 := ⟨Tryd.f81.name, by decide, Tryd.func81.trans (congrArg some (by kernel_rfl))⟩
  f47 := Tryd.func82.trans (congrArg some (by kernel_rfl))
  f48 := Tryd.func83.trans (congrArg some (by kernel_rfl))
  f49 := ⟨Tryd.f84.name, by decide, Tryd.func84.trans (congrArg some (by kernel_rfl))⟩
  f50 := ⟨Tryd.f85.name, by decide, Tryd.func85.trans (congrArg some (by kernel_rfl))⟩
  f57 := ⟨Tryd.f86.name, by decide, Tryd.func86.trans (congrArg some (by kernel_rfl))⟩
  t0 := Tryd.underlying0
  a0 := Tryd.isAgg0
  z0 := Tryd.sizeOf0
  v0 := Tryd.zeroValue0
  t3 := Tryd.underlying3
  a3 := Tryd.isAgg3
  z3 := Tryd.sizeOf3
  v3 := Tryd.zeroValue3
  t4 := Tryd.underlying4
  a4 := Tryd.isAgg4
  z4 := Tryd.sizeOf4
  v4 := Tryd.zeroValue4
  t5 := Tryd.underlying5
  a5 := Tryd.isAgg5
  z5 := Tryd.sizeOf5
  v5 := Tryd.zeroValue5
  t9 := Tryd.underlying9
  a9 := Tryd.isAgg9
  z9 := Tryd.sizeOf9
  v9 := Tryd.zeroValue9
  t22 := Tryd.underlying39
  a22 := Tryd.isAgg39
  z22 := Tryd.sizeOf39
  v22 := Tryd.zeroValue39
  t25 := Tryd.underlying91
  a25 := Tryd.isAgg91
  z25 := Tryd.sizeOf91
  v25 := Tryd.zeroValue91
  t39 := Tryd.underlying73
  a39 := Tryd.isAgg73
  z39 := Tryd.sizeOf73
  v39 := Tryd.zeroValue73
  t45 := Tryd.underlying118
  a45 := Tryd.isAgg118
  z45 := Tryd.sizeOf118
  v45 := Tryd.zeroValue118
  t46 := Tryd.underlying119
  a46 := Tryd.isAgg119
  z46 := Tryd.sizeOf119
  v46 := Tryd.zeroValue119
  t50 := Tryd.underlying53
  a50 := Tryd.isAgg53
  z50 := Tryd.sizeOf53
  v50 := Tryd.zeroValue53
  t53 := Tryd.underlying23
  a53 := Tryd.isAgg23
  z53 := Tryd.sizeOf23
  v53 := Tryd.zeroValue23
  t55 := Tryd.underlying70
  a55 := Tryd.isAgg70
  z55 := Tryd.sizeOf70
  v55 := Tryd.zeroValue70
  t66 := Tryd.underlying126
  a66 := Tryd.isAgg126
  z66 := Tryd.sizeOf126
  v66 := Tryd.zeroValue126
  t70 := Tryd.underlying130
  a70 := Tryd.isAgg130
  z70 := Tryd.sizeOf130
  v70 := Tryd.zeroValue130
  t76 := Tryd.underlying132
  a76 := Tryd.isAgg132
  z76 := Tryd.sizeOf132
  v76 := Tryd.zeroValue132
  t77 := Tryd.underlying133
  a77 := Tryd.isAgg133
  z77 := Tryd.sizeOf133
  v77 := Tryd.zeroValue133 }
instance : Inhabited S65 := ⟨z65⟩
/-- slices.SortFunc by Rep, then by From: to the element, as Go's own text goes. -/
def slices_SortFunc_Run.f (l0 : List (S65)) : Option (List (S65)) := if l0.length < 11728124029610 then some (Sort.pdq (ltOf runCmp) l0.toArray 0 l0.toArray.size (Lib.bitLen l0.toArray.size) true true).toList else none
theorem encRun_M {w : World} {base : Nat} {ok : Nat → Prop} (p : S65) (c : List Value) (h : k65.M w base ok p c) : c = encRun p := k65_openM h
theorem flat_Run (d : Array S65) (t : Nat) (h : t < d.size * 3) : some ((Sort.flatK encRun 3 d)[t]!) = (encRun (d.toList.getD (t / 3) z65))[t % 3]? := by
  have hd : t / 3 < d.size := by omega
  have e : d.toList.getD (t / 3) z65 = d[t / 3] := by rw [List.getD_eq_getElem?_getD, List.getElem?_eq_getElem (by simpa using hd)]; simp
  have h3 : t % 3 < (encRun d[t / 3]).length := by simp [encRun]; omega
  rw [e, Sort.get_flatK encRun 3 d t h, getElem!_pos d (t / 3) hd, getElem!_pos _ (t % 3) h3, List.getElem?_eq_getElem h3]
theorem size_flat_Run (d : Array S65) : (Sort.flatK encRun 3 d).size = d.size * 3 := by simp [Sort.flatK]
set_option maxHeartbeats 8000000 in
set_option maxRecDepth 100000 in
theorem slices_SortFunc_Run.calls (P0_ : Nat → Prop) (u9000_ : Value) (l0 : List (S65)) (r : List (S65)) (w0 w : World) (hB : Below w0.heap.size w0 w) (ho0 : Kd.R k65 65 w w0.heap.size P0_ u9000_ l0) (h : slices_SortFunc_Run.f l0 = some r) :
    Calls Tryd.prog 57 #[u9000_, .func (.func 58) #[] #[]] w fun e w' => e = .returned (.tuple #[]) ∧ Kd.R k65 65 w' w0.heap.size (fun k_ => (P0_ k_ ∨ w.heap.size ≤ k_)) u9000_ r ∧ Below w0.heap.size w0 w' ∧ Kept w w' (fun k_ => P0_ k_) := by
  have eg : ∀ args w, (callFunc 58 args).run Tryd.prog w = .ok (.enter 58 args) w := enters_of Tryd.func58 (by kernel_rfl) rfl
  unfold slices_SortFunc_Run.f at h
  by_cases hsz : l0.length < 11728124029610
  case neg => rw [if_neg hsz] at h; cases h
  rw [if_pos hsz] at h
  have hr := Option.some.inj h
  clear h
  obtain ⟨hP, inner, hown, hreps⟩ := ho0
  replace hreps : Reps _ 3 l0 inner := hreps
  rcases hown.2 with ⟨rfl, hn⟩ | ⟨g, cap, cur, rfl, hbase, hheap, hncap, hcapm, hcur, htake⟩
  · have hl : l0 = [] := List.eq_nil_of_length_eq_zero hn
    subst hl
    have hps := Sort.pdq_sorts (ltOf runCmp) runCmp_swo #[] 0 0 (Lib.bitLen 0) true true (Nat.zero_le _) (Nat.le_refl _) (Or.inl rfl)
    have hr0 : r = [] := by
      rw [← hr]
      exact List.eq_nil_of_length_eq_zero (by have := hps.1.1; simpa using this)
    subst hr0
    have hcon := AnyF.slices_SortFunc_none Tryd.sortRun none 0 (.func (.func 58) #[] #[]) w
    change Calls Tryd.prog 57 _ _ _ at hcon
    refine hcon.mono ?_
    rintro e w' ⟨rfl, rfl⟩
    exact ⟨rfl, Kd.R_nil _ _ _ _ _, hB, Kept.refl _ _⟩
  · replace hcur : cur.size = cap * 3 := hcur
    replace htake : cur.toList.take (l0.length * 3) = inner := htake
    have hps := Sort.pdq_sorts (ltOf runCmp) runCmp_swo l0.toArray 0 l0.toArray.size (Lib.bitLen l0.toArray.size) true true (Nat.zero_le _) (Nat.le_refl _) (Or.inl rfl)
    have hblk : g < w.heap.size := blk_lt hheap
    have hcells : ∀ t, t < l0.length * 3 → cur[t]? = (encRun (l0.getD (t / 3) z65))[t % 3]? := by
      intro t ht
      rw [← reps_get hreps encRun encRun_M (by decide) z65 t ht, ← htake, List.getElem?_take, if_pos ht, Array.getElem?_toList]
    have hH : Sort.HoldsK encRun 3 w g 0 l0.toArray := by
      intro t ht
      rw [size_flat_Run] at ht
      refine ⟨?_, blk_frozen hheap _⟩
      rw [Nat.zero_add, blk_cell hheap, hcells t (by simpa using ht)]
      exact (flat_Run l0.toArray t ht).symm
    have hcon := AnyQ.slices_SortFunc_eq Tryd.sortRun 3 Tryd.isAgg65 Tryd.sizeOf65 encRun (fun _ => rfl) (fun x v hv => by simp only [encRun, List.mem_cons, List.not_mem_nil, or_false] at hv; rcases hv with rfl | rfl | rfl <;> rfl) runCmp runCmp_swo 58 #[] g 0 cap l0.toArray w eg
      (fun _ _ _ _ x y => know_merged_1.calls x y _) hH hblk (by simp; omega)
    change Calls Tryd.prog 57 _ _ _ at hcon
    refine hcon.mono ?_
    rintro e w' ⟨rfl, n, os, rfl⟩
    generalize hd : Sort.pdq (ltOf runCmp) l0.toArray 0 l0.toArray.size (Lib.bitLen l0.toArray.size) true true = d' at hr hps ⊢
    have hsize : d'.size = l0.length := by have := hps.1.1; simpa using this
    subst hr
    have hh : ∀ k, k < w.heap.size → (sortWorldK encRun 3 w g 0 n d' os).heap[k]? = if k = g then some (.cells (Sort.putCells id 0 (Sort.flatK encRun 3 d') cur) 65 (0, 0)) else w.heap[k]? := by
      intro k hk
      show ((w.heap.modify g (Sort.onCells (Sort.putCells id 0 (Sort.flatK encRun 3 d')))) ++ os)[k]? = _
      rw [Array.getElem?_append_left (by simpa using hk), Array.getElem?_modify]
      by_cases hkg : g = k
      · subst hkg; rw [if_pos rfl, if_pos rfl, hheap]; rfl
      · rw [if_neg hkg, if_neg (Ne.symm hkg)]
    have hsw : w.heap.size ≤ (sortWorldK encRun 3 w g 0 n d' os).heap.size := by
      show _ ≤ ((w.heap.modify g (Sort.onCells (Sort.putCells id 0 (Sort.flatK encRun 3 d')))) ++ os).size
      simp
    refine ⟨rfl, ⟨fun k hk => .inl (hP k hk), (Sort.flatK encRun 3 d').toList, ⟨?_, .inr ⟨g, cap, Sort.putCells id 0 (Sort.flatK encRun 3 d') cur, by simp [hsize], hbase, by rw [hh g hblk, if_pos rfl], by simp [hsize]; exact hncap, hcapm, by simp only [Sort.putCells, Array.size_mapIdx, hcur]; rfl, ?_⟩⟩, ?_⟩, ?_, ?_⟩
    · show (Sort.flatK encRun 3 d').toList.length = d'.toList.length * 3
      rw [Array.length_toList, size_flat_Run, Array.length_toList]
    · show List.take (d'.toList.length * 3) _ = _
      apply List.ext_getElem?
      intro j
      rw [List.getElem?_take]
      by_cases hj : j < d'.toList.length * 3
      · have hj2 : j < cur.size := by rw [hcur]; simp [hsize] at hj; omega
        have hj3 : j < (Sort.flatK encRun 3 d').size := by rw [size_flat_Run]; simpa using hj
        rw [if_pos hj]
        have hj4 : j < d'.size * 3 := by simpa using hj
        rw [Array.getElem?_toList, Array.getElem?_toList, Array.getElem?_eq_getElem hj3, ← getElem!_pos _ j hj3]
        simp [Sort.putCells, hj2, hj4, size_flat_Run]
      · rw [if_neg hj, List.getElem?_eq_none]
        rw [Array.length_toList, size_flat_Run]; simpa using hj
    · show Reps _ 3 _ _
      refine reps_mk encRun (fun _ => rfl) (fun p => k65_mkM _ _ _ p) (by decide) z65 ?_ ?_
      · rw [Array.length_toList, size_flat_Run, Array.length_toList]
      · intro j hj
        have hj3 : j < (Sort.flatK encRun 3 d').size := by rw [size_flat_Run]; simpa using hj
        rw [← flat_Run d' j (by simpa using hj), Array.getElem?_toList, Array.getElem?_eq_getElem hj3, getElem!_pos _ j hj3]
    · refine hB.trans ⟨rfl, rfl, rfl, hsw, fun k hk => ?_⟩
      rw [hh k (Nat.lt_of_lt_of_le hk hB.size), if_neg (by omega)]
    · refine ⟨hsw, fun k hk hn => ?_⟩
      rw [hh k hk, if_neg]
      rintro rfl
      exact hn (hP _ rfl)
end Go.Proofs.YtiminjibcafkaaaDoor.X
