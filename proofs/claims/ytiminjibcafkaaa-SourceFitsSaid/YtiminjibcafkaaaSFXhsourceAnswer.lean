-- MADE BY wip/prx.py (the kit's printer, with contracts proved by hand). Not trusted: Lean checks it.
import Derived.Test.YtiminjibcafkaaaSFX0
import Derived.Test.YtiminjibcafkaaaSFJ8
import Derived.Test.YtiminjibcafkaaaSFJ14
import Derived.Test.YtiminjibcafkaaaSFX13
import Derived.Test.YtiminjibcafkaaaSFX20
import Derived.Test.YtiminjibcafkaaaSFXhsourceoffer
import Derived.Test.YtiminjibcafkaaaSFJ29
namespace Go.Proofs.Ytiminjibcafkaaa.X
open Go.RowKit Go.Proofs.YtiminjibcafkaaaW.PrintWords Go.Proofs.YtiminjibcafkaaaW.PrintLast Go.Proofs.YtiminjibcafkaaaW.PrintMore
attribute [local go_sem] max2_int min2_int max_two min_two max_three min_three max_four min_four   -- for this text's walks alone
set_option linter.unusedVariables false
set_option linter.unusedSimpArgs false
--EXT Derived.Test.YtiminjibcafkaaaXdue
/-! ### source_Answer: function 27, by hand -/
attribute [local go_sem] Oper.semAt_some
/-- An entry's ghost. -/
def fadeV (x : S27) : S27 := if x.f2 = 1 then ⟨x.f0, x.f1, 2, x.f3, 0⟩ else x
/-- Is an entry in a filter? -/
def inO (fil : Int) (x : S27) : Option Bool := item_In.f x.f0 x.f1.f0 x.f1.f1 x.f1.f2 x.f2 x.f3 x.f4 fil
/-- An entry, as it is told. -/
def ansV (fil : Int) (x : S27) : S27 := if inO fil x = some true then x else fadeV x
/-- Behind the last one. -/
def nextI (cur : Int) (l : List S27) : Int := l.foldl (fun _ x => (x.f0 + 1) % 256) cur
theorem nextI_snoc (cur : Int) (l : List S27) (x : S27) : nextI cur (l ++ [x]) = (x.f0 + 1) % 256 := by simp [nextI]
theorem fadeV_is (x : S27) : item_Fade.f x.f0 x.f1.f0 x.f1.f1 x.f1.f2 x.f2 x.f3 x.f4 = some ((fadeV x).f0, (fadeV x).f1.f0, (fadeV x).f1.f1, (fadeV x).f1.f2, (fadeV x).f2, (fadeV x).f3, (fadeV x).f4) := by
  unfold item_Fade.f fadeV
  by_cases h : x.f2 = 1
  · rw [if_pos h, if_pos h]
  · rw [if_neg h, if_neg h]
theorem fadeV_f0 (x : S27) : (fadeV x).f0 = x.f0 := by unfold fadeV; split <;> rfl
theorem blk_far7 {w : World} {g b : Nat} {t : TypeId} {cs : Array Value} (h : w.heap[g]? = some (.cells cs t (0, 0))) (hne : g ≠ b) (v0 v1 v2 v3 v4 v5 v6 : Value) : ((((((((w.setCell ⟨b, 0, none⟩ v0).setCell ⟨b, 1, none⟩ v1).setCell ⟨b, 2, none⟩ v2).setCell ⟨b, 3, none⟩ v3).setCell ⟨b, 4, none⟩ v4).setCell ⟨b, 5, none⟩ v5).setCell ⟨b, 6, none⟩ v6)).heap[g]? = some (.cells cs t (0, 0)) :=
  blk_far (blk_far (blk_far (blk_far (blk_far (blk_far (blk_far h hne _) hne _) hne _) hne _) hne _) hne _) hne _
theorem R_far7 {α : Type} {d : Kd α} {e base : Nat} {ok : Nat → Prop} {w : World} {v : Value} {xs : List α} {b : Nat} (h : d.R e w base ok v xs) (hok : ∀ k, ok k → k ≠ b) (v0 v1 v2 v3 v4 v5 v6 : Value) : d.R e ((((((((w.setCell ⟨b, 0, none⟩ v0).setCell ⟨b, 1, none⟩ v1).setCell ⟨b, 2, none⟩ v2).setCell ⟨b, 3, none⟩ v3).setCell ⟨b, 4, none⟩ v4).setCell ⟨b, 5, none⟩ v5).setCell ⟨b, 6, none⟩ v6)) base ok v xs :=
  Kd.R_far (Kd.R_far (Kd.R_far (Kd.R_far (Kd.R_far (Kd.R_far (Kd.R_far h hok _) hok _) hok _) hok _) hok _) hok _) hok _
theorem others_7 (w : World) (b : Nat) (v0 v1 v2 v3 v4 v5 v6 : Value) : KeepsOthers w ((((((((w.setCell ⟨b, 0, none⟩ v0).setCell ⟨b, 1, none⟩ v1).setCell ⟨b, 2, none⟩ v2).setCell ⟨b, 3, none⟩ v3).setCell ⟨b, 4, none⟩ v4).setCell ⟨b, 5, none⟩ v5).setCell ⟨b, 6, none⟩ v6)) :=
  ((((((KeepsOthers.setCell _ _ _).trans (KeepsOthers.setCell _ _ _)).trans (KeepsOthers.setCell _ _ _)).trans (KeepsOthers.setCell _ _ _)).trans (KeepsOthers.setCell _ _ _)).trans (KeepsOthers.setCell _ _ _)).trans (KeepsOthers.setCell _ _ _)
theorem R_far12 {α : Type} {d : Kd α} {e base : Nat} {ok : Nat → Prop} {w : World} {v : Value} {xs : List α} {b : Nat} (h : d.R e w base ok v xs) (hok : ∀ k, ok k → k ≠ b) (v0 v1 v2 v3 v4 v5 v6 v7 v8 v9 v10 v11 : Value) : d.R e ((((((((((((w.setCell ⟨b, 0, none⟩ v0).setCell ⟨b, 1, none⟩ v1).setCell ⟨b, 2, none⟩ v2).setCell ⟨b, 3, none⟩ v3).setCell ⟨b, 4, none⟩ v4).setCell ⟨b, 5, none⟩ v5).setCell ⟨b, 6, none⟩ v6).setCell ⟨b, 7, none⟩ v7).setCell ⟨b, 8, none⟩ v8).setCell ⟨b, 9, none⟩ v9).setCell ⟨b, 10, none⟩ v10).setCell ⟨b, 11, none⟩ v11) base ok v xs :=
  Kd.R_far (Kd.R_far (Kd.R_far (Kd.R_far (Kd.R_far (Kd.R_far (Kd.R_far (Kd.R_far (Kd.R_far (Kd.R_far (Kd.R_far (Kd.R_far (h) hok _) hok _) hok _) hok _) hok _) hok _) hok _) hok _) hok _) hok _) hok _) hok _
theorem others_12 (w : World) (b : Nat) (v0 v1 v2 v3 v4 v5 v6 v7 v8 v9 v10 v11 : Value) : KeepsOthers w ((((((((((((w.setCell ⟨b, 0, none⟩ v0).setCell ⟨b, 1, none⟩ v1).setCell ⟨b, 2, none⟩ v2).setCell ⟨b, 3, none⟩ v3).setCell ⟨b, 4, none⟩ v4).setCell ⟨b, 5, none⟩ v5).setCell ⟨b, 6, none⟩ v6).setCell ⟨b, 7, none⟩ v7).setCell ⟨b, 8, none⟩ v8).setCell ⟨b, 9, none⟩ v9).setCell ⟨b, 10, none⟩ v10).setCell ⟨b, 11, none⟩ v11) :=
  (((((((((((KeepsOthers.setCell _ _ _).trans (KeepsOthers.setCell _ _ _)).trans (KeepsOthers.setCell _ _ _)).trans (KeepsOthers.setCell _ _ _)).trans (KeepsOthers.setCell _ _ _)).trans (KeepsOthers.setCell _ _ _)).trans (KeepsOthers.setCell _ _ _)).trans (KeepsOthers.setCell _ _ _)).trans (KeepsOthers.setCell _ _ _)).trans (KeepsOthers.setCell _ _ _)).trans (KeepsOthers.setCell _ _ _)).trans (KeepsOthers.setCell _ _ _)
theorem lift_sub {α : Type} (p : α → Prop) : ∀ (l : List α), (∀ x ∈ l, p x) → ∃ hs : List { x : α // p x }, hs.map (fun x => x.1) = l
  | [], _ => ⟨[], rfl⟩
  | x :: l, h => by
    obtain ⟨hs, e⟩ := lift_sub p l (fun y hy => h y (List.mem_cons_of_mem _ hy))
    exact ⟨⟨x, h x (List.mem_cons_self)⟩ :: hs, by rw [List.map_cons, e]⟩
/-- source.Answer. -/
def source_Answer.f (k : Nat) (a0_0 : Int) (a0_1 : Int) (a0_2 : Int) (a0_3 : Int) (l0_4 : List (S78)) (l0_5 : List (S27)) (a0_6 : Bool) (a0_7 : Int) (a0_8 : Int) (a0_9 : Int) (a0_10 : Int) (l0_11 : List (S78)) (a0_12 : Int) (a1_0 : Int) (a1_1 : Int) (a1_2 : Int) (a1_3 : Int) (a1_4 : Int) (a1_5 : Int) (l1_6 : List (S78)) (a1_7 : Int) (l1_8 : List (S27)) (a1_9 : Int) (a1_10 : Bool) (l1_11 : List (S78)) : Option (Int × Int × Int × Int × Int × Int × (List (S78)) × Int × (List (S27)) × Int × Bool × (List (S78)) × Option Int) :=
  (source_check.f k a0_0 a0_1 a0_2 a0_3 l0_4 l0_5 a0_6 a0_7 a0_8 a0_9 a0_10 l0_11 a0_12 a1_0 a1_1 a1_2 a1_3 a1_4 a1_5 l1_6 a1_7 l1_8 a1_9 a1_10 l1_11).bind fun e => match e with
    | some c => some (0, 0, 0, 0, 0, 0, [], 0, [], 0, false, [], some c)
    | none => (know_Right.f k l1_6).bind fun b => if b = true then if l0_5.length ≤ 400000 then if l0_5.all (fun x => (inO a1_5 x).isSome) = true then
        if 0 < a1_4 then some (2, a0_0, a1_1, a1_3, a1_4, 0, [], a0_2, ((l0_5.filter (dueB a1_4 l1_6)).take 4).map (ansV a1_5), nextI a1_4 ((l0_5.filter (dueB a1_4 l1_6)).take 4), decide ((l0_5.filter (dueB a1_4 l1_6)).length ≤ 4), [], none)
        else (source_offer.f k a0_0 a0_1 a0_2 a0_3 l0_4 l0_5 a0_6 a0_7 a0_8 a0_9 a0_10 l0_11 a0_12 a1_0 a1_1 a1_2 a1_3 a1_4 a1_5 l1_6 a1_7 l1_8 a1_9 a1_10 l1_11).bind fun p => match p.2 with
          | some c => some (0, 0, 0, 0, 0, 0, [], 0, [], 0, false, [], some c)
          | none => some (2, a0_0, a1_1, a1_3, a1_4, 0, [], a0_2, ((l0_5.filter (dueB a1_4 l1_6)).take 4).map (ansV a1_5), nextI a1_4 ((l0_5.filter (dueB a1_4 l1_6)).take 4), decide ((l0_5.filter (dueB a1_4 l1_6)).length ≤ 4), p.1, none)
      else none else none else none
set_option maxHeartbeats 8000000 in
set_option maxRecDepth 100000 in
theorem source_Answer.calls (k : Nat) (a0_0 : Int) (a0_1 : Int) (a0_2 : Int) (a0_3 : Int) (A0_4 : Option Addr) (c0_4 : Nat) (l0_4 : List (S78)) (A0_5 : Option Addr) (c0_5 : Nat) (l0_5 : List (S27)) (a0_6 : Bool) (a0_7 : Int) (a0_8 : Int) (a0_9 : Int) (a0_10 : Int) (A0_11 : Option Addr) (c0_11 : Nat) (l0_11 : List (S78)) (a0_12 : Int) (a1_0 : Int) (a1_1 : Int) (a1_2 : Int) (a1_3 : Int) (a1_4 : Int) (a1_5 : Int) (A1_6 : Option Addr) (c1_6 : Nat) (l1_6 : List (S78)) (a1_7 : Int) (A1_8 : Option Addr) (c1_8 : Nat) (l1_8 : List (S27)) (a1_9 : Int) (a1_10 : Bool) (A1_11 : Option Addr) (c1_11 : Nat) (l1_11 : List (S78)) (r1 : Int) (r2 : Int) (r3 : Int) (r4 : Int) (r5 : Int) (r6 : Int) (r7 : List (S78)) (r8 : Int) (r9 : List (S27)) (r10 : Int) (r11 : Bool) (r12 : List (S78)) (r13 : Option Int) (w : World) (hr0_4 : Kd.C k78 w A0_4 l0_4.length l0_4) (hc0_4 : l0_4.length ≤ c0_4) (hr0_5 : Kd.C k27 w A0_5 l0_5.length l0_5) (hc0_5 : l0_5.length ≤ c0_5) (hr0_11 : Kd.C k78 w A0_11 l0_11.length l0_11) (hc0_11 : l0_11.length ≤ c0_11) (hr1_6 : Kd.C k78 w A1_6 l1_6.length l1_6) (hc1_6 : l1_6.length ≤ c1_6) (hr1_8 : Kd.C k27 w A1_8 l1_8.length l1_8) (hc1_8 : l1_8.length ≤ c1_8) (hr1_11 : Kd.C k78 w A1_11 l1_11.length l1_11) (hc1_11 : l1_11.length ≤ c1_11) (h : source_Answer.f k a0_0 a0_1 a0_2 a0_3 l0_4 l0_5 a0_6 a0_7 a0_8 a0_9 a0_10 l0_11 a0_12 a1_0 a1_1 a1_2 a1_3 a1_4 a1_5 l1_6 a1_7 l1_8 a1_9 a1_10 l1_11 = some (r1, r2, r3, r4, r5, r6, r7, r8, r9, r10, r11, r12, r13)) :
    Calls Try.prog 27 #[.agg #[.int .u8 a0_0, .int .u8 a0_1, .int .u32 a0_2, .int .u32 a0_3, .slice A0_4 l0_4.length c0_4, .slice A0_5 l0_5.length c0_5, .bool a0_6, .int .u32 a0_7, .int .u8 a0_8, .int .u8 a0_9, .int .u32 a0_10, .slice A0_11 l0_11.length c0_11, .int .u32 a0_12], .agg #[.int .i64 a1_0, .int .u8 a1_1, .int .u8 a1_2, .int .u32 a1_3, .int .u8 a1_4, .int .u8 a1_5, .slice A1_6 l1_6.length c1_6, .int .u32 a1_7, .slice A1_8 l1_8.length c1_8, .int .u8 a1_9, .bool a1_10, .slice A1_11 l1_11.length c1_11]] w fun e w' => ∃ v6_ v8_ v11_ : Value, e = .returned (.tuple #[.agg #[.int .i64 r1, .int .u8 r2, .int .u8 r3, .int .u32 r4, .int .u8 r5, .int .u8 r6, v6_, .int .u32 r8, v8_, .int .u8 r10, .bool r11, v11_], errW r13]) ∧ Kd.R k78 78 w' w.heap.size (fun k_ => some k_ ≠ (v11_ : Value).ownBlock) v6_ r7 ∧ Kd.R k27 27 w' w.heap.size (fun _ => True) v8_ r9 ∧ Kd.R k78 78 w' w.heap.size (fun k_ => some k_ ≠ (v6_ : Value).ownBlock) v11_ r12 ∧ Below w.heap.size w w' := by
  have hu34 := Try.underlying34
  have huR := Try.underlying51
  have huN := Try.underlying53
  have huE := Try.underlying27
  have eN := errW_none
  have eS := errW_some
  have HR4 := Aside0.mk hr0_4
  have HR5 := Aside0.mk hr0_5
  have HR11 := Aside0.mk hr0_11
  have HC4 := Aside0.mk hc0_4
  have HC5 := Aside0.mk hc0_5
  have HC11 := Aside0.mk hc0_11
  have HN6 := Aside0.mk hr1_6
  have HN8 := Aside0.mk hr1_8
  have HN11 := Aside0.mk hr1_11
  have HD6 := Aside0.mk hc1_6
  have HD8 := Aside0.mk hc1_8
  have HD11 := Aside0.mk hc1_11
  clear hr0_4 hr0_5 hr0_11 hc0_4 hc0_5 hc0_11 hr1_6 hr1_8 hr1_11 hc1_6 hc1_8 hc1_11
  obtain ⟨e, hck, h⟩ := Option.bind_eq_some_iff.mp h
  have HCK := Aside0.mk hck
  clear hck
  have HL := Aside0.mk h
  clear h
  refine (callsIn_wide (n := 4)).1 ?_
  refine callsIn_of_wp_marks Try.func27 rfl trivial ?_ rfl
  simp only [Try.ntmps27, List.size_toArray, List.length_cons, List.length_nil, Nat.reduceAdd, Nat.reduceSub, Array.replicate_succ, Array.replicate_zero, List.push_toArray, List.append_toArray, List.nil_append, List.cons_append]
  gi_wp2_with fail
  have B1a := Aside0.mk (blk_alloc (blk_alloc (blk_new w (.cells #[.int .u8 a0_0, .int .u8 a0_1, .int .u32 a0_2, .int .u32 a0_3, .slice A0_4 l0_4.length c0_4, .slice A0_5 l0_5.length c0_5, .bool a0_6, .int .u32 a0_7, .int .u8 a0_8, .int .u8 a0_9, .int .u32 a0_10, .slice A0_11 l0_11.length c0_11, .int .u32 a0_12] 51)) (.cells #[.int .i64 a1_0, .int .u8 a1_1, .int .u8 a1_2, .int .u32 a1_3, .int .u8 a1_4, .int .u8 a1_5, .slice A1_6 l1_6.length c1_6, .int .u32 a1_7, .slice A1_8 l1_8.length c1_8, .int .u8 a1_9, .bool a1_10, .slice A1_11 l1_11.length c1_11] 53)) (.cells #[.int .i64 0, .int .u8 0, .int .u8 0, .int .u32 0, .int .u8 0, .int .u8 0, .slice none 0 0, .int .u32 0, .slice none 0 0, .int .u8 0, .bool false, .slice none 0 0] 53))
  have B2a := Aside0.mk (blk_alloc (show ((w.alloc (.cells #[.int .u8 a0_0, .int .u8 a0_1, .int .u32 a0_2, .int .u32 a0_3, .slice A0_4 l0_4.length c0_4, .slice A0_5 l0_5.length c0_5, .bool a0_6, .int .u32 a0_7, .int .u8 a0_8, .int .u8 a0_9, .int .u32 a0_10, .slice A0_11 l0_11.length c0_11, .int .u32 a0_12] 51)).alloc (.cells #[.int .i64 a1_0, .int .u8 a1_1, .int .u8 a1_2, .int .u32 a1_3, .int .u8 a1_4, .int .u8 a1_5, .slice A1_6 l1_6.length c1_6, .int .u32 a1_7, .slice A1_8 l1_8.length c1_8, .int .u8 a1_9, .bool a1_10, .slice A1_11 l1_11.length c1_11] 53)).heap[w.heap.size + 1]? = some (.cells #[.int .i64 a1_0, .int .u8 a1_1, .int .u8 a1_2, .int .u32 a1_3, .int .u8 a1_4, .int .u8 a1_5, .slice A1_6 l1_6.length c1_6, .int .u32 a1_7, .slice A1_8 l1_8.length c1_8, .int .u8 a1_9, .bool a1_10, .slice A1_11 l1_11.length c1_11] 53 (0, 0)) by simpa using blk_new (w.alloc (.cells #[.int .u8 a0_0, .int .u8 a0_1, .int .u32 a0_2, .int .u32 a0_3, .slice A0_4 l0_4.length c0_4, .slice A0_5 l0_5.length c0_5, .bool a0_6, .int .u32 a0_7, .int .u8 a0_8, .int .u8 a0_9, .int .u32 a0_10, .slice A0_11 l0_11.length c0_11, .int .u32 a0_12] 51)) (.cells #[.int .i64 a1_0, .int .u8 a1_1, .int .u8 a1_2, .int .u32 a1_3, .int .u8 a1_4, .int .u8 a1_5, .slice A1_6 l1_6.length c1_6, .int .u32 a1_7, .slice A1_8 l1_8.length c1_8, .int .u8 a1_9, .bool a1_10, .slice A1_11 l1_11.length c1_11] 53)) (.cells #[.int .i64 0, .int .u8 0, .int .u8 0, .int .u32 0, .int .u8 0, .int .u8 0, .slice none 0 0, .int .u32 0, .slice none 0 0, .int .u8 0, .bool false, .slice none 0 0] 53))
  have B3a := Aside0.mk (show (((w.alloc (.cells #[.int .u8 a0_0, .int .u8 a0_1, .int .u32 a0_2, .int .u32 a0_3, .slice A0_4 l0_4.length c0_4, .slice A0_5 l0_5.length c0_5, .bool a0_6, .int .u32 a0_7, .int .u8 a0_8, .int .u8 a0_9, .int .u32 a0_10, .slice A0_11 l0_11.length c0_11, .int .u32 a0_12] 51)).alloc (.cells #[.int .i64 a1_0, .int .u8 a1_1, .int .u8 a1_2, .int .u32 a1_3, .int .u8 a1_4, .int .u8 a1_5, .slice A1_6 l1_6.length c1_6, .int .u32 a1_7, .slice A1_8 l1_8.length c1_8, .int .u8 a1_9, .bool a1_10, .slice A1_11 l1_11.length c1_11] 53)).alloc (.cells #[.int .i64 0, .int .u8 0, .int .u8 0, .int .u32 0, .int .u8 0, .int .u8 0, .slice none 0 0, .int .u32 0, .slice none 0 0, .int .u8 0, .bool false, .slice none 0 0] 53)).heap[w.heap.size + 1 + 1]? = some (.cells #[.int .i64 0, .int .u8 0, .int .u8 0, .int .u32 0, .int .u8 0, .int .u8 0, .slice none 0 0, .int .u32 0, .slice none 0 0, .int .u8 0, .bool false, .slice none 0 0] 53 (0, 0)) by simpa using blk_new ((w.alloc (.cells #[.int .u8 a0_0, .int .u8 a0_1, .int .u32 a0_2, .int .u32 a0_3, .slice A0_4 l0_4.length c0_4, .slice A0_5 l0_5.length c0_5, .bool a0_6, .int .u32 a0_7, .int .u8 a0_8, .int .u8 a0_9, .int .u32 a0_10, .slice A0_11 l0_11.length c0_11, .int .u32 a0_12] 51)).alloc (.cells #[.int .i64 a1_0, .int .u8 a1_1, .int .u8 a1_2, .int .u32 a1_3, .int .u8 a1_4, .int .u8 a1_5, .slice A1_6 l1_6.length c1_6, .int .u32 a1_7, .slice A1_8 l1_8.length c1_8, .int .u8 a1_9, .bool a1_10, .slice A1_11 l1_11.length c1_11] 53)) (.cells #[.int .i64 0, .int .u8 0, .int .u8 0, .int .u32 0, .int .u8 0, .int .u8 0, .slice none 0 0, .int .u32 0, .slice none 0 0, .int .u8 0, .bool false, .slice none 0 0] 53))
  have HBa := Aside0.mk ((((Below.refl _ w).alloc (Nat.le_refl _) (.cells #[.int .u8 a0_0, .int .u8 a0_1, .int .u32 a0_2, .int .u32 a0_3, .slice A0_4 l0_4.length c0_4, .slice A0_5 l0_5.length c0_5, .bool a0_6, .int .u32 a0_7, .int .u8 a0_8, .int .u8 a0_9, .int .u32 a0_10, .slice A0_11 l0_11.length c0_11, .int .u32 a0_12] 51)).alloc (by simp) (.cells #[.int .i64 a1_0, .int .u8 a1_1, .int .u8 a1_2, .int .u32 a1_3, .int .u8 a1_4, .int .u8 a1_5, .slice A1_6 l1_6.length c1_6, .int .u32 a1_7, .slice A1_8 l1_8.length c1_8, .int .u8 a1_9, .bool a1_10, .slice A1_11 l1_11.length c1_11] 53)).alloc (by simp; omega) (.cells #[.int .i64 0, .int .u8 0, .int .u8 0, .int .u32 0, .int .u8 0, .int .u8 0, .slice none 0 0, .int .u32 0, .slice none 0 0, .int .u8 0, .bool false, .slice none 0 0] 53))
  generalize ((w.alloc (.cells #[.int .u8 a0_0, .int .u8 a0_1, .int .u32 a0_2, .int .u32 a0_3, .slice A0_4 l0_4.length c0_4, .slice A0_5 l0_5.length c0_5, .bool a0_6, .int .u32 a0_7, .int .u8 a0_8, .int .u8 a0_9, .int .u32 a0_10, .slice A0_11 l0_11.length c0_11, .int .u32 a0_12] 51)).alloc (.cells #[.int .i64 a1_0, .int .u8 a1_1, .int .u8 a1_2, .int .u32 a1_3, .int .u8 a1_4, .int .u8 a1_5, .slice A1_6 l1_6.length c1_6, .int .u32 a1_7, .slice A1_8 l1_8.length c1_8, .int .u8 a1_9, .bool a1_10, .slice A1_11 l1_11.length c1_11] 53)).alloc (.cells #[.int .i64 0, .int .u8 0, .int .u8 0, .int .u32 0, .int .u8 0, .int .u8 0, .slice none 0 0, .int .u32 0, .slice none 0 0, .int .u8 0, .bool false, .slice none 0 0] 53) = w2 at B1a B2a B3a HBa ⊢
  refine ⟨trivial, ?_⟩
  refine (callsIn_wide.2 (source_check.calls k a0_0 a0_1 a0_2 a0_3 _ _ l0_4 _ _ l0_5 a0_6 a0_7 a0_8 a0_9 a0_10 _ _ l0_11 a0_12 a1_0 a1_1 a1_2 a1_3 a1_4 a1_5 _ _ l1_6 a1_7 _ _ l1_8 a1_9 a1_10 _ _ l1_11 e _ (Kd.C_below HR4.out HBa.out) HC4.out (Kd.C_below HR5.out HBa.out) HC5.out (Kd.C_below HR11.out HBa.out) HC11.out (Kd.C_below HN6.out HBa.out) HD6.out (Kd.C_below HN8.out HBa.out) HD8.out (Kd.C_below HN11.out HBa.out) HD11.out HCK.out)).mono ?_
  rintro ev w3 ⟨rfl, hx⟩
  have B1b := Aside0.mk (blk_below B1a.out hx)
  have B2b := Aside0.mk (blk_below B2a.out hx)
  have B3b := Aside0.mk (blk_below B3a.out hx)
  have HBb := Aside0.mk (below_step HBa.out hx)
  clear hx B1a B2a B3a HBa HCK
  have hLL := HL.out
  clear HL
  cases e with
  | some c =>
    have hLL2 := Option.some.inj hLL
    simp only [Prod.mk.injEq] at hLL2
    obtain ⟨rfl, rfl, rfl, rfl, rfl, rfl, rfl, rfl, rfl, rfl, rfl, rfl, rfl⟩ := hLL2
    clear hLL
    obtain ⟨z0, z1, z2, z3, z4, z5, z6, z7, z8, z9, z10, z11⟩ := cells12 B3b.out
    have f0 := blk_frozen B3b.out 0
    have f1 := blk_frozen B3b.out 1
    have f2 := blk_frozen B3b.out 2
    have f3 := blk_frozen B3b.out 3
    have f4 := blk_frozen B3b.out 4
    have f5 := blk_frozen B3b.out 5
    have f6 := blk_frozen B3b.out 6
    have f7 := blk_frozen B3b.out 7
    have f8 := blk_frozen B3b.out 8
    have f9 := blk_frozen B3b.out 9
    have f10 := blk_frozen B3b.out 10
    have f11 := blk_frozen B3b.out 11
    gi_wp2_with fail
    refine bodyPostM_ret rfl (results_ct rfl _ _ (w.heap.size + 1 + 1) 53 #[.int .i64 0, .int .u8 0, .int .u8 0, .int .u32 0, .int .u8 0, .int .u8 0, .slice none 0 0, .int .u32 0, .slice none 0 0, .int .u8 0, .bool false, .slice none 0 0] (0, 0) _ rfl (blk_put12 B3b.out _ _ _ _ _ _ _ _ _ _ _ _) Try.underlying53 rfl (by kernel_rfl)) ?_
    exact ⟨_, _, _, rfl, Kd.R_nil _ _ _ _ _, Kd.R_nil _ _ _ _ _, Kd.R_nil _ _ _ _ _, below_put12 HBb.out (by omega) _ _ _ _ _ _ _ _ _ _ _ _⟩
  | none =>
    obtain ⟨b, hb, hLL⟩ := Option.bind_eq_some_iff.mp hLL
    by_cases hbt : b = true
    case neg => rw [if_neg hbt] at hLL; cases hLL
    subst hbt
    rw [if_pos rfl] at hLL
    by_cases hlen : l0_5.length ≤ 400000
    case neg => rw [if_neg hlen] at hLL; cases hLL
    rw [if_pos hlen] at hLL
    by_cases hall : l0_5.all (fun x => (inO a1_5 x).isSome) = true
    case neg => rw [if_neg hall] at hLL; cases hLL
    rw [if_pos hall] at hLL
    have HL := Aside0.mk hLL
    obtain ⟨hs, hmap⟩ := lift_sub (fun x => ∃ b, inO a1_5 x = some b) l0_5 (fun x hx => Option.isSome_iff_exists.mp (List.all_eq_true.mp hall x hx))
    have HMAP := Aside0.mk hmap
    have HKR := Aside0.mk hb
    have HLEN := Aside0.mk (show hs.length ≤ 400000 by rw [← hmap, List.length_map] at hlen; exact hlen)
    clear hLL hb hlen hall hmap
    obtain ⟨q0, q1, q2, q3, q4, q5, q6, q7, q8, q9, q10, q11, q12⟩ := cells13 B1b.out
    obtain ⟨s0, s1, s2, s3, s4, s5, s6, s7, s8, s9, s10, s11⟩ := cells12 B2b.out
    obtain ⟨qq0, qq1, qq2, qq3, qq4, qq5, qq6, qq7, qq8, qq9, qq10, qq11, qq12⟩ := cells13 (blk_alloc B1b.out (.cells #[.int .i64 2, .int .u8 a0_0, .int .u8 a1_1, .int .u32 a1_3, .int .u8 a1_4, .int .u8 0, .slice none 0 0, .int .u32 a0_2, .slice none 0 0, .int .u8 a1_4, .bool true, .slice none 0 0] 53))
    obtain ⟨ss0, ss1, ss2, ss3, ss4, ss5, ss6, ss7, ss8, ss9, ss10, ss11⟩ := cells12 (blk_alloc B2b.out (.cells #[.int .i64 2, .int .u8 a0_0, .int .u8 a1_1, .int .u32 a1_3, .int .u8 a1_4, .int .u8 0, .slice none 0 0, .int .u32 a0_2, .slice none 0 0, .int .u8 a1_4, .bool true, .slice none 0 0] 53))
    gi_wp2_with fail
    clear q0 q1 q2 q3 q4 q5 q6 q7 q8 q9 q10 q11 q12 s0 s1 s2 s3 s4 s5 s6 s7 s8 s9 s10 s11
    clear qq0 qq1 qq2 qq3 qq4 qq5 qq6 qq7 qq8 qq9 qq10 qq11 qq12 ss0 ss1 ss2 ss3 ss4 ss5 ss6 ss7 ss8 ss9 ss10 ss11
    refine ⟨trivial, ?_⟩
    refine (callsIn_wide.2 (due_call a0_0 a0_1 a0_2 a0_3 _ _ l0_4 _ _ l0_5 a0_6 a0_7 a0_8 a0_9 a0_10 _ _ l0_11 a0_12 a1_0 a1_1 a1_2 a1_3 a1_4 a1_5 _ _ l1_6 a1_7 _ _ l1_8 a1_9 a1_10 _ _ l1_11 _)).mono ?_
    rintro ev w4 ⟨rfl, hw4⟩
    have B1 := Aside0.mk (show w4.heap[w.heap.size]? = some (.cells #[.int .u8 a0_0, .int .u8 a0_1, .int .u32 a0_2, .int .u32 a0_3, .slice A0_4 l0_4.length c0_4, .slice A0_5 l0_5.length c0_5, .bool a0_6, .int .u32 a0_7, .int .u8 a0_8, .int .u8 a0_9, .int .u32 a0_10, .slice A0_11 l0_11.length c0_11, .int .u32 a0_12] 51 (0, 0)) by rw [hw4]; exact blk_alloc (blk_alloc (blk_alloc B1b.out _) _) _)
    have B2 := Aside0.mk (show w4.heap[w.heap.size + 1]? = some (.cells #[.int .i64 a1_0, .int .u8 a1_1, .int .u8 a1_2, .int .u32 a1_3, .int .u8 a1_4, .int .u8 a1_5, .slice A1_6 l1_6.length c1_6, .int .u32 a1_7, .slice A1_8 l1_8.length c1_8, .int .u8 a1_9, .bool a1_10, .slice A1_11 l1_11.length c1_11] 53 (0, 0)) by rw [hw4]; exact blk_alloc (blk_alloc (blk_alloc B2b.out _) _) _)
    have B3 := Aside0.mk (show w4.heap[w.heap.size + 1 + 1]? = some (.cells #[.int .i64 0, .int .u8 0, .int .u8 0, .int .u32 0, .int .u8 0, .int .u8 0, .slice none 0 0, .int .u32 0, .slice none 0 0, .int .u8 0, .bool false, .slice none 0 0] 53 (0, 0)) by rw [hw4]; exact blk_alloc (blk_alloc (blk_alloc B3b.out _) _) _)
    have BN := Aside0.mk (show w4.heap[w3.heap.size]? = some (.cells #[.int .i64 2, .int .u8 a0_0, .int .u8 a1_1, .int .u32 a1_3, .int .u8 a1_4, .int .u8 0, .slice none 0 0, .int .u32 a0_2, .slice none 0 0, .int .u8 a1_4, .bool true, .slice none 0 0] 53 (0, 0)) by rw [hw4]; exact blk_alloc (blk_alloc (blk_new w3 _) _) _)
    have D1 := Aside0.mk (show w4.heap[w3.heap.size + 1]? = some (.cells #[.int .u8 a0_0, .int .u8 a0_1, .int .u32 a0_2, .int .u32 a0_3, .slice A0_4 l0_4.length c0_4, .slice A0_5 l0_5.length c0_5, .bool a0_6, .int .u32 a0_7, .int .u8 a0_8, .int .u8 a0_9, .int .u32 a0_10, .slice A0_11 l0_11.length c0_11, .int .u32 a0_12] 51 (0, 0)) by rw [hw4]; exact blk_alloc (by simpa using blk_new (w3.alloc (.cells #[.int .i64 2, .int .u8 a0_0, .int .u8 a1_1, .int .u32 a1_3, .int .u8 a1_4, .int .u8 0, .slice none 0 0, .int .u32 a0_2, .slice none 0 0, .int .u8 a1_4, .bool true, .slice none 0 0] 53)) (.cells #[.int .u8 a0_0, .int .u8 a0_1, .int .u32 a0_2, .int .u32 a0_3, .slice A0_4 l0_4.length c0_4, .slice A0_5 l0_5.length c0_5, .bool a0_6, .int .u32 a0_7, .int .u8 a0_8, .int .u8 a0_9, .int .u32 a0_10, .slice A0_11 l0_11.length c0_11, .int .u32 a0_12] 51)) _)
    have D2 := Aside0.mk (show w4.heap[w3.heap.size + 1 + 1]? = some (.cells #[.int .i64 a1_0, .int .u8 a1_1, .int .u8 a1_2, .int .u32 a1_3, .int .u8 a1_4, .int .u8 a1_5, .slice A1_6 l1_6.length c1_6, .int .u32 a1_7, .slice A1_8 l1_8.length c1_8, .int .u8 a1_9, .bool a1_10, .slice A1_11 l1_11.length c1_11] 53 (0, 0)) by rw [hw4]; simpa using blk_new ((w3.alloc (.cells #[.int .i64 2, .int .u8 a0_0, .int .u8 a1_1, .int .u32 a1_3, .int .u8 a1_4, .int .u8 0, .slice none 0 0, .int .u32 a0_2, .slice none 0 0, .int .u8 a1_4, .bool true, .slice none 0 0] 53)).alloc (.cells #[.int .u8 a0_0, .int .u8 a0_1, .int .u32 a0_2, .int .u32 a0_3, .slice A0_4 l0_4.length c0_4, .slice A0_5 l0_5.length c0_5, .bool a0_6, .int .u32 a0_7, .int .u8 a0_8, .int .u8 a0_9, .int .u32 a0_10, .slice A0_11 l0_11.length c0_11, .int .u32 a0_12] 51)) (.cells #[.int .i64 a1_0, .int .u8 a1_1, .int .u8 a1_2, .int .u32 a1_3, .int .u8 a1_4, .int .u8 a1_5, .slice A1_6 l1_6.length c1_6, .int .u32 a1_7, .slice A1_8 l1_8.length c1_8, .int .u8 a1_9, .bool a1_10, .slice A1_11 l1_11.length c1_11] 53))
    have HB := Aside0.mk (show Below w.heap.size w w4 by rw [hw4]; exact ((HBb.out.alloc HBb.out.size _).alloc (by have := HBb.out.size; simp; omega) _).alloc (by have := HBb.out.size; simp; omega) _)
    have hgn : w.heap.size + 1 + 1 < w3.heap.size := blk_lt B3b.out
    clear hw4 B1b B2b B3b HBb
    gi_wp2_with fail
    generalize w3.heap.size = gn at BN D1 D2 hgn ⊢
    have HSQ := Aside0.mk (due_iterG (fun x : { x : S27 // ∃ b, inO a1_5 x = some b } => x.1) k 3 (by omega) w (gn + 1) (gn + 1 + 1) _ _ _ _ _ _ hs l0_5 HMAP.out a1_4 _ _ l1_6 rfl rfl rfl HR5.out HN6.out HD6.out HKR.out w4 HB.out D1.out D2.out)
    have HF := Aside0.mk (show l0_5.filter (dueB a1_4 l1_6) = (hs.filter (fun x => dueB a1_4 l1_6 x.1)).map (fun x => x.1) by rw [← HMAP.out, List.filter_map]; rfl)
    clear HMAP
    rename_i K9 hK9
    have htail : ∀ (W : World) (D : Nat) (v : Value) (nx : Int) (dn : Bool) (L : List S27), w4.heap.size ≤ D → W.heap[D]? = some (.deferred (some [])) → W.heap[gn]? = some (.cells #[.int .i64 2, .int .u8 a0_0, .int .u8 a1_1, .int .u32 a1_3, .int .u8 a1_4, .int .u8 0, .slice none 0 0, .int .u32 a0_2, v, .int .u8 nx, .bool dn, .slice none 0 0] 53 (0, 0)) → Kd.R k27 27 W w.heap.size (fun _ => True) v L → W.heap[w.heap.size]? = some (.cells #[.int .u8 a0_0, .int .u8 a0_1, .int .u32 a0_2, .int .u32 a0_3, .slice A0_4 l0_4.length c0_4, .slice A0_5 l0_5.length c0_5, .bool a0_6, .int .u32 a0_7, .int .u8 a0_8, .int .u8 a0_9, .int .u32 a0_10, .slice A0_11 l0_11.length c0_11, .int .u32 a0_12] 51 (0, 0)) ∧ W.heap[w.heap.size + 1]? = some (.cells #[.int .i64 a1_0, .int .u8 a1_1, .int .u8 a1_2, .int .u32 a1_3, .int .u8 a1_4, .int .u8 a1_5, .slice A1_6 l1_6.length c1_6, .int .u32 a1_7, .slice A1_8 l1_8.length c1_8, .int .u8 a1_9, .bool a1_10, .slice A1_11 l1_11.length c1_11] 53 (0, 0)) ∧ W.heap[w.heap.size + 1 + 1]? = some (.cells #[.int .i64 0, .int .u8 0, .int .u8 0, .int .u32 0, .int .u8 0, .int .u8 0, .slice none 0 0, .int .u32 0, .slice none 0 0, .int .u8 0, .bool false, .slice none 0 0] 53 (0, 0)) ∧ W.heap[gn + 1]? = some (.cells #[.int .u8 a0_0, .int .u8 a0_1, .int .u32 a0_2, .int .u32 a0_3, .slice A0_4 l0_4.length c0_4, .slice A0_5 l0_5.length c0_5, .bool a0_6, .int .u32 a0_7, .int .u8 a0_8, .int .u8 a0_9, .int .u32 a0_10, .slice A0_11 l0_11.length c0_11, .int .u32 a0_12] 51 (0, 0)) ∧ W.heap[gn + 1 + 1]? = some (.cells #[.int .i64 a1_0, .int .u8 a1_1, .int .u8 a1_2, .int .u32 a1_3, .int .u8 a1_4, .int .u8 a1_5, .slice A1_6 l1_6.length c1_6, .int .u32 a1_7, .slice A1_8 l1_8.length c1_8, .int .u8 a1_9, .bool a1_10, .slice A1_11 l1_11.length c1_11] 53 (0, 0)) → Below w.heap.size w W →
        L = ((l0_5.filter (dueB a1_4 l1_6)).take 4).map (ansV a1_5) → nx = nextI a1_4 ((l0_5.filter (dueB a1_4 l1_6)).take 4) → dn = decide ((l0_5.filter (dueB a1_4 l1_6)).length ≤ 4) → K9 { tmps := #[.agg #[.int .u8 a0_0, .int .u8 a0_1, .int .u32 a0_2, .int .u32 a0_3, .slice A0_4 l0_4.length c0_4, .slice A0_5 l0_5.length c0_5, .bool a0_6, .int .u32 a0_7, .int .u8 a0_8, .int .u8 a0_9, .int .u32 a0_10, .slice A0_11 l0_11.length c0_11, .int .u32 a0_12], .agg #[.int .i64 a1_0, .int .u8 a1_1, .int .u8 a1_2, .int .u32 a1_3, .int .u8 a1_4, .int .u8 a1_5, .slice A1_6 l1_6.length c1_6, .int .u32 a1_7, .slice A1_8 l1_8.length c1_8, .int .u8 a1_9, .bool a1_10, .slice A1_11 l1_11.length c1_11], .pointer (some ⟨w.heap.size, 0, none⟩), .pointer (some ⟨w.heap.size + 1, 0, none⟩), .pointer (some ⟨w.heap.size + 1 + 1, 0, none⟩), .nilIface, .nilIface, .pointer (some ⟨gn, 0, none⟩), undef, undef, undef, .agg #[.int .u8 a0_0, .int .u8 a0_1, .int .u32 a0_2, .int .u32 a0_3, .slice A0_4 l0_4.length c0_4, .slice A0_5 l0_5.length c0_5, .bool a0_6, .int .u32 a0_7, .int .u8 a0_8, .int .u8 a0_9, .int .u32 a0_10, .slice A0_11 l0_11.length c0_11, .int .u32 a0_12], .agg #[.int .i64 a1_0, .int .u8 a1_1, .int .u8 a1_2, .int .u32 a1_3, .int .u8 a1_4, .int .u8 a1_5, .slice A1_6 l1_6.length c1_6, .int .u32 a1_7, .slice A1_8 l1_8.length c1_8, .int .u8 a1_9, .bool a1_10, .slice A1_11 l1_11.length c1_11], .nilIface, .nilIface, .bool false, undef, undef, .pointer (some ⟨w.heap.size, 0, none⟩), .int .u8 a0_0, .pointer (some ⟨w.heap.size + 1, 1, none⟩), .int .u8 a1_1, .pointer (some ⟨w.heap.size + 1, 3, none⟩), .int .u32 a1_3, .pointer (some ⟨w.heap.size + 1, 4, none⟩), .int .u8 a1_4, .pointer (some ⟨w.heap.size, 2, none⟩), .int .u32 a0_2, .pointer (some ⟨w.heap.size + 1, 4, none⟩), .int .u8 a1_4, .agg #[.int .i64 2, .int .u8 a0_0, .int .u8 a1_1, .int .u32 a1_3, .int .u8 a1_4, .int .u8 0, .slice none 0 0, .int .u32 a0_2, .slice none 0 0, .int .u8 a1_4, .bool true, .slice none 0 0], .agg #[.int .u8 a0_0, .int .u8 a0_1, .int .u32 a0_2, .int .u32 a0_3, .slice A0_4 l0_4.length c0_4, .slice A0_5 l0_5.length c0_5, .bool a0_6, .int .u32 a0_7, .int .u8 a0_8, .int .u8 a0_9, .int .u32 a0_10, .slice A0_11 l0_11.length c0_11, .int .u32 a0_12], .agg #[.int .i64 a1_0, .int .u8 a1_1, .int .u8 a1_2, .int .u32 a1_3, .int .u8 a1_4, .int .u8 a1_5, .slice A1_6 l1_6.length c1_6, .int .u32 a1_7, .slice A1_8 l1_8.length c1_8, .int .u8 a1_9, .bool a1_10, .slice A1_11 l1_11.length c1_11], .func (.func 67) #[] #[.pointer (some ⟨gn + 1, 0, none⟩), .pointer (some ⟨gn + 1 + 1, 0, none⟩)], undef, undef, undef, undef, undef, undef, undef, undef, undef, undef, undef, undef, undef, undef, undef, undef, undef, undef, undef, undef, undef, undef, undef, undef, undef, undef, undef, undef, undef, undef, undef, undef, undef, undef, undef, undef, undef, undef, undef, undef], defers := [{ target := .collected D, args := #[] }] } W := by
      rintro W D v nx dn L hD hK hn hR ⟨h1, h2, h3, h4, h5⟩ hB eL ex ed
      obtain ⟨Av, cv, rfl⟩ := own_slice hR.2.choose_spec.1
      have hLL := HL.out
      rw [← eL, ← ex, ← ed] at hLL
      clear eL ex ed HL
      have HD := Aside0.mk hD
      have HK := Aside0.mk hK
      have HN := Aside0.mk hn
      have HR := Aside0.mk hR
      have H1 := Aside0.mk h1
      have H2 := Aside0.mk h2
      have H3 := Aside0.mk h3
      have HW := Aside0.mk hB
      clear hD hK hn hR h1 h2 h3 h4 h5 hB
      have hDg : w.heap.size + 1 + 1 < w4.heap.size := blk_lt B3.out
      obtain ⟨s0, s1, s2, s3, s4, s5, s6, s7, s8, s9, s10, s11⟩ := cells12 H2.out
      obtain ⟨n0, n1, n2, n3, n4, n5, n6, n7, n8, n9, n10, n11⟩ := cells12 HN.out
      by_cases hc : 0 < a1_4
      · rw [if_pos hc] at hLL
        have hLL2 := Option.some.inj hLL
        simp only [Prod.mk.injEq] at hLL2
        obtain ⟨rfl, rfl, rfl, rfl, rfl, rfl, rfl, rfl, rfl, rfl, rfl, rfl, rfl⟩ := hLL2
        clear hLL
        have hcb : decide (a1_4 > 0) = true := decide_eq_true hc
        have hcb2 : decide (0 < a1_4) = true := decide_eq_true hc
        clear hc
        obtain ⟨z0, z1, z2, z3, z4, z5, z6, z7, z8, z9, z10, z11⟩ := cells12 H3.out
        have f0 := blk_frozen H3.out 0
        have f1 := blk_frozen H3.out 1
        have f2 := blk_frozen H3.out 2
        have f3 := blk_frozen H3.out 3
        have f4 := blk_frozen H3.out 4
        have f5 := blk_frozen H3.out 5
        have f6 := blk_frozen H3.out 6
        have f7 := blk_frozen H3.out 7
        have f8 := blk_frozen H3.out 8
        have f9 := blk_frozen H3.out 9
        have f10 := blk_frozen H3.out 10
        have f11 := blk_frozen H3.out 11
        apply hK9
        gi_wp2_with fail
        have hk9 := (others_12 W (w.heap.size + 1 + 1) (.int .i64 2) (.int .u8 a0_0) (.int .u8 a1_1) (.int .u32 a1_3) (.int .u8 a1_4) (.int .u8 0) (.slice none 0 0) (.int .u32 a0_2) (.slice Av L.length cv) (.int .u8 nx) (.bool dn) (.slice none 0 0)).same D _ HK.out rfl
        have hb9 := blk_turn (blk_put12 H3.out (.int .i64 2) (.int .u8 a0_0) (.int .u8 a1_1) (.int .u32 a1_3) (.int .u8 a1_4) (.int .u8 0) (.slice none 0 0) (.int .u32 a0_2) (.slice Av L.length cv) (.int .u8 nx) (.bool dn) (.slice none 0 0)) (grownBy_putObj' _ D (.deferred none)) (fun r_ e_ => by cases e_; exact ⟨_, hk9, rfl⟩)
        refine ⟨by simp, .inl ⟨_, _, rfl, run_takeDeferred hk9, ?_⟩⟩
        refine ⟨_, results_ct rfl _ _ (w.heap.size + 1 + 1) 53 #[.int .i64 2, .int .u8 a0_0, .int .u8 a1_1, .int .u32 a1_3, .int .u8 a1_4, .int .u8 0, .slice none 0 0, .int .u32 a0_2, .slice Av L.length cv, .int .u8 nx, .bool dn, .slice none 0 0] (0, 0) _ rfl hb9 Try.underlying53 rfl (by kernel_rfl), ?_⟩
        refine ⟨_, _, _, rfl, ?_, ?_, ?_, ?_⟩
        · exact Kd.R_nil _ _ _ _ _
        · exact Kd.R_mono (R_turn (R_far12 (Kd.R_types HR.out H3.out (by decide)) (fun _ hk_ => hk_.2) (.int .i64 2) (.int .u8 a0_0) (.int .u8 a1_1) (.int .u32 a1_3) (.int .u8 a1_4) (.int .u8 0) (.slice none 0 0) (.int .u32 a0_2) (.slice Av L.length cv) (.int .u8 nx) (.bool dn) (.slice none 0 0)) (grownBy_putObj' _ D _) (fun r_ e_ => by cases e_; exact ⟨_, hk9, rfl⟩)) (fun _ _ => trivial)
        · exact Kd.R_nil _ _ _ _ _
        · exact (below_put12 HW.out (by omega) (.int .i64 2) (.int .u8 a0_0) (.int .u8 a1_1) (.int .u32 a1_3) (.int .u8 a1_4) (.int .u8 0) (.slice none 0 0) (.int .u32 a0_2) (.slice Av L.length cv) (.int .u8 nx) (.bool dn) (.slice none 0 0)).trans (belowK_b (w := w) (Nat.le_refl _) _ D _ _ (by have := HB.out.size; have := HD.out; omega) hk9 rfl rfl)
      · rw [if_neg hc] at hLL
        obtain ⟨⟨lo, eo⟩, ho, hLL⟩ := Option.bind_eq_some_iff.mp hLL
        have HO := Aside0.mk ho
        clear ho
        have HLL := Aside0.mk hLL
        clear hLL
        have hcb : decide (a1_4 > 0) = false := decide_eq_false hc
        have hcb2 : decide (0 < a1_4) = false := decide_eq_false hc
        clear hc
        obtain ⟨q0, q1, q2, q3, q4, q5, q6, q7, q8, q9, q10, q11, q12⟩ := cells13 H1.out
        apply hK9
        gi_wp2_with fail
        refine ⟨trivial, ?_⟩
        refine (callsIn_wide.2 (source_offer.calls k a0_0 a0_1 a0_2 a0_3 _ _ l0_4 _ _ l0_5 a0_6 a0_7 a0_8 a0_9 a0_10 _ _ l0_11 a0_12 a1_0 a1_1 a1_2 a1_3 a1_4 a1_5 _ _ l1_6 a1_7 _ _ l1_8 a1_9 a1_10 _ _ l1_11 lo eo _ (Kd.C_below HR4.out HW.out) HC4.out (Kd.C_below HR5.out HW.out) HC5.out (Kd.C_below HR11.out HW.out) HC11.out (Kd.C_below HN6.out HW.out) HD6.out (Kd.C_below HN8.out HW.out) HD8.out (Kd.C_below HN11.out HW.out) HD11.out HO.out)).mono ?_
        rintro ev Wo ⟨vo, rfl, hRo, hxo⟩
        obtain ⟨Ao, co, rfl⟩ := Kd.R_slice hRo
        have HRo := Aside0.mk (Kd.R_lower hRo HW.out.size)
        have HKo := Aside0.mk (blk_below HK.out hxo)
        have HNo := Aside0.mk (blk_below HN.out hxo)
        have H3o := Aside0.mk (blk_below H3.out hxo)
        have HRe := Aside0.mk (Kd.R_below HR.out hxo)
        have HWo := Aside0.mk (HW.out.trans (hxo.mono HW.out.size))
        clear hxo hRo HK HN H3 HR HW q0 q1 q2 q3 q4 q5 q6 q7 q8 q9 q10 q11 q12 s0 s1 s2 s3 s4 s5 s6 s7 s8 s9 s10 s11 n0 n1 n2 n3 n4 n5 n6 n7 n8 n9 n10 n11 H1 H2 HO
        have hLL := HLL.out
        clear HLL
        obtain ⟨z0, z1, z2, z3, z4, z5, z6, z7, z8, z9, z10, z11⟩ := cells12 H3o.out
        have f0 := blk_frozen H3o.out 0
        have f1 := blk_frozen H3o.out 1
        have f2 := blk_frozen H3o.out 2
        have f3 := blk_frozen H3o.out 3
        have f4 := blk_frozen H3o.out 4
        have f5 := blk_frozen H3o.out 5
        have f6 := blk_frozen H3o.out 6
        have f7 := blk_frozen H3o.out 7
        have f8 := blk_frozen H3o.out 8
        have f9 := blk_frozen H3o.out 9
        have f10 := blk_frozen H3o.out 10
        have f11 := blk_frozen H3o.out 11
        cases eo with
        | some cc =>
          have hLL2 := Option.some.inj hLL
          simp only [Prod.mk.injEq] at hLL2
          obtain ⟨rfl, rfl, rfl, rfl, rfl, rfl, rfl, rfl, rfl, rfl, rfl, rfl, rfl⟩ := hLL2
          clear hLL
          gi_wp2_with fail
          have hk9 := (others_12 Wo (w.heap.size + 1 + 1) (.int .i64 0) (.int .u8 0) (.int .u8 0) (.int .u32 0) (.int .u8 0) (.int .u8 0) (.slice none 0 0) (.int .u32 0) (.slice none 0 0) (.int .u8 0) (.bool false) (.slice none 0 0)).same D _ HKo.out rfl
          have hb9 := blk_turn (blk_put12 H3o.out (.int .i64 0) (.int .u8 0) (.int .u8 0) (.int .u32 0) (.int .u8 0) (.int .u8 0) (.slice none 0 0) (.int .u32 0) (.slice none 0 0) (.int .u8 0) (.bool false) (.slice none 0 0)) (grownBy_putObj' _ D (.deferred none)) (fun r_ e_ => by cases e_; exact ⟨_, hk9, rfl⟩)
          refine ⟨by simp, .inl ⟨_, _, rfl, run_takeDeferred hk9, ?_⟩⟩
          refine ⟨_, results_ct rfl _ _ (w.heap.size + 1 + 1) 53 #[.int .i64 0, .int .u8 0, .int .u8 0, .int .u32 0, .int .u8 0, .int .u8 0, .slice none 0 0, .int .u32 0, .slice none 0 0, .int .u8 0, .bool false, .slice none 0 0] (0, 0) _ rfl hb9 Try.underlying53 rfl (by kernel_rfl), ?_⟩
          refine ⟨_, _, _, rfl, ?_, ?_, ?_, ?_⟩
          · exact Kd.R_nil _ _ _ _ _
          · exact Kd.R_nil _ _ _ _ _
          · exact Kd.R_nil _ _ _ _ _
          · exact (below_put12 HWo.out (by omega) (.int .i64 0) (.int .u8 0) (.int .u8 0) (.int .u32 0) (.int .u8 0) (.int .u8 0) (.slice none 0 0) (.int .u32 0) (.slice none 0 0) (.int .u8 0) (.bool false) (.slice none 0 0)).trans (belowK_b (w := w) (Nat.le_refl _) _ D _ _ (by have := HB.out.size; have := HD.out; omega) hk9 rfl rfl)
        | none =>
          have hLL2 := Option.some.inj hLL
          simp only [Prod.mk.injEq] at hLL2
          obtain ⟨rfl, rfl, rfl, rfl, rfl, rfl, rfl, rfl, rfl, rfl, rfl, rfl, rfl⟩ := hLL2
          clear hLL
          obtain ⟨n0, n1, n2, n3, n4, n5, n6, n7, n8, n9, n10, n11⟩ := cells12 HNo.out
          have g11 := blk_frozen HNo.out 11
          have HNp := Aside0.mk (blk_put HNo.out 11 (.slice Ao lo.length co) rfl)
          have H3p := Aside0.mk (blk_far H3o.out (p := ⟨gn, 11, none⟩) (by show w.heap.size + 1 + 1 ≠ gn; omega) (.slice Ao lo.length co))
          have HKp := Aside0.mk ((KeepsOthers.setCell Wo ⟨gn, 11, none⟩ (.slice Ao lo.length co)).same D _ HKo.out rfl)
          have HWp := Aside0.mk (HWo.out.setCell (p := ⟨gn, 11, none⟩) (by show w.heap.size ≤ gn; omega) (.slice Ao lo.length co))
          have HRp := Aside0.mk (Kd.R_far (Kd.R_types HRo.out HNo.out (by decide)) (p := ⟨gn, 11, none⟩) (fun k_ hk_ => hk_.2) (.slice Ao lo.length co))
          have HRq := Aside0.mk (Kd.R_far (Kd.R_types HRe.out HNo.out (by decide)) (p := ⟨gn, 11, none⟩) (fun k_ hk_ => hk_.2) (.slice Ao lo.length co))
          obtain ⟨m0, m1, m2, m3, m4, m5, m6, m7, m8, m9, m10, m11⟩ := cells12 HNp.out
          obtain ⟨y0, y1, y2, y3, y4, y5, y6, y7, y8, y9, y10, y11⟩ := cells12 H3p.out
          have h0 := blk_frozen H3p.out 0
          have h1 := blk_frozen H3p.out 1
          have h2 := blk_frozen H3p.out 2
          have h3 := blk_frozen H3p.out 3
          have h4 := blk_frozen H3p.out 4
          have h5 := blk_frozen H3p.out 5
          have h6 := blk_frozen H3p.out 6
          have h7 := blk_frozen H3p.out 7
          have h8 := blk_frozen H3p.out 8
          have h9 := blk_frozen H3p.out 9
          have h10 := blk_frozen H3p.out 10
          have h11 := blk_frozen H3p.out 11
          gi_wp2_with fail
          have hk9 := (others_12 (Wo.setCell ⟨gn, 11, none⟩ (.slice Ao lo.length co)) (w.heap.size + 1 + 1) (.int .i64 2) (.int .u8 a0_0) (.int .u8 a1_1) (.int .u32 a1_3) (.int .u8 a1_4) (.int .u8 0) (.slice none 0 0) (.int .u32 a0_2) (.slice Av L.length cv) (.int .u8 nx) (.bool dn) (.slice Ao lo.length co)).same D _ HKp.out rfl
          have hb9 := blk_turn (blk_put12 H3p.out (.int .i64 2) (.int .u8 a0_0) (.int .u8 a1_1) (.int .u32 a1_3) (.int .u8 a1_4) (.int .u8 0) (.slice none 0 0) (.int .u32 a0_2) (.slice Av L.length cv) (.int .u8 nx) (.bool dn) (.slice Ao lo.length co)) (grownBy_putObj' _ D (.deferred none)) (fun r_ e_ => by cases e_; exact ⟨_, hk9, rfl⟩)
          refine ⟨by simp, .inl ⟨_, _, rfl, run_takeDeferred hk9, ?_⟩⟩
          refine ⟨_, results_ct rfl _ _ (w.heap.size + 1 + 1) 53 #[.int .i64 2, .int .u8 a0_0, .int .u8 a1_1, .int .u32 a1_3, .int .u8 a1_4, .int .u8 0, .slice none 0 0, .int .u32 a0_2, .slice Av L.length cv, .int .u8 nx, .bool dn, .slice Ao lo.length co] (0, 0) _ rfl hb9 Try.underlying53 rfl (by kernel_rfl), ?_⟩
          refine ⟨_, _, _, rfl, ?_, ?_, ?_, ?_⟩
          · exact Kd.R_nil _ _ _ _ _
          · exact Kd.R_mono (R_turn (R_far12 (Kd.R_types HRq.out H3p.out (by decide)) (fun _ hk_ => hk_.2) (.int .i64 2) (.int .u8 a0_0) (.int .u8 a1_1) (.int .u32 a1_3) (.int .u8 a1_4) (.int .u8 0) (.slice none 0 0) (.int .u32 a0_2) (.slice Av L.length cv) (.int .u8 nx) (.bool dn) (.slice Ao lo.length co)) (grownBy_putObj' _ D _) (fun r_ e_ => by cases e_; exact ⟨_, hk9, rfl⟩)) (fun _ _ => trivial)
          · exact Kd.R_mono (R_turn (R_far12 (Kd.R_types HRp.out H3p.out (by decide)) (fun _ hk_ => hk_.2) (.int .i64 2) (.int .u8 a0_0) (.int .u8 a1_1) (.int .u32 a1_3) (.int .u8 a1_4) (.int .u8 0) (.slice none 0 0) (.int .u32 a0_2) (.slice Av L.length cv) (.int .u8 nx) (.bool dn) (.slice Ao lo.length co)) (grownBy_putObj' _ D _) (fun r_ e_ => by cases e_; exact ⟨_, hk9, rfl⟩)) (fun _ _ => by simp [Value.ownBlock])
          · exact (below_put12 HWp.out (by omega) (.int .i64 2) (.int .u8 a0_0) (.int .u8 a1_1) (.int .u32 a1_3) (.int .u8 a1_4) (.int .u8 0) (.slice none 0 0) (.int .u32 a0_2) (.slice Av L.length cv) (.int .u8 nx) (.bool dn) (.slice Ao lo.length co)).trans (belowK_b (w := w) (Nat.le_refl _) _ D _ _ (by have := HB.out.size; have := HD.out; omega) hk9 rfl rfl)
    have HTAIL := Aside0.mk htail
    clear htail hK9

    refine wpIn_rangeFunc_ownH rfl (by omega) (gf := 67) (lb := #[.pointer (some ⟨gn + 1, 0, none⟩), .pointer (some ⟨gn + 1 + 1, 0, none⟩)]) rfl trivial (enters_of Try.func67 (by kernel_rfl) rfl)
      HSQ.out (fun h k => h.trans k) (keptIt_b HB.out.size (blk_lt D1.out) (blk_lt D2.out)) (Below.refl _ _) (fun _ => rfl)
      (fun pre W => (pre.length ≤ 4 ∧ (∃ v, W.heap[gn]? = some (.cells #[.int .i64 2, .int .u8 a0_0, .int .u8 a1_1, .int .u32 a1_3, .int .u8 a1_4, .int .u8 0, .slice none 0 0, .int .u32 a0_2, v, .int .u8 (nextI a1_4 (pre.map (fun x => x.1))), .bool true, .slice none 0 0] 53 (0, 0)) ∧ Kd.R k27 27 W w.heap.size (fun _ => True) v (pre.map (fun x => ansV a1_5 x.1))) ∧ W.heap[w.heap.size]? = some (.cells #[.int .u8 a0_0, .int .u8 a0_1, .int .u32 a0_2, .int .u32 a0_3, .slice A0_4 l0_4.length c0_4, .slice A0_5 l0_5.length c0_5, .bool a0_6, .int .u32 a0_7, .int .u8 a0_8, .int .u8 a0_9, .int .u32 a0_10, .slice A0_11 l0_11.length c0_11, .int .u32 a0_12] 51 (0, 0)) ∧ W.heap[w.heap.size + 1]? = some (.cells #[.int .i64 a1_0, .int .u8 a1_1, .int .u8 a1_2, .int .u32 a1_3, .int .u8 a1_4, .int .u8 a1_5, .slice A1_6 l1_6.length c1_6, .int .u32 a1_7, .slice A1_8 l1_8.length c1_8, .int .u8 a1_9, .bool a1_10, .slice A1_11 l1_11.length c1_11] 53 (0, 0)) ∧ W.heap[w.heap.size + 1 + 1]? = some (.cells #[.int .i64 0, .int .u8 0, .int .u8 0, .int .u32 0, .int .u8 0, .int .u8 0, .slice none 0 0, .int .u32 0, .slice none 0 0, .int .u8 0, .bool false, .slice none 0 0] 53 (0, 0)) ∧ W.heap[gn + 1]? = some (.cells #[.int .u8 a0_0, .int .u8 a0_1, .int .u32 a0_2, .int .u32 a0_3, .slice A0_4 l0_4.length c0_4, .slice A0_5 l0_5.length c0_5, .bool a0_6, .int .u32 a0_7, .int .u8 a0_8, .int .u8 a0_9, .int .u32 a0_10, .slice A0_11 l0_11.length c0_11, .int .u32 a0_12] 51 (0, 0)) ∧ W.heap[gn + 1 + 1]? = some (.cells #[.int .i64 a1_0, .int .u8 a1_1, .int .u8 a1_2, .int .u32 a1_3, .int .u8 a1_4, .int .u8 a1_5, .slice A1_6 l1_6.length c1_6, .int .u32 a1_7, .slice A1_8 l1_8.length c1_8, .int .u8 a1_9, .bool a1_10, .slice A1_11 l1_11.length c1_11] 53 (0, 0))) ∧ Below w.heap.size w W)
      (fun c pre W => (c = .exit 0 ∧ ∃ p4 x, pre = p4 ++ [x] ∧ p4.length = 4 ∧ (∃ v, W.heap[gn]? = some (.cells #[.int .i64 2, .int .u8 a0_0, .int .u8 a1_1, .int .u32 a1_3, .int .u8 a1_4, .int .u8 0, .slice none 0 0, .int .u32 a0_2, v, .int .u8 (nextI a1_4 (p4.map (fun x => x.1))), .bool false, .slice none 0 0] 53 (0, 0)) ∧ Kd.R k27 27 W w.heap.size (fun _ => True) v (p4.map (fun x => ansV a1_5 x.1))) ∧ W.heap[w.heap.size]? = some (.cells #[.int .u8 a0_0, .int .u8 a0_1, .int .u32 a0_2, .int .u32 a0_3, .slice A0_4 l0_4.length c0_4, .slice A0_5 l0_5.length c0_5, .bool a0_6, .int .u32 a0_7, .int .u8 a0_8, .int .u8 a0_9, .int .u32 a0_10, .slice A0_11 l0_11.length c0_11, .int .u32 a0_12] 51 (0, 0)) ∧ W.heap[w.heap.size + 1]? = some (.cells #[.int .i64 a1_0, .int .u8 a1_1, .int .u8 a1_2, .int .u32 a1_3, .int .u8 a1_4, .int .u8 a1_5, .slice A1_6 l1_6.length c1_6, .int .u32 a1_7, .slice A1_8 l1_8.length c1_8, .int .u8 a1_9, .bool a1_10, .slice A1_11 l1_11.length c1_11] 53 (0, 0)) ∧ W.heap[w.heap.size + 1 + 1]? = some (.cells #[.int .i64 0, .int .u8 0, .int .u8 0, .int .u32 0, .int .u8 0, .int .u8 0, .slice none 0 0, .int .u32 0, .slice none 0 0, .int .u8 0, .bool false, .slice none 0 0] 53 (0, 0)) ∧ W.heap[gn + 1]? = some (.cells #[.int .u8 a0_0, .int .u8 a0_1, .int .u32 a0_2, .int .u32 a0_3, .slice A0_4 l0_4.length c0_4, .slice A0_5 l0_5.length c0_5, .bool a0_6, .int .u32 a0_7, .int .u8 a0_8, .int .u8 a0_9, .int .u32 a0_10, .slice A0_11 l0_11.length c0_11, .int .u32 a0_12] 51 (0, 0)) ∧ W.heap[gn + 1 + 1]? = some (.cells #[.int .i64 a1_0, .int .u8 a1_1, .int .u8 a1_2, .int .u32 a1_3, .int .u8 a1_4, .int .u8 a1_5, .slice A1_6 l1_6.length c1_6, .int .u32 a1_7, .slice A1_8 l1_8.length c1_8, .int .u8 a1_9, .bool a1_10, .slice A1_11 l1_11.length c1_11] 53 (0, 0))) ∧ Below w.heap.size w W)
      (OwnFrom.and (fun s X Y row hh hg hr => by
        obtain ⟨h0, ⟨v, h1, h2⟩, h3, h4, h5, h6, h7⟩ := hh
        have hr' := fun r e => (hr r e).2
        exact ⟨h0, ⟨v, blk_turn h1 hg hr', R_turn h2 hg hr'⟩, blk_turn h3 hg hr', blk_turn h4 hg hr', blk_turn h5 hg hr', blk_turn h6 hg hr', blk_turn h7 hg hr'⟩) (ownFrom_below (Nat.le_refl _) HB.out.size))
      (fun c => OwnFrom.and (fun s X Y row hh hg hr => by
        obtain ⟨h0, p4, x, e1, e2, ⟨v, h1, h2⟩, h3, h4, h5, h6, h7⟩ := hh
        have hr' := fun r e => (hr r e).2
        exact ⟨h0, p4, x, e1, e2, ⟨v, blk_turn h1 hg hr', R_turn h2 hg hr'⟩, blk_turn h3 hg hr', blk_turn h4 hg hr', blk_turn h5 hg hr', blk_turn h6 hg hr', blk_turn h7 hg hr'⟩) (ownFrom_below (Nat.le_refl _) HB.out.size))
      ⟨⟨Nat.zero_le _, ⟨_, BN.out, Kd.R_nil _ _ _ _ _⟩, B1.out, B2.out, B3.out, D1.out, D2.out⟩, HB.out⟩
      (fun x a' W => ∃ (Bx : Nat) (v : Value) (nx : Int), w.heap.size ≤ Bx ∧ W.heap[Bx]? = some (.cells #[.int .u8 x.1.f0, .int .u8 x.1.f1.f0, .int .u32 x.1.f1.f1, .int .u32 x.1.f1.f2, .int .i64 x.1.f2, .int .u8 x.1.f3, .int .u32 x.1.f4] 27 (0, 0)) ∧ W.heap[gn]? = some (.cells #[.int .i64 2, .int .u8 a0_0, .int .u8 a1_1, .int .u32 a1_3, .int .u8 a1_4, .int .u8 0, .slice none 0 0, .int .u32 a0_2, v, .int .u8 nx, .bool true, .slice none 0 0] 53 (0, 0)) ∧ some Bx ≠ v.ownBlock ∧ a' = { tmps := #[.agg #[.int .u8 a0_0, .int .u8 a0_1, .int .u32 a0_2, .int .u32 a0_3, .slice A0_4 l0_4.length c0_4, .slice A0_5 l0_5.length c0_5, .bool a0_6, .int .u32 a0_7, .int .u8 a0_8, .int .u8 a0_9, .int .u32 a0_10, .slice A0_11 l0_11.length c0_11, .int .u32 a0_12], .agg #[.int .i64 a1_0, .int .u8 a1_1, .int .u8 a1_2, .int .u32 a1_3, .int .u8 a1_4, .int .u8 a1_5, .slice A1_6 l1_6.length c1_6, .int .u32 a1_7, .slice A1_8 l1_8.length c1_8, .int .u8 a1_9, .bool a1_10, .slice A1_11 l1_11.length c1_11], .pointer (some ⟨w.heap.size, 0, none⟩), .pointer (some ⟨w.heap.size + 1, 0, none⟩), .pointer (some ⟨w.heap.size + 1 + 1, 0, none⟩), .nilIface, .nilIface, .pointer (some ⟨gn, 0, none⟩), .pointer (some ⟨Bx, 0, none⟩), undef, undef, .agg #[.int .u8 a0_0, .int .u8 a0_1, .int .u32 a0_2, .int .u32 a0_3, .slice A0_4 l0_4.length c0_4, .slice A0_5 l0_5.length c0_5, .bool a0_6, .int .u32 a0_7, .int .u8 a0_8, .int .u8 a0_9, .int .u32 a0_10, .slice A0_11 l0_11.length c0_11, .int .u32 a0_12], .agg #[.int .i64 a1_0, .int .u8 a1_1, .int .u8 a1_2, .int .u32 a1_3, .int .u8 a1_4, .int .u8 a1_5, .slice A1_6 l1_6.length c1_6, .int .u32 a1_7, .slice A1_8 l1_8.length c1_8, .int .u8 a1_9, .bool a1_10, .slice A1_11 l1_11.length c1_11], .nilIface, .nilIface, .bool false, undef, undef, .pointer (some ⟨w.heap.size, 0, none⟩), .int .u8 a0_0, .pointer (some ⟨w.heap.size + 1, 1, none⟩), .int .u8 a1_1, .pointer (some ⟨w.heap.size + 1, 3, none⟩), .int .u32 a1_3, .pointer (some ⟨w.heap.size + 1, 4, none⟩), .int .u8 a1_4, .pointer (some ⟨w.heap.size, 2, none⟩), .int .u32 a0_2, .pointer (some ⟨w.heap.size + 1, 4, none⟩), .int .u8 a1_4, .agg #[.int .i64 2, .int .u8 a0_0, .int .u8 a1_1, .int .u32 a1_3, .int .u8 a1_4, .int .u8 0, .slice none 0 0, .int .u32 a0_2, .slice none 0 0, .int .u8 a1_4, .bool true, .slice none 0 0], .agg #[.int .u8 a0_0, .int .u8 a0_1, .int .u32 a0_2, .int .u32 a0_3, .slice A0_4 l0_4.length c0_4, .slice A0_5 l0_5.length c0_5, .bool a0_6, .int .u32 a0_7, .int .u8 a0_8, .int .u8 a0_9, .int .u32 a0_10, .slice A0_11 l0_11.length c0_11, .int .u32 a0_12], .agg #[.int .i64 a1_0, .int .u8 a1_1, .int .u8 a1_2, .int .u32 a1_3, .int .u8 a1_4, .int .u8 a1_5, .slice A1_6 l1_6.length c1_6, .int .u32 a1_7, .slice A1_8 l1_8.length c1_8, .int .u8 a1_9, .bool a1_10, .slice A1_11 l1_11.length c1_11], .func (.func 67) #[] #[.pointer (some ⟨gn + 1, 0, none⟩), .pointer (some ⟨gn + 1 + 1, 0, none⟩)], .agg #[.int .u8 x.1.f0, .int .u8 x.1.f1.f0, .int .u32 x.1.f1.f1, .int .u32 x.1.f1.f2, .int .i64 x.1.f2, .int .u8 x.1.f3, .int .u32 x.1.f4], undef, undef, undef, undef, undef, undef, undef, undef, undef, undef, undef, undef, undef, undef, undef, undef, undef, undef, undef, undef, undef, undef, undef, undef, undef, undef, undef, undef, undef, undef, undef, undef, undef, undef, undef, undef, undef, undef, undef], defers := [] })
      (fun x a' s X Y row hh hg hr => by
        obtain ⟨Bx, v, nx, h1, h2, h3, h4, h5⟩ := hh
        exact ⟨Bx, v, nx, h1, blk_turn h2 hg (fun r e => (hr r e).2), blk_turn h3 hg (fun r e => (hr r e).2), h4, h5⟩)
      ?assign ?body ?done ?stop
    case assign =>
      rintro l pre x W K ⟨⟨h0, ⟨v, h1, h2⟩, h3, h4, h5, h6, h7⟩, hB⟩ hK
      dsimp only [encE]
      gi_wp2
      have hsW := hB.size
      exact hK _ _ ((KeepsOthers.alloc _ _).from _) ⟨(Below.refl _ W).alloc hsW _, fun o h => blk_alloc h _, fun o h => blk_alloc h _⟩ ⟨⟨h0, ⟨v, blk_alloc h1 _, Kd.R_below h2 ((Below.refl _ W).alloc (Nat.le_refl _) _)⟩, blk_alloc h3 _, blk_alloc h4 _, blk_alloc h5 _, blk_alloc h6 _, blk_alloc h7 _⟩, hB.alloc hsW _⟩ ⟨W.heap.size, v, _, hsW, blk_new W _, blk_alloc h1 _, fun e => absurd (own_lt h2.2.choose_spec.1 _ e.symm) (Nat.lt_irrefl _), rfl⟩
    case body =>
      rintro l pre x a' W hl hr ⟨⟨hp4, ⟨v, hn, hR⟩, h3, h4, h5, h6, h7⟩, hB⟩ ⟨Bx, v2, nx2, hBx, bX, hn2, hne, rfl⟩ hlt
      refine wpIn_hide (fun QQ HQQ => ?_)
      have HPN := Aside0.mk (fun (c9 : List PanicEntry) (a9 : Act) (d9 : Option Tmp) (v9 : Value) (w9 : World) (h9 : Exit.inBlock 1 QQ (.panic c9) (a9.put d9 v9) w9) => show Exit.inBlock 1 QQ (.panic c9) a9 w9 by
        have h8 : QQ (.panic c9) (a9.put d9 v9) w9 := h9
        rw [← HQQ.out] at h8
        exact h8.elim)
      have hsW := hB.size
      obtain rfl : v = v2 := by
        have hh := hn.symm.trans hn2
        simp only [Option.some.injEq, Obj.cells.injEq, Array.mk.injEq, List.cons.injEq, and_true, true_and] at hh
        exact hh.1
      clear hn2
      obtain ⟨Av, cv, hv⟩ := own_slice hR.2.choose_spec.1
      have hv' : v = .slice Av pre.length cv := by rw [hv]; simp
      subst hv'
      clear hv
      obtain ⟨n0, n1, n2, n3, n4, n5, n6, n7, n8, n9, n10, n11⟩ := cells12 hn
      have z10 := blk_frozen hn 10
      have z8 := blk_frozen hn 8
      have z9 := blk_frozen hn 9
      have e1 : gn ≠ Bx := blk_ne hn bX (by decide)
      have HR := Aside0.mk hR
      have HNN := Aside0.mk hn
      have HX := Aside0.mk bX
      have G1 := Aside0.mk h3
      have G2 := Aside0.mk h4
      have G3 := Aside0.mk h5
      have G4 := Aside0.mk h6
      have G5 := Aside0.mk h7
      have HBW := Aside0.mk hB
      have HNE := Aside0.mk hne
      clear hR hn bX h3 h4 h5 h6 h7 hB hne
      by_cases hp : pre.length = 4
      · have hq : ((pre.length : Int) == 4) = true := by rw [hp]; rfl
        have hq2 : (pre.length == 4) = true := by rw [hp]; rfl
        have HP := Aside0.mk hp
        clear hp
        gi_wp2_with fail
        rw [← HQQ.out]
        have hfar : ∀ (g : Nat) (c : Array Value) (t : TypeId), W.heap[g]? = some (.cells c t (0, 0)) → g ≠ gn → (W.setCell ⟨gn, 10, none⟩ (.bool false)).heap[g]? = some (.cells c t (0, 0)) := fun g c t h hne => blk_far h hne _
        have hlo : w.heap.size ≤ gn := by omega
        exact ⟨(KeepsOthers.setCell _ _ _).from _, ⟨rfl, pre, x, rfl, HP.out, ⟨_, blk_put HNN.out 10 _ rfl, Kd.R_mono (Kd.R_far (Kd.R_types HR.out HNN.out (by decide)) (p := ⟨gn, 10, none⟩) (fun k hk => hk.2) _) (fun _ hk => hk.1)⟩, hfar _ _ _ G1.out (by omega), hfar _ _ _ G2.out (by omega), hfar _ _ _ G3.out (by omega), hfar _ _ _ G4.out (by omega), hfar _ _ _ G5.out (by omega)⟩, HBW.out.setCell (p := ⟨gn, 10, none⟩) hlo _⟩
      · have hq : ((pre.length : Int) == 4) = false := by rw [beq_eq_false_iff_ne]; omega
        have hq2 : (pre.length == 4) = false := by rw [beq_eq_false_iff_ne]; exact hp
        have HP := Aside0.mk (show pre.length < 4 by omega)
        clear hp
        obtain ⟨s0, s1, s2, s3, s4, s5, s6, s7, s8, s9, s10, s11⟩ := cells12 G2.out
        obtain ⟨bb, hin⟩ := x.2
        have HIN := Aside0.mk hin
        clear hin
        obtain ⟨x0, x1, x2, x3, x4, x5, x6⟩ := cells7 HX.out
        gi_wp2_with fail
        refine ⟨trivial, ?_⟩
        refine (CallsIn.inRound l (callsIn_wide.2 (item_In.calls x.1.f0 x.1.f1.f0 x.1.f1.f1 x.1.f1.f2 x.1.f2 x.1.f3 x.1.f4 a1_5 bb _ HIN.out))).mono ?_
        rintro ev Wa ⟨rfl, hxa⟩
        clear n0 n1 n2 n3 n4 n5 n6 n7 n8 n9 n10 n11 z8 z9 z10 s0 s1 s2 s3 s4 s5 s6 s7 s8 s9 s10 s11 x0 x1 x2 x3 x4 x5 x6
        have HRa := Aside0.mk (Kd.R_below HR.out hxa)
        have HNa := Aside0.mk (blk_below HNN.out hxa)
        have HXa := Aside0.mk (blk_below HX.out hxa)
        have G1a := Aside0.mk (blk_below G1.out hxa)
        have G2a := Aside0.mk (blk_below G2.out hxa)
        have G3a := Aside0.mk (blk_below G3.out hxa)
        have G4a := Aside0.mk (blk_below G4.out hxa)
        have G5a := Aside0.mk (blk_below G5.out hxa)
        have HBWa := Aside0.mk (hxa.mono hsW)
        have HKO := Aside0.mk (KeepsOthers.of_grownBy (grown_of_below hxa none) (fun j o e => by cases e))
        have GW4 := Aside0.mk G4.out
        have GW5 := Aside0.mk G5.out
        clear hxa HR HNN HX G1 G2 G3 G4 G5
        cases bb with
        | true =>
          obtain ⟨n0, n1, n2, n3, n4, n5, n6, n7, n8, n9, n10, n11⟩ := cells12 HNa.out
          have z8 := blk_frozen HNa.out 8
          have z9 := blk_frozen HNa.out 9
          obtain ⟨x0, x1, x2, x3, x4, x5, x6⟩ := cells7 HXa.out
          gi_wp2_with fail
          clear n0 n1 n2 n3 n4 n5 n6 n7 n8 n9 n10 n11 z8 z9 x0 x1 x2 x3 x4 x5 x6
          have hlo : w.heap.size ≤ gn := by omega
          have HBc := Aside0.mk (HBW.out.trans HBWa.out)
          have x0d := (blk_cell HXa.out 0).trans (show _ = some (Value.int .u8 x.1.f0) from rfl)
          refine region_in (by kernel_rfl) ?hq_20 (by kernel_rfl) ?_
          case hq_20 =>
            rintro ⟨a9, w9, h9⟩
            have h8 : QQ .outgrown a9 w9 := h9
            rw [← HQQ.out] at h8
            exact h8
          refine wpAny_of_held (S := fun W' => W'.cell? ⟨Bx, 0, none⟩ = some (.int .u8 x.1.f0) ∧ W'.cell? ⟨Bx, 1, none⟩ = some (.int .u8 x.1.f1.f0) ∧ W'.cell? ⟨Bx, 2, none⟩ = some (.int .u32 x.1.f1.f1) ∧ W'.cell? ⟨Bx, 3, none⟩ = some (.int .u32 x.1.f1.f2) ∧ W'.cell? ⟨Bx, 4, none⟩ = some (.int .i64 x.1.f2) ∧ W'.cell? ⟨Bx, 5, none⟩ = some (.int .u8 x.1.f3) ∧ W'.cell? ⟨Bx, 6, none⟩ = some (.int .u32 x.1.f4)) _ _ _ _ ?_
          have HSX := fun (W' : World) (h : W'.heap[Bx]? = some (.cells #[.int .u8 x.1.f0, .int .u8 x.1.f1.f0, .int .u32 x.1.f1.f1, .int .u32 x.1.f1.f2, .int .i64 x.1.f2, .int .u8 x.1.f3, .int .u32 x.1.f4] 27 (0, 0))) => cells7 h
          have hS0 := HSX (Wa.drewN 1) (blk_drewN HXa.out 1)
          refine wpAnyH_take (i := 0) (v := ?v0_11) rfl (by kernel_rfl) (by kernel_rfl) (by kernel_rfl) (fun c9 a9 w9 h9 => HPN.out c9 a9 _ _ w9 h9) (Or.inl ⟨by rfl, ?y0_11⟩) hS0 ?r0_11
          case y0_11 =>
            rintro w' ⟨y0, y1, y2, y3, y4, y5, y6⟩
            go_simp
            try with_reducible rfl
          try simp only [Act.put, List.setIfInBounds_toArray, List.set_cons_zero, List.set_cons_succ]
          refine wpAnyH_take (i := 2) (v := ?v2_12) rfl (by kernel_rfl) (by kernel_rfl) (by kernel_rfl) (fun c9 a9 w9 h9 => HPN.out c9 a9 _ _ w9 h9) (Or.inl ⟨by rfl, ?y2_12⟩) hS0 ?r2_12
          case y2_12 =>
            rintro w' ⟨y0, y1, y2, y3, y4, y5, y6⟩
            go_simp
            try with_reducible rfl
          try simp only [Act.put, List.setIfInBounds_toArray, List.set_cons_zero, List.set_cons_succ]
          refine wpAnyH_take (i := 5) (v := ?v5_13) rfl (by kernel_rfl) (by kernel_rfl) (by kernel_rfl) (fun c9 a9 w9 h9 => HPN.out c9 a9 _ _ w9 h9) (Or.inl ⟨by rfl, ?y5_13⟩) hS0 ?r5_13
          case y5_13 =>
            rintro w' ⟨y0, y1, y2, y3, y4, y5, y6⟩
            go_simp
            try with_reducible rfl
          try simp only [Act.put, List.setIfInBounds_toArray, List.set_cons_zero, List.set_cons_succ]
          refine wpAnyH_take (i := 6) (v := ?v6_14) rfl (by kernel_rfl) (by kernel_rfl) (by kernel_rfl) (fun c9 a9 w9 h9 => HPN.out c9 a9 _ _ w9 h9) (Or.inl ⟨by rfl, ?y6_14⟩) hS0 ?r6_14
          case y6_14 =>
            rintro w' ⟨y0, y1, y2, y3, y4, y5, y6⟩
            go_simp
            try with_reducible rfl
          try simp only [Act.put, List.setIfInBounds_toArray, List.set_cons_zero, List.set_cons_succ]
          refine wpAnyH_take (i := 7) (v := ?v7_15) rfl (by kernel_rfl) (by kernel_rfl) (by kernel_rfl) (fun c9 a9 w9 h9 => HPN.out c9 a9 _ _ w9 h9) (Or.inl ⟨by rfl, ?y7_15⟩) hS0 ?r7_15
          case y7_15 =>
            rintro w' ⟨y0, y1, y2, y3, y4, y5, y6⟩
            go_simp
            try with_reducible rfl
          try simp only [Act.put, List.setIfInBounds_toArray, List.set_cons_zero, List.set_cons_succ]
          refine wpAnyH_ready (rs := [1, 3]) (by kernel_rfl) (by simp) ?_
          refine AllReadyH.cons rfl (fun K hK => ?g1_20) (AllReadyH.cons rfl (fun K hK => ?g2_20) AllReadyH.nil)
          case g1_20 =>
            have n8 := (blk_cell (blk_drewN HNa.out 1) 8).trans (show _ = some (Value.slice Av pre.length cv) from rfl)
            go_simp
            refine Shut.out hK _ _ ?_ (fun _ => ?_)
            · exact HSX _ (blk_drewN HXa.out 1)
            clear hK K n8
            try simp only [Act.put, List.setIfInBounds_toArray, List.set_cons_zero, List.set_cons_succ]
            refine wpAnyH_ready (rs := [3]) (by kernel_rfl) (by simp) ?_
            refine AllReadyH.cons rfl (fun K hK => ?_) AllReadyH.nil
            go_simp
            refine Shut.out hK _ _ ?_ (fun _ => ?_)
            · exact HSX _ (blk_alloc (blk_drewN HXa.out 1) _)
            clear hK K
            try simp only [Act.put, List.setIfInBounds_toArray, List.set_cons_zero, List.set_cons_succ]
            refine wpAnyH_ready (rs := [4]) (by kernel_rfl) (by simp) ?_
            refine AllReadyH.cons rfl (fun K hK => ?_) AllReadyH.nil
            have hRd : Kd.R k27 27 (Wa.drewN 1) w.heap.size (fun _ => True) (.slice Av pre.length cv) (pre.map (fun x => ansV a1_5 x.1)) := Kd.R_step HRa.out (fun _ _ _ => rfl)
            refine Kd.R_append_step k27 (w0 := w) (W := Wa.drewN 1) w.heap.size rfl _ _ 22 27 _ 32 rfl Try.underlying22 info27 rfl (by decide) (by decide) (.slice Av pre.length cv) (pre.map (fun x => ansV a1_5 x.1)) (x.1) [.int .u8 x.1.f0, .int .u8 x.1.f1.f0, .int .u32 x.1.f1.f1, .int .u32 x.1.f1.f2, .int .i64 x.1.f2, .int .u8 x.1.f3, .int .u32 x.1.f4] (fun _ => True) (fun _ => False) rfl rfl (k27_mkM _ _ _ _) (fun _ h => h.elim) (fun _ _ => trivial) hRd (pw_below_drewN HBc.out 1) HBc.out.size (by have := HP.out; rw [List.length_map]; omega) ?_
            intro v1 w1 hR1 hB1 hg1 hat1
            obtain ⟨A1, c1, hv1⟩ := own_slice hR1.2.choose_spec.1
            have hv1' : v1 = .slice A1 (pre.length + 1) c1 := by rw [hv1]; simp
            subst hv1'
            clear hv1
            have hn1 := blk_grown (blk_drewN HNa.out 1) hg1 (own_cell_ne (blk_drewN HNa.out 1) hRd.2.choose_spec.1 (by decide))
            have hx1 := blk_grown (blk_drewN HXa.out 1) hg1 HNE.out
            have HG1 := Aside0.mk (blk_grown (blk_drewN G1a.out 1) hg1 (own_cell_ne (blk_drewN G1a.out 1) hRd.2.choose_spec.1 (by decide)))
            have HG2 := Aside0.mk (blk_grown (blk_drewN G2a.out 1) hg1 (own_cell_ne (blk_drewN G2a.out 1) hRd.2.choose_spec.1 (by decide)))
            have HG3 := Aside0.mk (blk_grown (blk_drewN G3a.out 1) hg1 (own_cell_ne (blk_drewN G3a.out 1) hRd.2.choose_spec.1 (by decide)))
            have HG4 := Aside0.mk (blk_grown (blk_drewN G4a.out 1) hg1 (own_cell_ne (blk_drewN G4a.out 1) hRd.2.choose_spec.1 (by decide)))
            have HG5 := Aside0.mk (blk_grown (blk_drewN G5a.out 1) hg1 (own_cell_ne (blk_drewN G5a.out 1) hRd.2.choose_spec.1 (by decide)))
            have HN1 := Aside0.mk hn1
            have HX1 := Aside0.mk hx1
            have HR1 := Aside0.mk hR1
            have HGR := Aside0.mk hg1
            have HRD := Aside0.mk hRd
            clear hn1 hx1 hR1 hg1 hat1 hB1 hRd
            refine Shut.out hK _ _ ?_ (fun _ => ?_)
            · exact HSX _ HX1.out
            clear hK K
            try simp only [Act.put, List.setIfInBounds_toArray, List.set_cons_zero, List.set_cons_succ]
            refine wpAnyH_take (i := 8) (v := ?v8_16) rfl (by kernel_rfl) (by kernel_rfl) (by kernel_rfl) (fun c9 a9 w9 h9 => HPN.out c9 a9 _ _ w9 h9) (Or.inl ⟨by rfl, ?y8_16⟩) (HSX _ HX1.out) ?r8_16
            case y8_16 =>
              intro w' hw9
              go_simp
              try with_reducible rfl
            try simp only [Act.put, List.setIfInBounds_toArray, List.set_cons_zero, List.set_cons_succ]
            refine wpAnyH_ready (rs := [9]) (by kernel_rfl) (by simp) ?_
            refine AllReadyH.cons rfl (fun K hK => ?_) AllReadyH.nil
            have z8 := blk_frozen HN1.out 8
            have n8 := (blk_cell HN1.out 8).trans (show _ = some (Value.slice Av pre.length cv) from rfl)
            go_simp
            refine Shut.out hK _ _ ?_ (fun _ => ?_)
            · exact HSX _ (blk_far HX1.out (by show Bx ≠ gn; omega) _)
            clear hK K z8 n8
            try simp only [Act.put, List.setIfInBounds_toArray, List.set_cons_zero, List.set_cons_succ]
            have HN2 := Aside0.mk (blk_put HN1.out 8 (.slice A1 (pre.length + 1) c1) rfl)
            refine wpAnyH_take (i := 10) (v := ?v10_17) rfl (by kernel_rfl) (by kernel_rfl) (by kernel_rfl) (fun c9 a9 w9 h9 => HPN.out c9 a9 _ _ w9 h9) (Or.inl ⟨by rfl, ?y10_17⟩) (HSX _ (blk_far HX1.out (by show Bx ≠ gn; omega) _)) ?r10_17
            case y10_17 =>
              intro w' hw9
              go_simp
              try with_reducible rfl
            try simp only [Act.put, List.setIfInBounds_toArray, List.set_cons_zero, List.set_cons_succ]
            refine wpAnyH_ready (rs := [11]) (by kernel_rfl) (by simp) ?_
            refine AllReadyH.cons rfl (fun K hK => ?_) AllReadyH.nil
            have z9 := blk_frozen HN2.out 9
            have n9 := (blk_cell HN2.out 9).trans (show _ = some (Value.int .u8 _) from rfl)
            go_simp
            refine Shut.out hK _ _ ?_ (fun _ => ?_)
            · exact HSX _ (blk_far (blk_far HX1.out (by show Bx ≠ gn; omega) _) (by show Bx ≠ gn; omega) _)
            clear hK K z9 n9
            try simp only [Act.put, List.setIfInBounds_toArray, List.set_cons_zero, List.set_cons_succ]
            refine wpAnyH_done (by kernel_rfl) ?_ _
            show QQ .normal _ _
            rw [← HQQ.out]
            have HN3 := Aside0.mk (blk_put HN2.out 9 (.int .u8 (IntKind.u8.wrap (x.1.f0 + 1))) rfl)
            have hnx : IntKind.u8.wrap (x.1.f0 + 1) = nextI a1_4 ((pre ++ [x]).map (fun x => x.1)) := by
              rw [List.map_append, List.map_cons, List.map_nil, nextI_snoc]
              skip
              rfl
            have hmp : (pre ++ [x]).map (fun x => ansV a1_5 x.1) = pre.map (fun x => ansV a1_5 x.1) ++ [x.1] := by
              rw [List.map_append, List.map_cons, List.map_nil]
              unfold ansV
              rw [if_pos HIN.out]
            have hR3 := Kd.R_mono (Kd.R_far (Kd.R_far (Kd.R_types HR1.out HN1.out (by decide)) (p := ⟨gn, 8, none⟩) (fun k hk => hk.2) (.slice A1 (pre.length + 1) c1)) (p := ⟨gn, 9, none⟩) (fun k hk => hk.2) (.int .u8 (IntKind.u8.wrap (x.1.f0 + 1)))) (fun _ hk => hk.1)
            have hbs : ∀ j, (Value.slice Av pre.length cv).ownBlock = some j → w.heap.size ≤ j := fun j e => Kd.R_base HRD.out j e
            have hcs : ∀ (j : Nat) (o : Obj), (Value.slice Av pre.length cv).ownBlock = some j → (Wa.drewN 1).heap[j]? = some o → o.isCells = true := fun j o e ho => by
              obtain ⟨cells, hc⟩ := own_typed HRD.out.2.choose_spec.1 j e
              rw [hc] at ho
              cases ho
              rfl
            have hbel : Below w.heap.size W ((w1.setCell ⟨gn, 8, none⟩ (.slice A1 (pre.length + 1) c1)).setCell ⟨gn, 9, none⟩ (.int .u8 (IntKind.u8.wrap (x.1.f0 + 1)))) := (((pw_below_drewN HBWa.out 1).grown HGR.out (HBc.out.size) hbs).setCell (p := ⟨gn, 8, none⟩) hlo _).setCell (p := ⟨gn, 9, none⟩) hlo _
            have hko := (((HKO.out.trans (⟨Nat.le_refl _, fun _ _ h _ => h⟩ : KeepsOthers Wa (Wa.drewN 1))).trans (KeepsOthers.of_grownBy HGR.out hcs)).trans (KeepsOthers.setCell _ ⟨gn, 8, none⟩ (.slice A1 (pre.length + 1) c1))).trans (KeepsOthers.setCell _ ⟨gn, 9, none⟩ (.int .u8 (IntKind.u8.wrap (x.1.f0 + 1))))
            have hfr : ∀ (g : Nat) (c : Array Value) (t : TypeId), w1.heap[g]? = some (.cells c t (0, 0)) → g ≠ gn → ((w1.setCell ⟨gn, 8, none⟩ (.slice A1 (pre.length + 1) c1)).setCell ⟨gn, 9, none⟩ (.int .u8 (IntKind.u8.wrap (x.1.f0 + 1)))).heap[g]? = some (.cells c t (0, 0)) := fun g c t h hne => blk_far (blk_far h hne _) hne _
            have g4 := hfr _ _ _ HG4.out (by omega)
            have g5 := hfr _ _ _ HG5.out (by omega)
            have hfin : KeepsFrom w4.heap.size W ((w1.setCell ⟨gn, 8, none⟩ (.slice A1 (pre.length + 1) c1)).setCell ⟨gn, 9, none⟩ (.int .u8 (IntKind.u8.wrap (x.1.f0 + 1)))) ∧ KeptIt w.heap.size (gn + 1) (gn + 1 + 1) W ((w1.setCell ⟨gn, 8, none⟩ (.slice A1 (pre.length + 1) c1)).setCell ⟨gn, 9, none⟩ (.int .u8 (IntKind.u8.wrap (x.1.f0 + 1)))) := ⟨hko.from _, hbel, fun o ho => by rw [GW4.out] at ho; cases ho; exact g4, fun o ho => by rw [GW5.out] at ho; cases ho; exact g5⟩
            have HN4 := HN3.out
            rw [hnx] at HN4 hR3 hbel g4 g5 hfr hfin
            rw [hnx]
            refine ⟨hfin.1, hfin.2, ⟨?_, ⟨_, HN4, ?_⟩, hfr _ _ _ HG1.out (by omega), hfr _ _ _ HG2.out (by omega), hfr _ _ _ HG3.out (by omega), g4, g5⟩, HBW.out.trans hbel⟩
            · have := HP.out; simp; omega
            · rw [hmp]; exact hR3
          case g2_20 =>
            go_simp
            refine Shut.out hK _ _ ?_ (fun _ => ?_)
            · exact HSX _ (blk_alloc (blk_drewN HXa.out 1) _)
            clear hK K
            try simp only [Act.put, List.setIfInBounds_toArray, List.set_cons_zero, List.set_cons_succ]
            refine wpAnyH_ready (rs := [1]) (by kernel_rfl) (by simp) ?_
            refine AllReadyH.cons rfl (fun K hK => ?_) AllReadyH.nil
            have n8 := (blk_cell (blk_alloc (blk_drewN HNa.out 1) (.cells #[.int .u8 x.1.f0, .int .u8 x.1.f1.f0, .int .u32 x.1.f1.f1, .int .u32 x.1.f1.f2, .int .i64 x.1.f2, .int .u8 x.1.f3, .int .u32 x.1.f4] 27)) 8).trans (show _ = some (Value.slice Av pre.length cv) from rfl)
            go_simp
            refine Shut.out hK _ _ ?_ (fun _ => ?_)
            · exact HSX _ (blk_alloc (blk_drewN HXa.out 1) (.cells #[.int .u8 x.1.f0, .int .u8 x.1.f1.f0, .int .u32 x.1.f1.f1, .int .u32 x.1.f1.f2, .int .i64 x.1.f2, .int .u8 x.1.f3, .int .u32 x.1.f4] 27))
            clear hK K n8
            try simp only [Act.put, List.setIfInBounds_toArray, List.set_cons_zero, List.set_cons_succ]
            refine wpAnyH_ready (rs := [4]) (by kernel_rfl) (by simp) ?_
            refine AllReadyH.cons rfl (fun K hK => ?_) AllReadyH.nil
            have hRd : Kd.R k27 27 (Wa.drewN 1) w.heap.size (fun _ => True) (.slice Av pre.length cv) (pre.map (fun x => ansV a1_5 x.1)) := Kd.R_step HRa.out (fun _ _ _ => rfl)
            refine Kd.R_append_step k27 (w0 := w) (W := Wa.drewN 1) w.heap.size rfl _ _ 22 27 _ 32 rfl Try.underlying22 info27 rfl (by decide) (by decide) (.slice Av pre.length cv) (pre.map (fun x => ansV a1_5 x.1)) (x.1) [.int .u8 x.1.f0, .int .u8 x.1.f1.f0, .int .u32 x.1.f1.f1, .int .u32 x.1.f1.f2, .int .i64 x.1.f2, .int .u8 x.1.f3, .int .u32 x.1.f4] (fun _ => True) (fun _ => False) rfl rfl (k27_mkM _ _ _ _) (fun _ h => h.elim) (fun _ _ => trivial) hRd (pw_below_drewN HBc.out 1) HBc.out.size (by have := HP.out; rw [List.length_map]; omega) ?_
            intro v1 w1 hR1 hB1 hg1 hat1
            obtain ⟨A1, c1, hv1⟩ := own_slice hR1.2.choose_spec.1
            have hv1' : v1 = .slice A1 (pre.length + 1) c1 := by rw [hv1]; simp
            subst hv1'
            clear hv1
            have hn1 := blk_grown (blk_drewN HNa.out 1) hg1 (own_cell_ne (blk_drewN HNa.out 1) hRd.2.choose_spec.1 (by decide))
            have hx1 := blk_grown (blk_drewN HXa.out 1) hg1 HNE.out
            have HG1 := Aside0.mk (blk_grown (blk_drewN G1a.out 1) hg1 (own_cell_ne (blk_drewN G1a.out 1) hRd.2.choose_spec.1 (by decide)))
            have HG2 := Aside0.mk (blk_grown (blk_drewN G2a.out 1) hg1 (own_cell_ne (blk_drewN G2a.out 1) hRd.2.choose_spec.1 (by decide)))
            have HG3 := Aside0.mk (blk_grown (blk_drewN G3a.out 1) hg1 (own_cell_ne (blk_drewN G3a.out 1) hRd.2.choose_spec.1 (by decide)))
            have HG4 := Aside0.mk (blk_grown (blk_drewN G4a.out 1) hg1 (own_cell_ne (blk_drewN G4a.out 1) hRd.2.choose_spec.1 (by decide)))
            have HG5 := Aside0.mk (blk_grown (blk_drewN G5a.out 1) hg1 (own_cell_ne (blk_drewN G5a.out 1) hRd.2.choose_spec.1 (by decide)))
            have HN1 := Aside0.mk hn1
            have HX1 := Aside0.mk hx1
            have HR1 := Aside0.mk hR1
            have HGR := Aside0.mk hg1
            have HRD := Aside0.mk hRd
            clear hn1 hx1 hR1 hg1 hat1 hB1 hRd
            refine Shut.out hK _ _ ?_ (fun _ => ?_)
            · exact HSX _ HX1.out
            clear hK K
            try simp only [Act.put, List.setIfInBounds_toArray, List.set_cons_zero, List.set_cons_succ]
            refine wpAnyH_take (i := 8) (v := ?v8_18) rfl (by kernel_rfl) (by kernel_rfl) (by kernel_rfl) (fun c9 a9 w9 h9 => HPN.out c9 a9 _ _ w9 h9) (Or.inl ⟨by rfl, ?y8_18⟩) (HSX _ HX1.out) ?r8_18
            case y8_18 =>
              intro w' hw9
              go_simp
              try with_reducible rfl
            try simp only [Act.put, List.setIfInBounds_toArray, List.set_cons_zero, List.set_cons_succ]
            refine wpAnyH_ready (rs := [9]) (by kernel_rfl) (by simp) ?_
            refine AllReadyH.cons rfl (fun K hK => ?_) AllReadyH.nil
            have z8 := blk_frozen HN1.out 8
            have n8 := (blk_cell HN1.out 8).trans (show _ = some (Value.slice Av pre.length cv) from rfl)
            go_simp
            refine Shut.out hK _ _ ?_ (fun _ => ?_)
            · exact HSX _ (blk_far HX1.out (by show Bx ≠ gn; omega) _)
            clear hK K z8 n8
            try simp only [Act.put, List.setIfInBounds_toArray, List.set_cons_zero, List.set_cons_succ]
            have HN2 := Aside0.mk (blk_put HN1.out 8 (.slice A1 (pre.length + 1) c1) rfl)
            refine wpAnyH_take (i := 10) (v := ?v10_19) rfl (by kernel_rfl) (by kernel_rfl) (by kernel_rfl) (fun c9 a9 w9 h9 => HPN.out c9 a9 _ _ w9 h9) (Or.inl ⟨by rfl, ?y10_19⟩) (HSX _ (blk_far HX1.out (by show Bx ≠ gn; omega) _)) ?r10_19
            case y10_19 =>
              intro w' hw9
              go_simp
              try with_reducible rfl
            try simp only [Act.put, List.setIfInBounds_toArray, List.set_cons_zero, List.set_cons_succ]
            refine wpAnyH_ready (rs := [11]) (by kernel_rfl) (by simp) ?_
            refine AllReadyH.cons rfl (fun K hK => ?_) AllReadyH.nil
            have z9 := blk_frozen HN2.out 9
            have n9 := (blk_cell HN2.out 9).trans (show _ = some (Value.int .u8 _) from rfl)
            go_simp
            refine Shut.out hK _ _ ?_ (fun _ => ?_)
            · exact HSX _ (blk_far (blk_far HX1.out (by show Bx ≠ gn; omega) _) (by show Bx ≠ gn; omega) _)
            clear hK K z9 n9
            try simp only [Act.put, List.setIfInBounds_toArray, List.set_cons_zero, List.set_cons_succ]
            refine wpAnyH_done (by kernel_rfl) ?_ _
            show QQ .normal _ _
            rw [← HQQ.out]
            have HN3 := Aside0.mk (blk_put HN2.out 9 (.int .u8 (IntKind.u8.wrap (x.1.f0 + 1))) rfl)
            have hnx : IntKind.u8.wrap (x.1.f0 + 1) = nextI a1_4 ((pre ++ [x]).map (fun x => x.1)) := by
              rw [List.map_append, List.map_cons, List.map_nil, nextI_snoc]
              skip
              rfl
            have hmp : (pre ++ [x]).map (fun x => ansV a1_5 x.1) = pre.map (fun x => ansV a1_5 x.1) ++ [x.1] := by
              rw [List.map_append, List.map_cons, List.map_nil]
              unfold ansV
              rw [if_pos HIN.out]
            have hR3 := Kd.R_mono (Kd.R_far (Kd.R_far (Kd.R_types HR1.out HN1.out (by decide)) (p := ⟨gn, 8, none⟩) (fun k hk => hk.2) (.slice A1 (pre.length + 1) c1)) (p := ⟨gn, 9, none⟩) (fun k hk => hk.2) (.int .u8 (IntKind.u8.wrap (x.1.f0 + 1)))) (fun _ hk => hk.1)
            have hbs : ∀ j, (Value.slice Av pre.length cv).ownBlock = some j → w.heap.size ≤ j := fun j e => Kd.R_base HRD.out j e
            have hcs : ∀ (j : Nat) (o : Obj), (Value.slice Av pre.length cv).ownBlock = some j → (Wa.drewN 1).heap[j]? = some o → o.isCells = true := fun j o e ho => by
              obtain ⟨cells, hc⟩ := own_typed HRD.out.2.choose_spec.1 j e
              rw [hc] at ho
              cases ho
              rfl
            have hbel : Below w.heap.size W ((w1.setCell ⟨gn, 8, none⟩ (.slice A1 (pre.length + 1) c1)).setCell ⟨gn, 9, none⟩ (.int .u8 (IntKind.u8.wrap (x.1.f0 + 1)))) := (((pw_below_drewN HBWa.out 1).grown HGR.out (HBc.out.size) hbs).setCell (p := ⟨gn, 8, none⟩) hlo _).setCell (p := ⟨gn, 9, none⟩) hlo _
            have hko := (((HKO.out.trans (⟨Nat.le_refl _, fun _ _ h _ => h⟩ : KeepsOthers Wa (Wa.drewN 1))).trans (KeepsOthers.of_grownBy HGR.out hcs)).trans (KeepsOthers.setCell _ ⟨gn, 8, none⟩ (.slice A1 (pre.length + 1) c1))).trans (KeepsOthers.setCell _ ⟨gn, 9, none⟩ (.int .u8 (IntKind.u8.wrap (x.1.f0 + 1))))
            have hfr : ∀ (g : Nat) (c : Array Value) (t : TypeId), w1.heap[g]? = some (.cells c t (0, 0)) → g ≠ gn → ((w1.setCell ⟨gn, 8, none⟩ (.slice A1 (pre.length + 1) c1)).setCell ⟨gn, 9, none⟩ (.int .u8 (IntKind.u8.wrap (x.1.f0 + 1)))).heap[g]? = some (.cells c t (0, 0)) := fun g c t h hne => blk_far (blk_far h hne _) hne _
            have g4 := hfr _ _ _ HG4.out (by omega)
            have g5 := hfr _ _ _ HG5.out (by omega)
            have hfin : KeepsFrom w4.heap.size W ((w1.setCell ⟨gn, 8, none⟩ (.slice A1 (pre.length + 1) c1)).setCell ⟨gn, 9, none⟩ (.int .u8 (IntKind.u8.wrap (x.1.f0 + 1)))) ∧ KeptIt w.heap.size (gn + 1) (gn + 1 + 1) W ((w1.setCell ⟨gn, 8, none⟩ (.slice A1 (pre.length + 1) c1)).setCell ⟨gn, 9, none⟩ (.int .u8 (IntKind.u8.wrap (x.1.f0 + 1)))) := ⟨hko.from _, hbel, fun o ho => by rw [GW4.out] at ho; cases ho; exact g4, fun o ho => by rw [GW5.out] at ho; cases ho; exact g5⟩
            have HN4 := HN3.out
            rw [hnx] at HN4 hR3 hbel g4 g5 hfr hfin
            rw [hnx]
            refine ⟨hfin.1, hfin.2, ⟨?_, ⟨_, HN4, ?_⟩, hfr _ _ _ HG1.out (by omega), hfr _ _ _ HG2.out (by omega), hfr _ _ _ HG3.out (by omega), g4, g5⟩, HBW.out.trans hbel⟩
            · have := HP.out; simp; omega
            · rw [hmp]; exact hR3
        | false =>
          obtain ⟨x0, x1, x2, x3, x4, x5, x6⟩ := cells7 HXa.out
          gi_wp2_with fail
          refine ⟨trivial, ?_⟩
          refine (CallsIn.inRound l (callsIn_wide.2 (item_Fade.calls _ _ _ _ _ _ _ _ _ _ _ _ _ _ _ (fadeV_is x.1)))).mono ?_
          rintro ev Wb ⟨rfl, hxb⟩
          clear x0 x1 x2 x3 x4 x5 x6
          have HRb := Aside0.mk (Kd.R_below HRa.out hxb)
          have HNb := Aside0.mk (blk_below HNa.out hxb)
          have HXb := Aside0.mk (blk_below HXa.out hxb)
          have G1b := Aside0.mk (blk_below G1a.out hxb)
          have G2b := Aside0.mk (blk_below G2a.out hxb)
          have G3b := Aside0.mk (blk_below G3a.out hxb)
          have G4b := Aside0.mk (blk_below G4a.out hxb)
          have G5b := Aside0.mk (blk_below G5a.out hxb)
          have HBWb := Aside0.mk (HBWa.out.trans (hxb.mono (Nat.le_trans hsW HBWa.out.size)))
          have HKOb := Aside0.mk (HKO.out.trans (KeepsOthers.of_grownBy (grown_of_below hxb none) (fun j o e => by cases e)))
          clear hxb HRa HNa HXa G1a G2a G3a G4a G5a HBWa HKO
          obtain ⟨x0, x1, x2, x3, x4, x5, x6⟩ := cells7 HXb.out
          have f0 := blk_frozen HXb.out 0
          have f1 := blk_frozen HXb.out 1
          have f2 := blk_frozen HXb.out 2
          have f3 := blk_frozen HXb.out 3
          have f4 := blk_frozen HXb.out 4
          have f5 := blk_frozen HXb.out 5
          have f6 := blk_frozen HXb.out 6
          have hXc := blk_put7 HXb.out (.int .u8 (fadeV x.1).f0) (.int .u8 (fadeV x.1).f1.f0) (.int .u32 (fadeV x.1).f1.f1) (.int .u32 (fadeV x.1).f1.f2) (.int .i64 (fadeV x.1).f2) (.int .u8 (fadeV x.1).f3) (.int .u32 (fadeV x.1).f4)
          have hBWc := below_put7 HBWb.out hBx (.int .u8 (fadeV x.1).f0) (.int .u8 (fadeV x.1).f1.f0) (.int .u32 (fadeV x.1).f1.f1) (.int .u32 (fadeV x.1).f1.f2) (.int .i64 (fadeV x.1).f2) (.int .u8 (fadeV x.1).f3) (.int .u32 (fadeV x.1).f4)
          have HXc := Aside0.mk hXc
          have HBWc := Aside0.mk hBWc
          have HNc := Aside0.mk (blk_far7 HNb.out e1 (.int .u8 (fadeV x.1).f0) (.int .u8 (fadeV x.1).f1.f0) (.int .u32 (fadeV x.1).f1.f1) (.int .u32 (fadeV x.1).f1.f2) (.int .i64 (fadeV x.1).f2) (.int .u8 (fadeV x.1).f3) (.int .u32 (fadeV x.1).f4))
          have G1c := Aside0.mk (blk_far7 G1b.out (blk_ne G1b.out HXb.out (by decide)) (.int .u8 (fadeV x.1).f0) (.int .u8 (fadeV x.1).f1.f0) (.int .u32 (fadeV x.1).f1.f1) (.int .u32 (fadeV x.1).f1.f2) (.int .i64 (fadeV x.1).f2) (.int .u8 (fadeV x.1).f3) (.int .u32 (fadeV x.1).f4))
          have G2c := Aside0.mk (blk_far7 G2b.out (blk_ne G2b.out HXb.out (by decide)) (.int .u8 (fadeV x.1).f0) (.int .u8 (fadeV x.1).f1.f0) (.int .u32 (fadeV x.1).f1.f1) (.int .u32 (fadeV x.1).f1.f2) (.int .i64 (fadeV x.1).f2) (.int .u8 (fadeV x.1).f3) (.int .u32 (fadeV x.1).f4))
          have G3c := Aside0.mk (blk_far7 G3b.out (blk_ne G3b.out HXb.out (by decide)) (.int .u8 (fadeV x.1).f0) (.int .u8 (fadeV x.1).f1.f0) (.int .u32 (fadeV x.1).f1.f1) (.int .u32 (fadeV x.1).f1.f2) (.int .i64 (fadeV x.1).f2) (.int .u8 (fadeV x.1).f3) (.int .u32 (fadeV x.1).f4))
          have G4c := Aside0.mk (blk_far7 G4b.out (blk_ne G4b.out HXb.out (by decide)) (.int .u8 (fadeV x.1).f0) (.int .u8 (fadeV x.1).f1.f0) (.int .u32 (fadeV x.1).f1.f1) (.int .u32 (fadeV x.1).f1.f2) (.int .i64 (fadeV x.1).f2) (.int .u8 (fadeV x.1).f3) (.int .u32 (fadeV x.1).f4))
          have G5c := Aside0.mk (blk_far7 G5b.out (blk_ne G5b.out HXb.out (by decide)) (.int .u8 (fadeV x.1).f0) (.int .u8 (fadeV x.1).f1.f0) (.int .u32 (fadeV x.1).f1.f1) (.int .u32 (fadeV x.1).f1.f2) (.int .i64 (fadeV x.1).f2) (.int .u8 (fadeV x.1).f3) (.int .u32 (fadeV x.1).f4))
          have HRc := Aside0.mk (Kd.R_mono (R_far7 (Kd.R_flat (ok' := fun k_ => k_ ≠ Bx) (fun h => h) HRb.out (fun k_ hk _ e => HNE.out (by rw [← e]; exact hk.symm))) (fun _ h => h) (.int .u8 (fadeV x.1).f0) (.int .u8 (fadeV x.1).f1.f0) (.int .u32 (fadeV x.1).f1.f1) (.int .u32 (fadeV x.1).f1.f2) (.int .i64 (fadeV x.1).f2) (.int .u8 (fadeV x.1).f3) (.int .u32 (fadeV x.1).f4)) (ok' := fun _ => True) (fun _ _ => trivial))
          have HKOc := Aside0.mk (HKOb.out.trans (others_7 Wb Bx (.int .u8 (fadeV x.1).f0) (.int .u8 (fadeV x.1).f1.f0) (.int .u32 (fadeV x.1).f1.f1) (.int .u32 (fadeV x.1).f1.f2) (.int .i64 (fadeV x.1).f2) (.int .u8 (fadeV x.1).f3) (.int .u32 (fadeV x.1).f4)))
          clear hXc hBWc HNb G1b G2b G3b G4b G5b HRb HKOb HBWb HXb
          gi_wp2_with fail
          clear x0 x1 x2 x3 x4 x5 x6 f0 f1 f2 f3 f4 f5 f6
          generalize (((((((Wb).setCell ⟨Bx, 0, none⟩ (.int .u8 (fadeV x.1).f0)).setCell ⟨Bx, 1, none⟩ (.int .u8 (fadeV x.1).f1.f0)).setCell ⟨Bx, 2, none⟩ (.int .u32 (fadeV x.1).f1.f1)).setCell ⟨Bx, 3, none⟩ (.int .u32 (fadeV x.1).f1.f2)).setCell ⟨Bx, 4, none⟩ (.int .i64 (fadeV x.1).f2)).setCell ⟨Bx, 5, none⟩ (.int .u8 (fadeV x.1).f3)).setCell ⟨Bx, 6, none⟩ (.int .u32 (fadeV x.1).f4) = Wc at HNc G1c G2c G3c G4c G5c HRc HKOc HBWc HXc ⊢
          have HNa := HNc
          have HXa := HXc
          have HRa := HRc
          have G1a := G1c
          have G2a := G2c
          have G3a := G3c
          have G4a := G4c
          have G5a := G5c
          have HBWa := HBWc
          have HKO := HKOc
          clear HNc HXc HRc G1c G2c G3c G4c G5c HBWc HKOc
          have hlo : w.heap.size ≤ gn := by omega
          have HBc := Aside0.mk (HBW.out.trans HBWa.out)
          have x0d := (blk_cell HXa.out 0).trans (show _ = some (Value.int .u8 (fadeV x.1).f0) from rfl)
          refine region_in (by kernel_rfl) ?hq_10 (by kernel_rfl) ?_
          case hq_10 =>
            rintro ⟨a9, w9, h9⟩
            have h8 : QQ .outgrown a9 w9 := h9
            rw [← HQQ.out] at h8
            exact h8
          refine wpAny_of_held (S := fun W' => W'.cell? ⟨Bx, 0, none⟩ = some (.int .u8 (fadeV x.1).f0) ∧ W'.cell? ⟨Bx, 1, none⟩ = some (.int .u8 (fadeV x.1).f1.f0) ∧ W'.cell? ⟨Bx, 2, none⟩ = some (.int .u32 (fadeV x.1).f1.f1) ∧ W'.cell? ⟨Bx, 3, none⟩ = some (.int .u32 (fadeV x.1).f1.f2) ∧ W'.cell? ⟨Bx, 4, none⟩ = some (.int .i64 (fadeV x.1).f2) ∧ W'.cell? ⟨Bx, 5, none⟩ = some (.int .u8 (fadeV x.1).f3) ∧ W'.cell? ⟨Bx, 6, none⟩ = some (.int .u32 (fadeV x.1).f4)) _ _ _ _ ?_
          have HSX := fun (W' : World) (h : W'.heap[Bx]? = some (.cells #[.int .u8 (fadeV x.1).f0, .int .u8 (fadeV x.1).f1.f0, .int .u32 (fadeV x.1).f1.f1, .int .u32 (fadeV x.1).f1.f2, .int .i64 (fadeV x.1).f2, .int .u8 (fadeV x.1).f3, .int .u32 (fadeV x.1).f4] 27 (0, 0))) => cells7 h
          have hS0 := HSX (Wc.drewN 1) (blk_drewN HXa.out 1)
          refine wpAnyH_take (i := 0) (v := ?v0_1) rfl (by kernel_rfl) (by kernel_rfl) (by kernel_rfl) (fun c9 a9 w9 h9 => HPN.out c9 a9 _ _ w9 h9) (Or.inl ⟨by rfl, ?y0_1⟩) hS0 ?r0_1
          case y0_1 =>
            rintro w' ⟨y0, y1, y2, y3, y4, y5, y6⟩
            go_simp
            try with_reducible rfl
          try simp only [Act.put, List.setIfInBounds_toArray, List.set_cons_zero, List.set_cons_succ]
          refine wpAnyH_take (i := 2) (v := ?v2_2) rfl (by kernel_rfl) (by kernel_rfl) (by kernel_rfl) (fun c9 a9 w9 h9 => HPN.out c9 a9 _ _ w9 h9) (Or.inl ⟨by rfl, ?y2_2⟩) hS0 ?r2_2
          case y2_2 =>
            rintro w' ⟨y0, y1, y2, y3, y4, y5, y6⟩
            go_simp
            try with_reducible rfl
          try simp only [Act.put, List.setIfInBounds_toArray, List.set_cons_zero, List.set_cons_succ]
          refine wpAnyH_take (i := 5) (v := ?v5_3) rfl (by kernel_rfl) (by kernel_rfl) (by kernel_rfl) (fun c9 a9 w9 h9 => HPN.out c9 a9 _ _ w9 h9) (Or.inl ⟨by rfl, ?y5_3⟩) hS0 ?r5_3
          case y5_3 =>
            rintro w' ⟨y0, y1, y2, y3, y4, y5, y6⟩
            go_simp
            try with_reducible rfl
          try simp only [Act.put, List.setIfInBounds_toArray, List.set_cons_zero, List.set_cons_succ]
          refine wpAnyH_take (i := 6) (v := ?v6_4) rfl (by kernel_rfl) (by kernel_rfl) (by kernel_rfl) (fun c9 a9 w9 h9 => HPN.out c9 a9 _ _ w9 h9) (Or.inl ⟨by rfl, ?y6_4⟩) hS0 ?r6_4
          case y6_4 =>
            rintro w' ⟨y0, y1, y2, y3, y4, y5, y6⟩
            go_simp
            try with_reducible rfl
          try simp only [Act.put, List.setIfInBounds_toArray, List.set_cons_zero, List.set_cons_succ]
          refine wpAnyH_take (i := 7) (v := ?v7_5) rfl (by kernel_rfl) (by kernel_rfl) (by kernel_rfl) (fun c9 a9 w9 h9 => HPN.out c9 a9 _ _ w9 h9) (Or.inl ⟨by rfl, ?y7_5⟩) hS0 ?r7_5
          case y7_5 =>
            rintro w' ⟨y0, y1, y2, y3, y4, y5, y6⟩
            go_simp
            try with_reducible rfl
          try simp only [Act.put, List.setIfInBounds_toArray, List.set_cons_zero, List.set_cons_succ]
          refine wpAnyH_ready (rs := [1, 3]) (by kernel_rfl) (by simp) ?_
          refine AllReadyH.cons rfl (fun K hK => ?g1_10) (AllReadyH.cons rfl (fun K hK => ?g2_10) AllReadyH.nil)
          case g1_10 =>
            have n8 := (blk_cell (blk_drewN HNa.out 1) 8).trans (show _ = some (Value.slice Av pre.length cv) from rfl)
            go_simp
            refine Shut.out hK _ _ ?_ (fun _ => ?_)
            · exact HSX _ (blk_drewN HXa.out 1)
            clear hK K n8
            try simp only [Act.put, List.setIfInBounds_toArray, List.set_cons_zero, List.set_cons_succ]
            refine wpAnyH_ready (rs := [3]) (by kernel_rfl) (by simp) ?_
            refine AllReadyH.cons rfl (fun K hK => ?_) AllReadyH.nil
            go_simp
            refine Shut.out hK _ _ ?_ (fun _ => ?_)
            · exact HSX _ (blk_alloc (blk_drewN HXa.out 1) _)
            clear hK K
            try simp only [Act.put, List.setIfInBounds_toArray, List.set_cons_zero, List.set_cons_succ]
            refine wpAnyH_ready (rs := [4]) (by kernel_rfl) (by simp) ?_
            refine AllReadyH.cons rfl (fun K hK => ?_) AllReadyH.nil
            have hRd : Kd.R k27 27 (Wc.drewN 1) w.heap.size (fun _ => True) (.slice Av pre.length cv) (pre.map (fun x => ansV a1_5 x.1)) := Kd.R_step HRa.out (fun _ _ _ => rfl)
            refine Kd.R_append_step k27 (w0 := w) (W := Wc.drewN 1) w.heap.size rfl _ _ 22 27 _ 32 rfl Try.underlying22 info27 rfl (by decide) (by decide) (.slice Av pre.length cv) (pre.map (fun x => ansV a1_5 x.1)) ((fadeV x.1)) [.int .u8 (fadeV x.1).f0, .int .u8 (fadeV x.1).f1.f0, .int .u32 (fadeV x.1).f1.f1, .int .u32 (fadeV x.1).f1.f2, .int .i64 (fadeV x.1).f2, .int .u8 (fadeV x.1).f3, .int .u32 (fadeV x.1).f4] (fun _ => True) (fun _ => False) rfl rfl (k27_mkM _ _ _ _) (fun _ h => h.elim) (fun _ _ => trivial) hRd (pw_below_drewN HBc.out 1) HBc.out.size (by have := HP.out; rw [List.length_map]; omega) ?_
            intro v1 w1 hR1 hB1 hg1 hat1
            obtain ⟨A1, c1, hv1⟩ := own_slice hR1.2.choose_spec.1
            have hv1' : v1 = .slice A1 (pre.length + 1) c1 := by rw [hv1]; simp
            subst hv1'
            clear hv1
            have hn1 := blk_grown (blk_drewN HNa.out 1) hg1 (own_cell_ne (blk_drewN HNa.out 1) hRd.2.choose_spec.1 (by decide))
            have hx1 := blk_grown (blk_drewN HXa.out 1) hg1 HNE.out
            have HG1 := Aside0.mk (blk_grown (blk_drewN G1a.out 1) hg1 (own_cell_ne (blk_drewN G1a.out 1) hRd.2.choose_spec.1 (by decide)))
            have HG2 := Aside0.mk (blk_grown (blk_drewN G2a.out 1) hg1 (own_cell_ne (blk_drewN G2a.out 1) hRd.2.choose_spec.1 (by decide)))
            have HG3 := Aside0.mk (blk_grown (blk_drewN G3a.out 1) hg1 (own_cell_ne (blk_drewN G3a.out 1) hRd.2.choose_spec.1 (by decide)))
            have HG4 := Aside0.mk (blk_grown (blk_drewN G4a.out 1) hg1 (own_cell_ne (blk_drewN G4a.out 1) hRd.2.choose_spec.1 (by decide)))
            have HG5 := Aside0.mk (blk_grown (blk_drewN G5a.out 1) hg1 (own_cell_ne (blk_drewN G5a.out 1) hRd.2.choose_spec.1 (by decide)))
            have HN1 := Aside0.mk hn1
            have HX1 := Aside0.mk hx1
            have HR1 := Aside0.mk hR1
            have HGR := Aside0.mk hg1
            have HRD := Aside0.mk hRd
            clear hn1 hx1 hR1 hg1 hat1 hB1 hRd
            refine Shut.out hK _ _ ?_ (fun _ => ?_)
            · exact HSX _ HX1.out
            clear hK K
            try simp only [Act.put, List.setIfInBounds_toArray, List.set_cons_zero, List.set_cons_succ]
            refine wpAnyH_take (i := 8) (v := ?v8_6) rfl (by kernel_rfl) (by kernel_rfl) (by kernel_rfl) (fun c9 a9 w9 h9 => HPN.out c9 a9 _ _ w9 h9) (Or.inl ⟨by rfl, ?y8_6⟩) (HSX _ HX1.out) ?r8_6
            case y8_6 =>
              intro w' hw9
              go_simp
              try with_reducible rfl
            try simp only [Act.put, List.setIfInBounds_toArray, List.set_cons_zero, List.set_cons_succ]
            refine wpAnyH_ready (rs := [9]) (by kernel_rfl) (by simp) ?_
            refine AllReadyH.cons rfl (fun K hK => ?_) AllReadyH.nil
            have z8 := blk_frozen HN1.out 8
            have n8 := (blk_cell HN1.out 8).trans (show _ = some (Value.slice Av pre.length cv) from rfl)
            go_simp
            refine Shut.out hK _ _ ?_ (fun _ => ?_)
            · exact HSX _ (blk_far HX1.out (by show Bx ≠ gn; omega) _)
            clear hK K z8 n8
            try simp only [Act.put, List.setIfInBounds_toArray, List.set_cons_zero, List.set_cons_succ]
            have HN2 := Aside0.mk (blk_put HN1.out 8 (.slice A1 (pre.length + 1) c1) rfl)
            refine wpAnyH_take (i := 10) (v := ?v10_7) rfl (by kernel_rfl) (by kernel_rfl) (by kernel_rfl) (fun c9 a9 w9 h9 => HPN.out c9 a9 _ _ w9 h9) (Or.inl ⟨by rfl, ?y10_7⟩) (HSX _ (blk_far HX1.out (by show Bx ≠ gn; omega) _)) ?r10_7
            case y10_7 =>
              intro w' hw9
              go_simp
              try with_reducible rfl
            try simp only [Act.put, List.setIfInBounds_toArray, List.set_cons_zero, List.set_cons_succ]
            refine wpAnyH_ready (rs := [11]) (by kernel_rfl) (by simp) ?_
            refine AllReadyH.cons rfl (fun K hK => ?_) AllReadyH.nil
            have z9 := blk_frozen HN2.out 9
            have n9 := (blk_cell HN2.out 9).trans (show _ = some (Value.int .u8 _) from rfl)
            go_simp
            refine Shut.out hK _ _ ?_ (fun _ => ?_)
            · exact HSX _ (blk_far (blk_far HX1.out (by show Bx ≠ gn; omega) _) (by show Bx ≠ gn; omega) _)
            clear hK K z9 n9
            try simp only [Act.put, List.setIfInBounds_toArray, List.set_cons_zero, List.set_cons_succ]
            refine wpAnyH_done (by kernel_rfl) ?_ _
            show QQ .normal _ _
            rw [← HQQ.out]
            have HN3 := Aside0.mk (blk_put HN2.out 9 (.int .u8 (IntKind.u8.wrap ((fadeV x.1).f0 + 1))) rfl)
            have hnx : IntKind.u8.wrap ((fadeV x.1).f0 + 1) = nextI a1_4 ((pre ++ [x]).map (fun x => x.1)) := by
              rw [List.map_append, List.map_cons, List.map_nil, nextI_snoc]
              rw [fadeV_f0]
              rfl
            have hmp : (pre ++ [x]).map (fun x => ansV a1_5 x.1) = pre.map (fun x => ansV a1_5 x.1) ++ [(fadeV x.1)] := by
              rw [List.map_append, List.map_cons, List.map_nil]
              unfold ansV
              rw [if_neg (by rw [HIN.out]; decide)]
            have hR3 := Kd.R_mono (Kd.R_far (Kd.R_far (Kd.R_types HR1.out HN1.out (by decide)) (p := ⟨gn, 8, none⟩) (fun k hk => hk.2) (.slice A1 (pre.length + 1) c1)) (p := ⟨gn, 9, none⟩) (fun k hk => hk.2) (.int .u8 (IntKind.u8.wrap ((fadeV x.1).f0 + 1)))) (fun _ hk => hk.1)
            have hbs : ∀ j, (Value.slice Av pre.length cv).ownBlock = some j → w.heap.size ≤ j := fun j e => Kd.R_base HRD.out j e
            have hcs : ∀ (j : Nat) (o : Obj), (Value.slice Av pre.length cv).ownBlock = some j → (Wc.drewN 1).heap[j]? = some o → o.isCells = true := fun j o e ho => by
              obtain ⟨cells, hc⟩ := own_typed HRD.out.2.choose_spec.1 j e
              rw [hc] at ho
              cases ho
              rfl
            have hbel : Below w.heap.size W ((w1.setCell ⟨gn, 8, none⟩ (.slice A1 (pre.length + 1) c1)).setCell ⟨gn, 9, none⟩ (.int .u8 (IntKind.u8.wrap ((fadeV x.1).f0 + 1)))) := (((pw_below_drewN HBWa.out 1).grown HGR.out (HBc.out.size) hbs).setCell (p := ⟨gn, 8, none⟩) hlo _).setCell (p := ⟨gn, 9, none⟩) hlo _
            have hko := (((HKO.out.trans (⟨Nat.le_refl _, fun _ _ h _ => h⟩ : KeepsOthers Wc (Wc.drewN 1))).trans (KeepsOthers.of_grownBy HGR.out hcs)).trans (KeepsOthers.setCell _ ⟨gn, 8, none⟩ (.slice A1 (pre.length + 1) c1))).trans (KeepsOthers.setCell _ ⟨gn, 9, none⟩ (.int .u8 (IntKind.u8.wrap ((fadeV x.1).f0 + 1))))
            have hfr : ∀ (g : Nat) (c : Array Value) (t : TypeId), w1.heap[g]? = some (.cells c t (0, 0)) → g ≠ gn → ((w1.setCell ⟨gn, 8, none⟩ (.slice A1 (pre.length + 1) c1)).setCell ⟨gn, 9, none⟩ (.int .u8 (IntKind.u8.wrap ((fadeV x.1).f0 + 1)))).heap[g]? = some (.cells c t (0, 0)) := fun g c t h hne => blk_far (blk_far h hne _) hne _
            have g4 := hfr _ _ _ HG4.out (by omega)
            have g5 := hfr _ _ _ HG5.out (by omega)
            have hfin : KeepsFrom w4.heap.size W ((w1.setCell ⟨gn, 8, none⟩ (.slice A1 (pre.length + 1) c1)).setCell ⟨gn, 9, none⟩ (.int .u8 (IntKind.u8.wrap ((fadeV x.1).f0 + 1)))) ∧ KeptIt w.heap.size (gn + 1) (gn + 1 + 1) W ((w1.setCell ⟨gn, 8, none⟩ (.slice A1 (pre.length + 1) c1)).setCell ⟨gn, 9, none⟩ (.int .u8 (IntKind.u8.wrap ((fadeV x.1).f0 + 1)))) := ⟨hko.from _, hbel, fun o ho => by rw [GW4.out] at ho; cases ho; exact g4, fun o ho => by rw [GW5.out] at ho; cases ho; exact g5⟩
            have HN4 := HN3.out
            rw [hnx] at HN4 hR3 hbel g4 g5 hfr hfin
            rw [hnx]
            refine ⟨hfin.1, hfin.2, ⟨?_, ⟨_, HN4, ?_⟩, hfr _ _ _ HG1.out (by omega), hfr _ _ _ HG2.out (by omega), hfr _ _ _ HG3.out (by omega), g4, g5⟩, HBW.out.trans hbel⟩
            · have := HP.out; simp; omega
            · rw [hmp]; exact hR3
          case g2_10 =>
            go_simp
            refine Shut.out hK _ _ ?_ (fun _ => ?_)
            · exact HSX _ (blk_alloc (blk_drewN HXa.out 1) _)
            clear hK K
            try simp only [Act.put, List.setIfInBounds_toArray, List.set_cons_zero, List.set_cons_succ]
            refine wpAnyH_ready (rs := [1]) (by kernel_rfl) (by simp) ?_
            refine AllReadyH.cons rfl (fun K hK => ?_) AllReadyH.nil
            have n8 := (blk_cell (blk_alloc (blk_drewN HNa.out 1) (.cells #[.int .u8 (fadeV x.1).f0, .int .u8 (fadeV x.1).f1.f0, .int .u32 (fadeV x.1).f1.f1, .int .u32 (fadeV x.1).f1.f2, .int .i64 (fadeV x.1).f2, .int .u8 (fadeV x.1).f3, .int .u32 (fadeV x.1).f4] 27)) 8).trans (show _ = some (Value.slice Av pre.length cv) from rfl)
            go_simp
            refine Shut.out hK _ _ ?_ (fun _ => ?_)
            · exact HSX _ (blk_alloc (blk_drewN HXa.out 1) (.cells #[.int .u8 (fadeV x.1).f0, .int .u8 (fadeV x.1).f1.f0, .int .u32 (fadeV x.1).f1.f1, .int .u32 (fadeV x.1).f1.f2, .int .i64 (fadeV x.1).f2, .int .u8 (fadeV x.1).f3, .int .u32 (fadeV x.1).f4] 27))
            clear hK K n8
            try simp only [Act.put, List.setIfInBounds_toArray, List.set_cons_zero, List.set_cons_succ]
            refine wpAnyH_ready (rs := [4]) (by kernel_rfl) (by simp) ?_
            refine AllReadyH.cons rfl (fun K hK => ?_) AllReadyH.nil
            have hRd : Kd.R k27 27 (Wc.drewN 1) w.heap.size (fun _ => True) (.slice Av pre.length cv) (pre.map (fun x => ansV a1_5 x.1)) := Kd.R_step HRa.out (fun _ _ _ => rfl)
            refine Kd.R_append_step k27 (w0 := w) (W := Wc.drewN 1) w.heap.size rfl _ _ 22 27 _ 32 rfl Try.underlying22 info27 rfl (by decide) (by decide) (.slice Av pre.length cv) (pre.map (fun x => ansV a1_5 x.1)) ((fadeV x.1)) [.int .u8 (fadeV x.1).f0, .int .u8 (fadeV x.1).f1.f0, .int .u32 (fadeV x.1).f1.f1, .int .u32 (fadeV x.1).f1.f2, .int .i64 (fadeV x.1).f2, .int .u8 (fadeV x.1).f3, .int .u32 (fadeV x.1).f4] (fun _ => True) (fun _ => False) rfl rfl (k27_mkM _ _ _ _) (fun _ h => h.elim) (fun _ _ => trivial) hRd (pw_below_drewN HBc.out 1) HBc.out.size (by have := HP.out; rw [List.length_map]; omega) ?_
            intro v1 w1 hR1 hB1 hg1 hat1
            obtain ⟨A1, c1, hv1⟩ := own_slice hR1.2.choose_spec.1
            have hv1' : v1 = .slice A1 (pre.length + 1) c1 := by rw [hv1]; simp
            subst hv1'
            clear hv1
            have hn1 := blk_grown (blk_drewN HNa.out 1) hg1 (own_cell_ne (blk_drewN HNa.out 1) hRd.2.choose_spec.1 (by decide))
            have hx1 := blk_grown (blk_drewN HXa.out 1) hg1 HNE.out
            have HG1 := Aside0.mk (blk_grown (blk_drewN G1a.out 1) hg1 (own_cell_ne (blk_drewN G1a.out 1) hRd.2.choose_spec.1 (by decide)))
            have HG2 := Aside0.mk (blk_grown (blk_drewN G2a.out 1) hg1 (own_cell_ne (blk_drewN G2a.out 1) hRd.2.choose_spec.1 (by decide)))
            have HG3 := Aside0.mk (blk_grown (blk_drewN G3a.out 1) hg1 (own_cell_ne (blk_drewN G3a.out 1) hRd.2.choose_spec.1 (by decide)))
            have HG4 := Aside0.mk (blk_grown (blk_drewN G4a.out 1) hg1 (own_cell_ne (blk_drewN G4a.out 1) hRd.2.choose_spec.1 (by decide)))
            have HG5 := Aside0.mk (blk_grown (blk_drewN G5a.out 1) hg1 (own_cell_ne (blk_drewN G5a.out 1) hRd.2.choose_spec.1 (by decide)))
            have HN1 := Aside0.mk hn1
            have HX1 := Aside0.mk hx1
            have HR1 := Aside0.mk hR1
            have HGR := Aside0.mk hg1
            have HRD := Aside0.mk hRd
            clear hn1 hx1 hR1 hg1 hat1 hB1 hRd
            refine Shut.out hK _ _ ?_ (fun _ => ?_)
            · exact HSX _ HX1.out
            clear hK K
            try simp only [Act.put, List.setIfInBounds_toArray, List.set_cons_zero, List.set_cons_succ]
            refine wpAnyH_take (i := 8) (v := ?v8_8) rfl (by kernel_rfl) (by kernel_rfl) (by kernel_rfl) (fun c9 a9 w9 h9 => HPN.out c9 a9 _ _ w9 h9) (Or.inl ⟨by rfl, ?y8_8⟩) (HSX _ HX1.out) ?r8_8
            case y8_8 =>
              intro w' hw9
              go_simp
              try with_reducible rfl
            try simp only [Act.put, List.setIfInBounds_toArray, List.set_cons_zero, List.set_cons_succ]
            refine wpAnyH_ready (rs := [9]) (by kernel_rfl) (by simp) ?_
            refine AllReadyH.cons rfl (fun K hK => ?_) AllReadyH.nil
            have z8 := blk_frozen HN1.out 8
            have n8 := (blk_cell HN1.out 8).trans (show _ = some (Value.slice Av pre.length cv) from rfl)
            go_simp
            refine Shut.out hK _ _ ?_ (fun _ => ?_)
            · exact HSX _ (blk_far HX1.out (by show Bx ≠ gn; omega) _)
            clear hK K z8 n8
            try simp only [Act.put, List.setIfInBounds_toArray, List.set_cons_zero, List.set_cons_succ]
            have HN2 := Aside0.mk (blk_put HN1.out 8 (.slice A1 (pre.length + 1) c1) rfl)
            refine wpAnyH_take (i := 10) (v := ?v10_9) rfl (by kernel_rfl) (by kernel_rfl) (by kernel_rfl) (fun c9 a9 w9 h9 => HPN.out c9 a9 _ _ w9 h9) (Or.inl ⟨by rfl, ?y10_9⟩) (HSX _ (blk_far HX1.out (by show Bx ≠ gn; omega) _)) ?r10_9
            case y10_9 =>
              intro w' hw9
              go_simp
              try with_reducible rfl
            try simp only [Act.put, List.setIfInBounds_toArray, List.set_cons_zero, List.set_cons_succ]
            refine wpAnyH_ready (rs := [11]) (by kernel_rfl) (by simp) ?_
            refine AllReadyH.cons rfl (fun K hK => ?_) AllReadyH.nil
            have z9 := blk_frozen HN2.out 9
            have n9 := (blk_cell HN2.out 9).trans (show _ = some (Value.int .u8 _) from rfl)
            go_simp
            refine Shut.out hK _ _ ?_ (fun _ => ?_)
            · exact HSX _ (blk_far (blk_far HX1.out (by show Bx ≠ gn; omega) _) (by show Bx ≠ gn; omega) _)
            clear hK K z9 n9
            try simp only [Act.put, List.setIfInBounds_toArray, List.set_cons_zero, List.set_cons_succ]
            refine wpAnyH_done (by kernel_rfl) ?_ _
            show QQ .normal _ _
            rw [← HQQ.out]
            have HN3 := Aside0.mk (blk_put HN2.out 9 (.int .u8 (IntKind.u8.wrap ((fadeV x.1).f0 + 1))) rfl)
            have hnx : IntKind.u8.wrap ((fadeV x.1).f0 + 1) = nextI a1_4 ((pre ++ [x]).map (fun x => x.1)) := by
              rw [List.map_append, List.map_cons, List.map_nil, nextI_snoc]
              rw [fadeV_f0]
              rfl
            have hmp : (pre ++ [x]).map (fun x => ansV a1_5 x.1) = pre.map (fun x => ansV a1_5 x.1) ++ [(fadeV x.1)] := by
              rw [List.map_append, List.map_cons, List.map_nil]
              unfold ansV
              rw [if_neg (by rw [HIN.out]; decide)]
            have hR3 := Kd.R_mono (Kd.R_far (Kd.R_far (Kd.R_types HR1.out HN1.out (by decide)) (p := ⟨gn, 8, none⟩) (fun k hk => hk.2) (.slice A1 (pre.length + 1) c1)) (p := ⟨gn, 9, none⟩) (fun k hk => hk.2) (.int .u8 (IntKind.u8.wrap ((fadeV x.1).f0 + 1)))) (fun _ hk => hk.1)
            have hbs : ∀ j, (Value.slice Av pre.length cv).ownBlock = some j → w.heap.size ≤ j := fun j e => Kd.R_base HRD.out j e
            have hcs : ∀ (j : Nat) (o : Obj), (Value.slice Av pre.length cv).ownBlock = some j → (Wc.drewN 1).heap[j]? = some o → o.isCells = true := fun j o e ho => by
              obtain ⟨cells, hc⟩ := own_typed HRD.out.2.choose_spec.1 j e
              rw [hc] at ho
              cases ho
              rfl
            have hbel : Below w.heap.size W ((w1.setCell ⟨gn, 8, none⟩ (.slice A1 (pre.length + 1) c1)).setCell ⟨gn, 9, none⟩ (.int .u8 (IntKind.u8.wrap ((fadeV x.1).f0 + 1)))) := (((pw_below_drewN HBWa.out 1).grown HGR.out (HBc.out.size) hbs).setCell (p := ⟨gn, 8, none⟩) hlo _).setCell (p := ⟨gn, 9, none⟩) hlo _
            have hko := (((HKO.out.trans (⟨Nat.le_refl _, fun _ _ h _ => h⟩ : KeepsOthers Wc (Wc.drewN 1))).trans (KeepsOthers.of_grownBy HGR.out hcs)).trans (KeepsOthers.setCell _ ⟨gn, 8, none⟩ (.slice A1 (pre.length + 1) c1))).trans (KeepsOthers.setCell _ ⟨gn, 9, none⟩ (.int .u8 (IntKind.u8.wrap ((fadeV x.1).f0 + 1))))
            have hfr : ∀ (g : Nat) (c : Array Value) (t : TypeId), w1.heap[g]? = some (.cells c t (0, 0)) → g ≠ gn → ((w1.setCell ⟨gn, 8, none⟩ (.slice A1 (pre.length + 1) c1)).setCell ⟨gn, 9, none⟩ (.int .u8 (IntKind.u8.wrap ((fadeV x.1).f0 + 1)))).heap[g]? = some (.cells c t (0, 0)) := fun g c t h hne => blk_far (blk_far h hne _) hne _
            have g4 := hfr _ _ _ HG4.out (by omega)
            have g5 := hfr _ _ _ HG5.out (by omega)
            have hfin : KeepsFrom w4.heap.size W ((w1.setCell ⟨gn, 8, none⟩ (.slice A1 (pre.length + 1) c1)).setCell ⟨gn, 9, none⟩ (.int .u8 (IntKind.u8.wrap ((fadeV x.1).f0 + 1)))) ∧ KeptIt w.heap.size (gn + 1) (gn + 1 + 1) W ((w1.setCell ⟨gn, 8, none⟩ (.slice A1 (pre.length + 1) c1)).setCell ⟨gn, 9, none⟩ (.int .u8 (IntKind.u8.wrap ((fadeV x.1).f0 + 1)))) := ⟨hko.from _, hbel, fun o ho => by rw [GW4.out] at ho; cases ho; exact g4, fun o ho => by rw [GW5.out] at ho; cases ho; exact g5⟩
            have HN4 := HN3.out
            rw [hnx] at HN4 hR3 hbel g4 g5 hfr hfin
            rw [hnx]
            refine ⟨hfin.1, hfin.2, ⟨?_, ⟨_, HN4, ?_⟩, hfr _ _ _ HG1.out (by omega), hfr _ _ _ HG2.out (by omega), hfr _ _ _ HG3.out (by omega), g4, g5⟩, HBW.out.trans hbel⟩
            · have := HP.out; simp; omega
            · rw [hmp]; exact hR3
    case done =>
      rintro D ys W hD rfl ⟨⟨hp4, ⟨v, hn, hR⟩, h3, h4, h5, h6, h7⟩, hB⟩ hK
      have e1 : (l0_5.filter (dueB a1_4 l1_6)).length ≤ 4 := by rw [HF.out, List.length_map]; exact hp4
      have e2 : (l0_5.filter (dueB a1_4 l1_6)).take 4 = (hs.filter (fun x => dueB a1_4 l1_6 x.1)).map (fun x => x.1) := by rw [List.take_of_length_le e1, HF.out]
      show K9 _ W
      refine HTAIL.out W D v _ true _ hD hK hn hR ⟨h3, h4, h5, h6, h7⟩ hB ?_ ?_ ?_
      · rw [e2, List.map_map]; rfl
      · rw [e2]
      · exact (decide_eq_true e1).symm
    case stop =>
      rintro D cc pre W hD hpre ⟨⟨rfl, p4, x, rfl, hp4, ⟨v, hn, hR⟩, h3, h4, h5, h6, h7⟩, hB⟩ hK
      obtain ⟨t, ht⟩ := hpre
      have e0 : l0_5.filter (dueB a1_4 l1_6) = p4.map (fun x => x.1) ++ (x.1 :: t.map (fun x => x.1)) := by rw [HF.out, ← ht]; simp
      have e1 : ¬ (l0_5.filter (dueB a1_4 l1_6)).length ≤ 4 := by rw [e0]; simp; omega
      have e2 : (l0_5.filter (dueB a1_4 l1_6)).take 4 = p4.map (fun x => x.1) := by rw [e0, List.take_append_of_le_length (by simp; omega), List.take_of_length_le (by simp; omega)]
      apply wpIn_exit
      show K9 _ W
      refine HTAIL.out W D v _ false _ hD hK hn hR ⟨h3, h4, h5, h6, h7⟩ hB ?_ ?_ ?_
      · rw [e2, List.map_map]; rfl
      · rw [e2]
      · exact (decide_eq_false e1).symm
end Go.Proofs.Ytiminjibcafkaaa.X
