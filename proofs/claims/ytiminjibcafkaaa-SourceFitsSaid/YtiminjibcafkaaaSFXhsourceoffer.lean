-- MADE BY wip/prx.py (the kit's printer, with contracts proved by hand). Not trusted: Lean checks it.
import Derived.Test.YtiminjibcafkaaaSFX0
import Derived.Test.YtiminjibcafkaaaSFJ8
import Derived.Test.YtiminjibcafkaaaSFJ14
import Derived.Test.YtiminjibcafkaaaSFXhslicesCloneRun
import Derived.Test.YtiminjibcafkaaaSFX16
namespace Go.Proofs.Ytiminjibcafkaaa.X
open Go.RowKit Go.Proofs.YtiminjibcafkaaaW.PrintWords Go.Proofs.YtiminjibcafkaaaW.PrintLast Go.Proofs.YtiminjibcafkaaaW.PrintMore
attribute [local go_sem] max2_int min2_int max_two min_two max_three min_three max_four min_four   -- for this text's walks alone
set_option linter.unusedVariables false
set_option linter.unusedSimpArgs false
--EXT 
/-! ### source_offer: function 50, by hand -/
theorem drop_getD {α : Type} (z : α) : ∀ (l : List α) (k : Nat), k < l.length → l.drop k = l.getD k z :: l.drop (k + 1) := by
  intro l
  induction l with
  | nil => intro k h; simp at h
  | cons x l ih =>
    intro k h
    cases k with
    | zero => rfl
    | succ k => simpa using ih k (by simpa using h)
/-- What is offered: the ghosts that are wanted are dropped, one after the other. -/
def source_offer.l0 (k : Nat) (fil : Int) : List S27 → List S78 → Option (List S78 × Option Int)
  | [], out => (slices_Clone_Run.f out).bind fun l => some (l, none)
  | e :: l, out => (if e.f2 = 2 then item_In.f e.f0 e.f1.f0 e.f1.f1 e.f1.f2 e.f2 e.f3 e.f4 fil else some false).bind fun b =>
    if b = true then (know_Drop.f k out e.f1.f0 e.f1.f1).bind fun p => match p.2 with
      | some c => some ([], some c)
      | none => source_offer.l0 k fil l p.1
    else source_offer.l0 k fil l out
/-- source.offer. -/
def source_offer.f (k : Nat) (a0_0 : Int) (a0_1 : Int) (a0_2 : Int) (a0_3 : Int) (l0_4 : List (S78)) (l0_5 : List (S27)) (a0_6 : Bool) (a0_7 : Int) (a0_8 : Int) (a0_9 : Int) (a0_10 : Int) (l0_11 : List (S78)) (a0_12 : Int) (a1_0 : Int) (a1_1 : Int) (a1_2 : Int) (a1_3 : Int) (a1_4 : Int) (a1_5 : Int) (l1_6 : List (S78)) (a1_7 : Int) (l1_8 : List (S27)) (a1_9 : Int) (a1_10 : Bool) (l1_11 : List (S78)) : Option (List S78 × Option Int) := source_offer.l0 k a1_5 l0_5 l0_4
set_option maxHeartbeats 8000000 in
set_option maxRecDepth 100000 in
theorem source_offer.calls (k : Nat) (a0_0 : Int) (a0_1 : Int) (a0_2 : Int) (a0_3 : Int) (A0_4 : Option Addr) (c0_4 : Nat) (l0_4 : List (S78)) (A0_5 : Option Addr) (c0_5 : Nat) (l0_5 : List (S27)) (a0_6 : Bool) (a0_7 : Int) (a0_8 : Int) (a0_9 : Int) (a0_10 : Int) (A0_11 : Option Addr) (c0_11 : Nat) (l0_11 : List (S78)) (a0_12 : Int) (a1_0 : Int) (a1_1 : Int) (a1_2 : Int) (a1_3 : Int) (a1_4 : Int) (a1_5 : Int) (A1_6 : Option Addr) (c1_6 : Nat) (l1_6 : List (S78)) (a1_7 : Int) (A1_8 : Option Addr) (c1_8 : Nat) (l1_8 : List (S27)) (a1_9 : Int) (a1_10 : Bool) (A1_11 : Option Addr) (c1_11 : Nat) (l1_11 : List (S78)) (r1 : List (S78)) (r2 : Option Int) (w : World) (hr0_4 : Kd.C k78 w A0_4 l0_4.length l0_4) (hc0_4 : l0_4.length ≤ c0_4) (hr0_5 : Kd.C k27 w A0_5 l0_5.length l0_5) (hc0_5 : l0_5.length ≤ c0_5) (hr0_11 : Kd.C k78 w A0_11 l0_11.length l0_11) (hc0_11 : l0_11.length ≤ c0_11) (hr1_6 : Kd.C k78 w A1_6 l1_6.length l1_6) (hc1_6 : l1_6.length ≤ c1_6) (hr1_8 : Kd.C k27 w A1_8 l1_8.length l1_8) (hc1_8 : l1_8.length ≤ c1_8) (hr1_11 : Kd.C k78 w A1_11 l1_11.length l1_11) (hc1_11 : l1_11.length ≤ c1_11) (h : source_offer.f k a0_0 a0_1 a0_2 a0_3 l0_4 l0_5 a0_6 a0_7 a0_8 a0_9 a0_10 l0_11 a0_12 a1_0 a1_1 a1_2 a1_3 a1_4 a1_5 l1_6 a1_7 l1_8 a1_9 a1_10 l1_11 = some (r1, r2)) :
    Calls Try.prog 50 #[.agg #[.int .u8 a0_0, .int .u8 a0_1, .int .u32 a0_2, .int .u32 a0_3, .slice A0_4 l0_4.length c0_4, .slice A0_5 l0_5.length c0_5, .bool a0_6, .int .u32 a0_7, .int .u8 a0_8, .int .u8 a0_9, .int .u32 a0_10, .slice A0_11 l0_11.length c0_11, .int .u32 a0_12], .agg #[.int .i64 a1_0, .int .u8 a1_1, .int .u8 a1_2, .int .u32 a1_3, .int .u8 a1_4, .int .u8 a1_5, .slice A1_6 l1_6.length c1_6, .int .u32 a1_7, .slice A1_8 l1_8.length c1_8, .int .u8 a1_9, .bool a1_10, .slice A1_11 l1_11.length c1_11]] w fun e w' => ∃ v0_ : Value, e = .returned (.tuple #[v0_, errW r2]) ∧ Kd.R k78 78 w' w.heap.size (fun _ => True) v0_ r1 ∧ Below w.heap.size w w' := by
  have hu := Try.underlying51
  have hun := Try.underlying53
  have hue := Try.underlying27
  have hu34 := Try.underlying34
  have eN := errW_none
  have eS := errW_some
  have HR4 := Aside0.mk hr0_4
  have HR5 := Aside0.mk hr0_5
  have HC4 := Aside0.mk hc0_4
  have HC5 := Aside0.mk hc0_5
  have HL := Aside0.mk (show source_offer.l0 k a1_5 l0_5 l0_4 = some (r1, r2) from h)
  have hmax : l0_5.length ≤ 9223372036854775807 := HR5.out.2.1
  clear hr0_4 hr0_5 hr0_11 hc0_4 hc0_5 hc0_11 hr1_6 hr1_8 hr1_11 hc1_6 hc1_8 hc1_11 h
  have B1a := Aside0.mk (blk_alloc (blk_new w (.cells #[.int .u8 a0_0, .int .u8 a0_1, .int .u32 a0_2, .int .u32 a0_3, .slice A0_4 l0_4.length c0_4, .slice A0_5 l0_5.length c0_5, .bool a0_6, .int .u32 a0_7, .int .u8 a0_8, .int .u8 a0_9, .int .u32 a0_10, .slice A0_11 l0_11.length c0_11, .int .u32 a0_12] 51)) (.cells #[.int .i64 a1_0, .int .u8 a1_1, .int .u8 a1_2, .int .u32 a1_3, .int .u8 a1_4, .int .u8 a1_5, .slice A1_6 l1_6.length c1_6, .int .u32 a1_7, .slice A1_8 l1_8.length c1_8, .int .u8 a1_9, .bool a1_10, .slice A1_11 l1_11.length c1_11] 53))
  have B2a := Aside0.mk (show ((w.alloc (.cells #[.int .u8 a0_0, .int .u8 a0_1, .int .u32 a0_2, .int .u32 a0_3, .slice A0_4 l0_4.length c0_4, .slice A0_5 l0_5.length c0_5, .bool a0_6, .int .u32 a0_7, .int .u8 a0_8, .int .u8 a0_9, .int .u32 a0_10, .slice A0_11 l0_11.length c0_11, .int .u32 a0_12] 51)).alloc (.cells #[.int .i64 a1_0, .int .u8 a1_1, .int .u8 a1_2, .int .u32 a1_3, .int .u8 a1_4, .int .u8 a1_5, .slice A1_6 l1_6.length c1_6, .int .u32 a1_7, .slice A1_8 l1_8.length c1_8, .int .u8 a1_9, .bool a1_10, .slice A1_11 l1_11.length c1_11] 53)).heap[w.heap.size + 1]? = some (.cells #[.int .i64 a1_0, .int .u8 a1_1, .int .u8 a1_2, .int .u32 a1_3, .int .u8 a1_4, .int .u8 a1_5, .slice A1_6 l1_6.length c1_6, .int .u32 a1_7, .slice A1_8 l1_8.length c1_8, .int .u8 a1_9, .bool a1_10, .slice A1_11 l1_11.length c1_11] 53 (0, 0)) by simpa using blk_new (w.alloc (.cells #[.int .u8 a0_0, .int .u8 a0_1, .int .u32 a0_2, .int .u32 a0_3, .slice A0_4 l0_4.length c0_4, .slice A0_5 l0_5.length c0_5, .bool a0_6, .int .u32 a0_7, .int .u8 a0_8, .int .u8 a0_9, .int .u32 a0_10, .slice A0_11 l0_11.length c0_11, .int .u32 a0_12] 51)) (.cells #[.int .i64 a1_0, .int .u8 a1_1, .int .u8 a1_2, .int .u32 a1_3, .int .u8 a1_4, .int .u8 a1_5, .slice A1_6 l1_6.length c1_6, .int .u32 a1_7, .slice A1_8 l1_8.length c1_8, .int .u8 a1_9, .bool a1_10, .slice A1_11 l1_11.length c1_11] 53))
  have HBa := Aside0.mk (((Below.refl _ w).alloc (Nat.le_refl _) (.cells #[.int .u8 a0_0, .int .u8 a0_1, .int .u32 a0_2, .int .u32 a0_3, .slice A0_4 l0_4.length c0_4, .slice A0_5 l0_5.length c0_5, .bool a0_6, .int .u32 a0_7, .int .u8 a0_8, .int .u8 a0_9, .int .u32 a0_10, .slice A0_11 l0_11.length c0_11, .int .u32 a0_12] 51)).alloc (by simp) (.cells #[.int .i64 a1_0, .int .u8 a1_1, .int .u8 a1_2, .int .u32 a1_3, .int .u8 a1_4, .int .u8 a1_5, .slice A1_6 l1_6.length c1_6, .int .u32 a1_7, .slice A1_8 l1_8.length c1_8, .int .u8 a1_9, .bool a1_10, .slice A1_11 l1_11.length c1_11] 53))
  go_enter Try.func50, Try.ntmps50
  go_wp2_with fail
  generalize (w.alloc (.cells #[.int .u8 a0_0, .int .u8 a0_1, .int .u32 a0_2, .int .u32 a0_3, .slice A0_4 l0_4.length c0_4, .slice A0_5 l0_5.length c0_5, .bool a0_6, .int .u32 a0_7, .int .u8 a0_8, .int .u8 a0_9, .int .u32 a0_10, .slice A0_11 l0_11.length c0_11, .int .u32 a0_12] 51)).alloc (.cells #[.int .i64 a1_0, .int .u8 a1_1, .int .u8 a1_2, .int .u32 a1_3, .int .u8 a1_4, .int .u8 a1_5, .slice A1_6 l1_6.length c1_6, .int .u32 a1_7, .slice A1_8 l1_8.length c1_8, .int .u8 a1_9, .bool a1_10, .slice A1_11 l1_11.length c1_11] 53) = w2 at B1a B2a HBa ⊢
  go_loopg [6, 16] l0_5.length (fun gg s6 s16 wr => ∃ (kk : Nat) (A : Option Addr) (c : Nat) (out : List S78), kk ≤ l0_5.length ∧ l0_5.length - kk ≤ gg ∧ s6 = .slice A out.length c ∧ s16 = .int .i64 kk ∧ Aside0 (Kd.C k78 wr A out.length out) ∧ Aside0 (out.length ≤ c) ∧ Aside0 (Below w2.heap.size w2 wr) ∧ Aside0 (source_offer.l0 k a1_5 (l0_5.drop kk) out = some (r1, r2)))
  case atStart => exact ⟨0, _, _, l0_4, Nat.zero_le _, by omega, rfl, rfl, ⟨Kd.C_below HR4.out HBa.out⟩, HC4, ⟨Below.refl _ _⟩, HL⟩
  case round =>
    obtain ⟨kk, A, c, out, hkk, hgg, rfl, rfl, HO, HOC, BW, HW⟩ := hrel
    clear HL
    have hLL := HW.out
    clear HW
    have B3 := Aside0.mk (blk_below B1a.out BW.out)
    have B4 := Aside0.mk (blk_below B2a.out BW.out)
    have HB3 := Aside0.mk (below_step HBa.out BW.out)
    by_cases hlt : kk < l0_5.length
    · have hltz : (kk : Int) < (l0_5.length : Int) := by omega
      have h0k : (0 : Int) ≤ (kk : Int) := by omega
      rw [drop_getD z27 l0_5 kk hlt] at hLL
      obtain ⟨ax, rfl, p0, p1, p2, p3, p4, p5, p6⟩ := at_T27 (Kd.C_below HR5.out HB3.out) (kk : Int) h0k hltz
      rw [show rd_T27 l0_5 (kk : Int) = l0_5.getD kk z27 from rfl] at p0 p1 p2 p3 p4 p5 p6
      simp only [Int.toNat_natCast] at p0 p1 p2 p3 p4 p5 p6
      generalize l0_5.getD kk z27 = X at hLL p0 p1 p2 p3 p4 p5 p6
      obtain ⟨b, hb, hLL⟩ := Option.bind_eq_some_iff.mp hLL
      have HN := Aside0.mk hLL
      clear hLL
      have B5 := Aside0.mk (blk_alloc B4.out (.cells #[.int .u8 X.f0, .int .u8 X.f1.f0, .int .u32 X.f1.f1, .int .u32 X.f1.f2, .int .i64 X.f2, .int .u8 X.f3, .int .u32 X.f4] 27))
      have E5 := Aside0.mk (blk_new wr (.cells #[.int .u8 X.f0, .int .u8 X.f1.f0, .int .u32 X.f1.f1, .int .u32 X.f1.f2, .int .i64 X.f2, .int .u8 X.f3, .int .u32 X.f4] 27))
      have HB5 := Aside0.mk (HB3.out.alloc HB3.out.size (.cells #[.int .u8 X.f0, .int .u8 X.f1.f0, .int .u32 X.f1.f1, .int .u32 X.f1.f2, .int .i64 X.f2, .int .u8 X.f3, .int .u32 X.f4] 27))
      have BW5 := Aside0.mk (BW.out.alloc BW.out.size (.cells #[.int .u8 X.f0, .int .u8 X.f1.f0, .int .u32 X.f1.f1, .int .u32 X.f1.f2, .int .i64 X.f2, .int .u8 X.f3, .int .u32 X.f4] 27))
      have HO5 := Aside0.mk (Kd.C_alloc HO.out (.cells #[.int .u8 X.f0, .int .u8 X.f1.f0, .int .u32 X.f1.f1, .int .u32 X.f1.f2, .int .i64 X.f2, .int .u8 X.f3, .int .u32 X.f4] 27))
      obtain ⟨q0, q1, q2, q3, q4, q5, q6, q7, q8, q9, q10, q11⟩ := cells12 B5.out
      by_cases hk2 : X.f2 = 2
      · rw [if_pos hk2] at hb
        have HI := Aside0.mk hb
        have hk2b : (X.f2 != 2) = false := by simp [hk2]
        clear hb
        have HE := Aside0.mk hk2
        clear hk2
        go_wp2_with fail
        refine (item_In.calls X.f0 X.f1.f0 X.f1.f1 X.f1.f2 X.f2 X.f3 X.f4 a1_5 b _ HI.out).mono ?_
        rintro ev w6 ⟨rfl, hx⟩
        have E6 := Aside0.mk (blk_below E5.out hx)
        have HB6 := Aside0.mk (below_step HB5.out hx)
        have BW6 := Aside0.mk (below_step BW5.out hx)
        have HO6 := Aside0.mk (Kd.C_below HO5.out hx)
        clear hx E5 HB5 BW5 HO5 B5 p0 p1 p2 p3 p4 p5 p6 q0 q1 q2 q3 q4 q5 q6 q7 q8 q9 q10 q11 HO BW HB3 B3 B4
        obtain ⟨s0, s1, s2, s3, s4, s5, s6⟩ := cells7 E6.out
        have hLL := HN.out
        clear HN
        cases b with
        | false =>
          rw [if_neg (by decide)] at hLL
          have HN := Aside0.mk hLL
          clear hLL
          go_wp2_with fail
          go_roundg (l0_5.length - (kk + 1))
          case measure => omega
          case rel => exact ⟨kk + 1, _, _, out, by omega, Nat.le_refl _, rfl, by go_num, HO6, HOC, BW6, HN⟩
        | true =>
          rw [if_pos rfl] at hLL
          obtain ⟨⟨l2, e2⟩, hd, hLL⟩ := Option.bind_eq_some_iff.mp hLL
          have HD := Aside0.mk hd
          clear hd
          go_wp2_with fail
          refine (know_Drop.calls k _ _ out _ _ l2 e2 _ HO6.out HOC.out HD.out).mono ?_
          rintro ev w7 ⟨v7, rfl, hR7, hx⟩
          obtain ⟨A7, c7, rfl, hD7, hC7⟩ := Kd.R_reads hR7
          have HB7 := Aside0.mk (below_step HB6.out hx)
          have BW7 := Aside0.mk (below_step BW6.out hx)
          have HO7 := Aside0.mk hC7
          have HOC7 := Aside0.mk hD7
          clear hx HB6 BW6 HO6 hR7 hC7 hD7 s0 s1 s2 s3 s4 s5 s6
          cases e2 with
          | some cc =>
            obtain ⟨rfl, rfl⟩ : ([] : List S78) = r1 ∧ some cc = r2 := by
              have := Option.some.inj hLL
              exact ⟨congrArg Prod.fst this, congrArg Prod.snd this⟩
            clear hLL
            go_wp2_with fail
            go_ret2
            exact ⟨_, by first | rfl | rw [eS], Kd.R_nil _ _ _ _ _, HB7.out⟩
          | none =>
            have HN := Aside0.mk (show source_offer.l0 k a1_5 (l0_5.drop (kk + 1)) l2 = some (r1, r2) from hLL)
            clear hLL
            go_wp2_with fail
            go_roundg (l0_5.length - (kk + 1))
            case measure => omega
            case rel => exact ⟨kk + 1, _, _, l2, by omega, Nat.le_refl _, rfl, by go_num, HO7, HOC7, BW7, HN⟩
      · rw [if_neg hk2] at hb
        obtain rfl := Option.some.inj hb
        have hk2b : (X.f2 != 2) = true := by simp [hk2]
        clear hb hk2
        have hLL := HN.out
        clear HN
        rw [if_neg (by decide)] at hLL
        have HN := Aside0.mk hLL
        clear hLL
        go_wp2_with fail
        go_roundg (l0_5.length - (kk + 1))
        case measure => omega
        case rel => exact ⟨kk + 1, _, _, out, by omega, Nat.le_refl _, rfl, by go_num, HO5, HOC, BW5, HN⟩
    · have hltz : ¬ (kk : Int) < (l0_5.length : Int) := by omega
      rw [List.drop_of_length_le (by omega)] at hLL
      obtain ⟨l2, hc, hLL⟩ := Option.bind_eq_some_iff.mp hLL
      have HD := Aside0.mk hc
      obtain ⟨rfl, rfl⟩ : l2 = r1 ∧ none = r2 := by
        have := Option.some.inj hLL
        exact ⟨congrArg Prod.fst this, congrArg Prod.snd this⟩
      clear hLL hc
      go_wp2_with fail
      refine (slices_Clone_Run.calls _ _ out _ _ HO.out HOC.out HD.out).mono ?_
      rintro ev w7 ⟨v7, rfl, hR7, hx⟩
      have HB7 := Aside0.mk (below_step HB3.out hx)
      have HR7 := Aside0.mk hR7
      have hs := Kd.R_slice hR7
      clear hx hR7
      go_wp2_with fail
      go_ret2
      exact ⟨_, by first | rfl | rw [eN], Kd.R_lower HR7.out HB3.out.size, HB7.out⟩
end Go.Proofs.Ytiminjibcafkaaa.X
