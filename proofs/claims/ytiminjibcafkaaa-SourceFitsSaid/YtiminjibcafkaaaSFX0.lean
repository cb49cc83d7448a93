-- MADE BY wip/prx.py (the kit's printer, with contracts proved by hand). Not trusted: Lean checks it.
import Derived.Test.YtiminjibcafkaaaProg
import Derived.Below
import Derived.Deep.Draws
import Derived.Deep.AppendLies
import Derived.Maps.AppendAt
import Derived.OwnWalk
import Derived.Laws.BytesArg
import Derived.Laws.MakeOwn
import Derived.Laws.OwnMore
import Derived.Deep.OwnRows
import Derived.Tactics
import Derived.Lib.ConvBytes
import Derived.Laws.Slices
import Derived.WalkKit
import Derived.KernelRfl
import Derived.RowKit3
import Derived.Deep.LoopGhost
import Derived.Deep.QuietTactic
import Derived.BigQuiet
import Derived.WideLaws
import Derived.Deep.DeepCutAuto
import Derived.Deep.CutBlock
import Derived.Deep.RegionHeld3
import Derived.Laws.Rows
import Derived.Lib.AppendStr
import Derived.ArgAppend
import Derived.Laws.IdiomCopy
import Derived.OrdersHeld
import Derived.Laws.BitsLemmas
import Derived.RowKit
import Derived.Test.YtiminjibcafkaaaSFWWords
import Derived.Test.YtiminjibcafkaaaSFWLast
import Derived.Test.YtiminjibcafkaaaSFJ2
import Derived.Test.YtiminjibcafkaaaSFJ3
import Derived.Test.YtiminjibcafkaaaSFJ4
import Derived.Test.YtiminjibcafkaaaSFJ5
import Derived.Test.YtiminjibcafkaaaSFJ6
namespace Go.Proofs.Ytiminjibcafkaaa.X
open Go.RowKit Go.Proofs.YtiminjibcafkaaaW.PrintWords Go.Proofs.YtiminjibcafkaaaW.PrintLast Go.Proofs.YtiminjibcafkaaaW.PrintMore
attribute [local go_sem] max2_int min2_int max_two min_two max_three min_three max_four min_four   -- for this text's walks alone
set_option linter.unusedVariables false
set_option linter.unusedSimpArgs false
def errW : Option Int → Value
  | none => .nilIface
  | some c => .iface 67 (.int .i64 c)
theorem errW_none : errW none = .nilIface := rfl
theorem errW_some (c : Int) : errW (some c) = .iface 67 (.int .i64 c) := rfl
theorem info27 : (Try.prog.info? 27).map (fun i => (i.zero, i.size, i.bytes)) = some (some (.agg #[(.int .u8 0), (.int .u8 0), (.int .u32 0), (.int .u32 0), (.int .i64 0), (.int .u8 0), (.int .u32 0)]), 7, 32) := by kernel_rfl
theorem info78 : (Try.prog.info? 78).map (fun i => (i.zero, i.size, i.bytes)) = some (some (.agg #[(.int .u8 0), (.int .u32 0), (.int .u32 0)]), 3, 12) := by kernel_rfl
-- the values' own types
/-! #### struct type 25 -/
structure S25 where
  f0 : Int
  f1 : Int
  f2 : Int
def z25 : S25 := ⟨(0 : Int), (0 : Int), (0 : Int)⟩
def k25 : Kd S25 := Kd.iso (Kd.pair (Kd.int .u8) (Kd.pair (Kd.int .u32) (Kd.int .u32))) (fun x : S25 => (x.f0, x.f1, x.f2))
theorem k25_open {w : World} {x : S25} {cs : List Value} (h : k25.K w x cs) : cs = [.int .u8 x.f0, .int .u32 x.f1, .int .u32 x.f2] := by
  obtain ⟨_, _, rfl, rfl, ⟨_, _, rfl, rfl, rfl⟩⟩ := h
  exact rfl
theorem k25_mk (w : World) (x : S25)  : k25.K w x [.int .u8 x.f0, .int .u32 x.f1, .int .u32 x.f2] := ⟨[.int .u8 x.f0], [.int .u32 x.f1, .int .u32 x.f2], rfl, rfl, ⟨[.int .u32 x.f1], [.int .u32 x.f2], rfl, rfl, rfl⟩⟩
theorem k25_mkM (w : World) (base : Nat) (ok : Nat → Prop) (x : S25)  : k25.M w base ok x [.int .u8 x.f0, .int .u32 x.f1, .int .u32 x.f2] := ⟨[.int .u8 x.f0], [.int .u32 x.f1, .int .u32 x.f2], rfl, rfl, ⟨[.int .u32 x.f1], [.int .u32 x.f2], rfl, rfl, rfl⟩⟩
/-! #### struct type 27 -/
structure S27 where
  f0 : Int
  f1 : S25
  f2 : Int
  f3 : Int
  f4 : Int
def z27 : S27 := ⟨(0 : Int), z25, (0 : Int), (0 : Int), (0 : Int)⟩
def k27 : Kd S27 := Kd.iso (Kd.pair (Kd.int .u8) (Kd.pair k25 (Kd.pair (Kd.int .i64) (Kd.pair (Kd.int .u8) (Kd.int .u32))))) (fun x : S27 => (x.f0, x.f1, x.f2, x.f3, x.f4))
theorem k27_open {w : World} {x : S27} {cs : List Value} (h : k27.K w x cs) : cs = [.int .u8 x.f0, .int .u8 x.f1.f0, .int .u32 x.f1.f1, .int .u32 x.f1.f2, .int .i64 x.f2, .int .u8 x.f3, .int .u32 x.f4] := by
  obtain ⟨_, _, rfl, rfl, ⟨_, _, rfl, s1, ⟨_, _, rfl, rfl, ⟨_, _, rfl, rfl, rfl⟩⟩⟩⟩ := h
  obtain rfl := k25_open s1
  exact rfl
theorem k27_mk (w : World) (x : S27)  : k27.K w x [.int .u8 x.f0, .int .u8 x.f1.f0, .int .u32 x.f1.f1, .int .u32 x.f1.f2, .int .i64 x.f2, .int .u8 x.f3, .int .u32 x.f4] := ⟨[.int .u8 x.f0], [.int .u8 x.f1.f0, .int .u32 x.f1.f1, .int .u32 x.f1.f2, .int .i64 x.f2, .int .u8 x.f3, .int .u32 x.f4], rfl, rfl, ⟨[.int .u8 x.f1.f0, .int .u32 x.f1.f1, .int .u32 x.f1.f2], [.int .i64 x.f2, .int .u8 x.f3, .int .u32 x.f4], rfl, (k25_mk w x.f1 ), ⟨[.int .i64 x.f2], [.int .u8 x.f3, .int .u32 x.f4], rfl, rfl, ⟨[.int .u8 x.f3], [.int .u32 x.f4], rfl, rfl, rfl⟩⟩⟩⟩
theorem k27_mkM (w : World) (base : Nat) (ok : Nat → Prop) (x : S27)  : k27.M w base ok x [.int .u8 x.f0, .int .u8 x.f1.f0, .int .u32 x.f1.f1, .int .u32 x.f1.f2, .int .i64 x.f2, .int .u8 x.f3, .int .u32 x.f4] := ⟨[.int .u8 x.f0], [.int .u8 x.f1.f0, .int .u32 x.f1.f1, .int .u32 x.f1.f2, .int .i64 x.f2, .int .u8 x.f3, .int .u32 x.f4], rfl, rfl, ⟨[.int .u8 x.f1.f0, .int .u32 x.f1.f1, .int .u32 x.f1.f2], [.int .i64 x.f2, .int .u8 x.f3, .int .u32 x.f4], rfl, (k25_mkM w base ok x.f1 ), ⟨[.int .i64 x.f2], [.int .u8 x.f3, .int .u32 x.f4], rfl, rfl, ⟨[.int .u8 x.f3], [.int .u32 x.f4], rfl, rfl, rfl⟩⟩⟩⟩
def rd_T27 (xs : List S27) (i : Int) : S27 := xs.getD i.toNat z27
theorem at_T27 {w : World} {A : Option Addr} {n : Nat} {xs : List S27} (h : Kd.C k27 w A n xs) (i : Int) (h0 : 0 ≤ i) (h1 : i < n) : ∃ ad , A = some ad ∧ w.cell? (ad.add (i.toNat * 7)) = some (.int .u8 (rd_T27 xs i).f0) ∧ w.cell? ⟨(ad.add (i.toNat * 7)).block, (ad.add (i.toNat * 7)).off + 1, none⟩ = some (.int .u8 (rd_T27 xs i).f1.f0) ∧ w.cell? ⟨(ad.add (i.toNat * 7)).block, (ad.add (i.toNat * 7)).off + 2, none⟩ = some (.int .u32 (rd_T27 xs i).f1.f1) ∧ w.cell? ⟨(ad.add (i.toNat * 7)).block, (ad.add (i.toNat * 7)).off + 3, none⟩ = some (.int .u32 (rd_T27 xs i).f1.f2) ∧ w.cell? ⟨(ad.add (i.toNat * 7)).block, (ad.add (i.toNat * 7)).off + 4, none⟩ = some (.int .i64 (rd_T27 xs i).f2) ∧ w.cell? ⟨(ad.add (i.toNat * 7)).block, (ad.add (i.toNat * 7)).off + 5, none⟩ = some (.int .u8 (rd_T27 xs i).f3) ∧ w.cell? ⟨(ad.add (i.toNat * 7)).block, (ad.add (i.toNat * 7)).off + 6, none⟩ = some (.int .u32 (rd_T27 xs i).f4) := by
  obtain ⟨ad, c, e, _, hK, hc0⟩ := Kd.C_get h z27 i h0 h1
  have hc : ∀ j u, c[j]? = some u → w.cell? (ad.add (i.toNat * 7 + j)) = some u := hc0
  obtain rfl := k27_open hK
  exact ⟨ad, e, hc 0 _ rfl, by rw [← add_field _ _ 1 (by omega)]; exact hc 1 _ rfl, by rw [← add_field _ _ 2 (by omega)]; exact hc 2 _ rfl, by rw [← add_field _ _ 3 (by omega)]; exact hc 3 _ rfl, by rw [← add_field _ _ 4 (by omega)]; exact hc 4 _ rfl, by rw [← add_field _ _ 5 (by omega)]; exact hc 5 _ rfl, by rw [← add_field _ _ 6 (by omega)]; exact hc 6 _ rfl⟩
/-! #### struct type 78 -/
structure S78 where
  f0 : Int
  f1 : Int
  f2 : Int
def z78 : S78 := ⟨(0 : Int), (0 : Int), (0 : Int)⟩
def k78 : Kd S78 := Kd.iso (Kd.pair (Kd.int .u8) (Kd.pair (Kd.int .u32) (Kd.int .u32))) (fun x : S78 => (x.f0, x.f1, x.f2))
theorem k78_open {w : World} {x : S78} {cs : List Value} (h : k78.K w x cs) : cs = [.int .u8 x.f0, .int .u32 x.f1, .int .u32 x.f2] := by
  obtain ⟨_, _, rfl, rfl, ⟨_, _, rfl, rfl, rfl⟩⟩ := h
  exact rfl
theorem k78_mk (w : World) (x : S78)  : k78.K w x [.int .u8 x.f0, .int .u32 x.f1, .int .u32 x.f2] := ⟨[.int .u8 x.f0], [.int .u32 x.f1, .int .u32 x.f2], rfl, rfl, ⟨[.int .u32 x.f1], [.int .u32 x.f2], rfl, rfl, rfl⟩⟩
theorem k78_mkM (w : World) (base : Nat) (ok : Nat → Prop) (x : S78)  : k78.M w base ok x [.int .u8 x.f0, .int .u32 x.f1, .int .u32 x.f2] := ⟨[.int .u8 x.f0], [.int .u32 x.f1, .int .u32 x.f2], rfl, rfl, ⟨[.int .u32 x.f1], [.int .u32 x.f2], rfl, rfl, rfl⟩⟩
def rd_T78 (xs : List S78) (i : Int) : S78 := xs.getD i.toNat z78
theorem at_T78 {w : World} {A : Option Addr} {n : Nat} {xs : List S78} (h : Kd.C k78 w A n xs) (i : Int) (h0 : 0 ≤ i) (h1 : i < n) : ∃ ad , A = some ad ∧ w.cell? (ad.add (i.toNat * 3)) = some (.int .u8 (rd_T78 xs i).f0) ∧ w.cell? ⟨(ad.add (i.toNat * 3)).block, (ad.add (i.toNat * 3)).off + 1, none⟩ = some (.int .u32 (rd_T78 xs i).f1) ∧ w.cell? ⟨(ad.add (i.toNat * 3)).block, (ad.add (i.toNat * 3)).off + 2, none⟩ = some (.int .u32 (rd_T78 xs i).f2) := by
  obtain ⟨ad, c, e, _, hK, hc0⟩ := Kd.C_get h z78 i h0 h1
  have hc : ∀ j u, c[j]? = some u → w.cell? (ad.add (i.toNat * 3 + j)) = some u := hc0
  obtain rfl := k78_open hK
  exact ⟨ad, e, hc 0 _ rfl, by rw [← add_field _ _ 1 (by omega)]; exact hc 1 _ rfl, by rw [← add_field _ _ 2 (by omega)]; exact hc 2 _ rfl⟩
/-! #### struct type 49 -/
structure S49 where
  f0 : Bool
  f1 : Int
  f2 : Int
  f3 : Int
  f4 : Int
  f5 : (List S78)
  f6 : Int
def k49 : Kd S49 := Kd.iso (Kd.pair Kd.bool (Kd.pair (Kd.int .u32) (Kd.pair (Kd.int .u8) (Kd.pair (Kd.int .u8) (Kd.pair (Kd.int .u32) (Kd.pair (Kd.slice 78 k78) (Kd.int .u32))))))) (fun x : S49 => (x.f0, x.f1, x.f2, x.f3, x.f4, x.f5, x.f6))
theorem k49_open {w : World} {x : S49} {cs : List Value} (h : k49.K w x cs) : ∃ A5 c5, cs = [.bool x.f0, .int .u32 x.f1, .int .u8 x.f2, .int .u8 x.f3, .int .u32 x.f4, .slice A5 x.f5.length c5, .int .u32 x.f6] ∧ x.f5.length ≤ c5 ∧ k78.C w A5 x.f5.length x.f5 := by
  obtain ⟨_, _, rfl, rfl, ⟨_, _, rfl, rfl, ⟨_, _, rfl, rfl, ⟨_, _, rfl, rfl, ⟨_, _, rfl, rfl, ⟨_, _, rfl, ⟨A5, c5, rfl, l5, g5⟩, rfl⟩⟩⟩⟩⟩⟩ := h
  exact ⟨A5, c5, rfl, l5, g5⟩
theorem k49_mk (w : World) (x : S49) {A5 : Option Addr} {c5 : Nat} (l5 : x.f5.length ≤ c5) (g5 : k78.C w A5 x.f5.length x.f5) : k49.K w x [.bool x.f0, .int .u32 x.f1, .int .u8 x.f2, .int .u8 x.f3, .int .u32 x.f4, .slice A5 x.f5.length c5, .int .u32 x.f6] := ⟨[.bool x.f0], [.int .u32 x.f1, .int .u8 x.f2, .int .u8 x.f3, .int .u32 x.f4, .slice A5 x.f5.length c5, .int .u32 x.f6], rfl, rfl, ⟨[.int .u32 x.f1], [.int .u8 x.f2, .int .u8 x.f3, .int .u32 x.f4, .slice A5 x.f5.length c5, .int .u32 x.f6], rfl, rfl, ⟨[.int .u8 x.f2], [.int .u8 x.f3, .int .u32 x.f4, .slice A5 x.f5.length c5, .int .u32 x.f6], rfl, rfl, ⟨[.int .u8 x.f3], [.int .u32 x.f4, .slice A5 x.f5.length c5, .int .u32 x.f6], rfl, rfl, ⟨[.int .u32 x.f4], [.slice A5 x.f5.length c5, .int .u32 x.f6], rfl, rfl, ⟨[.slice A5 x.f5.length c5], [.int .u32 x.f6], rfl, ⟨A5, c5, rfl, l5, g5⟩, rfl⟩⟩⟩⟩⟩⟩
/-! #### struct type 51 -/
structure S51 where
  f0 : Int
  f1 : Int
  f2 : Int
  f3 : Int
  f4 : (List S78)
  f5 : (List S27)
  f6 : S49
def k51 : Kd S51 := Kd.iso (Kd.pair (Kd.int .u8) (Kd.pair (Kd.int .u8) (Kd.pair (Kd.int .u32) (Kd.pair (Kd.int .u32) (Kd.pair (Kd.slice 78 k78) (Kd.pair (Kd.slice 27 k27) k49)))))) (fun x : S51 => (x.f0, x.f1, x.f2, x.f3, x.f4, x.f5, x.f6))
theorem k51_open {w : World} {x : S51} {cs : List Value} (h : k51.K w x cs) : ∃ A4 c4 A5 c5 A11 c11, cs = [.int .u8 x.f0, .int .u8 x.f1, .int .u32 x.f2, .int .u32 x.f3, .slice A4 x.f4.length c4, .slice A5 x.f5.length c5, .bool x.f6.f0, .int .u32 x.f6.f1, .int .u8 x.f6.f2, .int .u8 x.f6.f3, .int .u32 x.f6.f4, .slice A11 x.f6.f5.length c11, .int .u32 x.f6.f6] ∧ x.f4.length ≤ c4 ∧ k78.C w A4 x.f4.length x.f4 ∧ x.f5.length ≤ c5 ∧ k27.C w A5 x.f5.length x.f5 ∧ x.f6.f5.length ≤ c11 ∧ k78.C w A11 x.f6.f5.length x.f6.f5 := by
  obtain ⟨_, _, rfl, rfl, ⟨_, _, rfl, rfl, ⟨_, _, rfl, rfl, ⟨_, _, rfl, rfl, ⟨_, _, rfl, ⟨A4, c4, rfl, l4, g4⟩, ⟨_, _, rfl, ⟨A5, c5, rfl, l5, g5⟩, s6⟩⟩⟩⟩⟩⟩ := h
  obtain ⟨A11, c11, rfl, l11, g11⟩ := k49_open s6
  exact ⟨A4, c4, A5, c5, A11, c11, rfl, l4, g4, l5, g5, l11, g11⟩
theorem k51_mk (w : World) (x : S51) {A4 : Option Addr} {c4 : Nat} (l4 : x.f4.length ≤ c4) (g4 : k78.C w A4 x.f4.length x.f4) {A5 : Option Addr} {c5 : Nat} (l5 : x.f5.length ≤ c5) (g5 : k27.C w A5 x.f5.length x.f5) {A11 : Option Addr} {c11 : Nat} (l11 : x.f6.f5.length ≤ c11) (g11 : k78.C w A11 x.f6.f5.length x.f6.f5) : k51.K w x [.int .u8 x.f0, .int .u8 x.f1, .int .u32 x.f2, .int .u32 x.f3, .slice A4 x.f4.length c4, .slice A5 x.f5.length c5, .bool x.f6.f0, .int .u32 x.f6.f1, .int .u8 x.f6.f2, .int .u8 x.f6.f3, .int .u32 x.f6.f4, .slice A11 x.f6.f5.length c11, .int .u32 x.f6.f6] := ⟨[.int .u8 x.f0], [.int .u8 x.f1, .int .u32 x.f2, .int .u32 x.f3, .slice A4 x.f4.length c4, .slice A5 x.f5.length c5, .bool x.f6.f0, .int .u32 x.f6.f1, .int .u8 x.f6.f2, .int .u8 x.f6.f3, .int .u32 x.f6.f4, .slice A11 x.f6.f5.length c11, .int .u32 x.f6.f6], rfl, rfl, ⟨[.int .u8 x.f1], [.int .u32 x.f2, .int .u32 x.f3, .slice A4 x.f4.length c4, .slice A5 x.f5.length c5, .bool x.f6.f0, .int .u32 x.f6.f1, .int .u8 x.f6.f2, .int .u8 x.f6.f3, .int .u32 x.f6.f4, .slice A11 x.f6.f5.length c11, .int .u32 x.f6.f6], rfl, rfl, ⟨[.int .u32 x.f2], [.int .u32 x.f3, .slice A4 x.f4.length c4, .slice A5 x.f5.length c5, .bool x.f6.f0, .int .u32 x.f6.f1, .int .u8 x.f6.f2, .int .u8 x.f6.f3, .int .u32 x.f6.f4, .slice A11 x.f6.f5.length c11, .int .u32 x.f6.f6], rfl, rfl, ⟨[.int .u32 x.f3], [.slice A4 x.f4.length c4, .slice A5 x.f5.length c5, .bool x.f6.f0, .int .u32 x.f6.f1, .int .u8 x.f6.f2, .int .u8 x.f6.f3, .int .u32 x.f6.f4, .slice A11 x.f6.f5.length c11, .int .u32 x.f6.f6], rfl, rfl, ⟨[.slice A4 x.f4.length c4], [.slice A5 x.f5.length c5, .bool x.f6.f0, .int .u32 x.f6.f1, .int .u8 x.f6.f2, .int .u8 x.f6.f3, .int .u32 x.f6.f4, .slice A11 x.f6.f5.length c11, .int .u32 x.f6.f6], rfl, ⟨A4, c4, rfl, l4, g4⟩, ⟨[.slice A5 x.f5.length c5], [.bool x.f6.f0, .int .u32 x.f6.f1, .int .u8 x.f6.f2, .int .u8 x.f6.f3, .int .u32 x.f6.f4, .slice A11 x.f6.f5.length c11, .int .u32 x.f6.f6], rfl, ⟨A5, c5, rfl, l5, g5⟩, (k49_mk w x.f6 l11 g11)⟩⟩⟩⟩⟩⟩
/-! #### struct type 53 -/
structure S53 where
  f0 : Int
  f1 : Int
  f2 : Int
  f3 : Int
  f4 : Int
  f5 : Int
  f6 : (List S78)
  f7 : Int
  f8 : (List S27)
  f9 : Int
  f10 : Bool
  f11 : (List S78)
def k53 : Kd S53 := Kd.iso (Kd.pair (Kd.int .i64) (Kd.pair (Kd.int .u8) (Kd.pair (Kd.int .u8) (Kd.pair (Kd.int .u32) (Kd.pair (Kd.int .u8) (Kd.pair (Kd.int .u8) (Kd.pair (Kd.slice 78 k78) (Kd.pair (Kd.int .u32) (Kd.pair (Kd.slice 27 k27) (Kd.pair (Kd.int .u8) (Kd.pair Kd.bool (Kd.slice 78 k78)))))))))))) (fun x : S53 => (x.f0, x.f1, x.f2, x.f3, x.f4, x.f5, x.f6, x.f7, x.f8, x.f9, x.f10, x.f11))
theorem k53_open {w : World} {x : S53} {cs : List Value} (h : k53.K w x cs) : ∃ A6 c6 A8 c8 A11 c11, cs = [.int .i64 x.f0, .int .u8 x.f1, .int .u8 x.f2, .int .u32 x.f3, .int .u8 x.f4, .int .u8 x.f5, .slice A6 x.f6.length c6, .int .u32 x.f7, .slice A8 x.f8.length c8, .int .u8 x.f9, .bool x.f10, .slice A11 x.f11.length c11] ∧ x.f6.length ≤ c6 ∧ k78.C w A6 x.f6.length x.f6 ∧ x.f8.length ≤ c8 ∧ k27.C w A8 x.f8.length x.f8 ∧ x.f11.length ≤ c11 ∧ k78.C w A11 x.f11.length x.f11 := by
  obtain ⟨_, _, rfl, rfl, ⟨_, _, rfl, rfl, ⟨_, _, rfl, rfl, ⟨_, _, rfl, rfl, ⟨_, _, rfl, rfl, ⟨_, _, rfl, rfl, ⟨_, _, rfl, ⟨A6, c6, rfl, l6, g6⟩, ⟨_, _, rfl, rfl, ⟨_, _, rfl, ⟨A8, c8, rfl, l8, g8⟩, ⟨_, _, rfl, rfl, ⟨_, _, rfl, rfl, ⟨A11, c11, rfl, l11, g11⟩⟩⟩⟩⟩⟩⟩⟩⟩⟩⟩⟩ := h
  exact ⟨A6, c6, A8, c8, A11, c11, rfl, l6, g6, l8, g8, l11, g11⟩
theorem k53_mk (w : World) (x : S53) {A6 : Option Addr} {c6 : Nat} (l6 : x.f6.length ≤ c6) (g6 : k78.C w A6 x.f6.length x.f6) {A8 : Option Addr} {c8 : Nat} (l8 : x.f8.length ≤ c8) (g8 : k27.C w A8 x.f8.length x.f8) {A11 : Option Addr} {c11 : Nat} (l11 : x.f11.length ≤ c11) (g11 : k78.C w A11 x.f11.length x.f11) : k53.K w x [.int .i64 x.f0, .int .u8 x.f1, .int .u8 x.f2, .int .u32 x.f3, .int .u8 x.f4, .int .u8 x.f5, .slice A6 x.f6.length c6, .int .u32 x.f7, .slice A8 x.f8.length c8, .int .u8 x.f9, .bool x.f10, .slice A11 x.f11.length c11] := ⟨[.int .i64 x.f0], [.int .u8 x.f1, .int .u8 x.f2, .int .u32 x.f3, .int .u8 x.f4, .int .u8 x.f5, .slice A6 x.f6.length c6, .int .u32 x.f7, .slice A8 x.f8.length c8, .int .u8 x.f9, .bool x.f10, .slice A11 x.f11.length c11], rfl, rfl, ⟨[.int .u8 x.f1], [.int .u8 x.f2, .int .u32 x.f3, .int .u8 x.f4, .int .u8 x.f5, .slice A6 x.f6.length c6, .int .u32 x.f7, .slice A8 x.f8.length c8, .int .u8 x.f9, .bool x.f10, .slice A11 x.f11.length c11], rfl, rfl, ⟨[.int .u8 x.f2], [.int .u32 x.f3, .int .u8 x.f4, .int .u8 x.f5, .slice A6 x.f6.length c6, .int .u32 x.f7, .slice A8 x.f8.length c8, .int .u8 x.f9, .bool x.f10, .slice A11 x.f11.length c11], rfl, rfl, ⟨[.int .u32 x.f3], [.int .u8 x.f4, .int .u8 x.f5, .slice A6 x.f6.length c6, .int .u32 x.f7, .slice A8 x.f8.length c8, .int .u8 x.f9, .bool x.f10, .slice A11 x.f11.length c11], rfl, rfl, ⟨[.int .u8 x.f4], [.int .u8 x.f5, .slice A6 x.f6.length c6, .int .u32 x.f7, .slice A8 x.f8.length c8, .int .u8 x.f9, .bool x.f10, .slice A11 x.f11.length c11], rfl, rfl, ⟨[.int .u8 x.f5], [.slice A6 x.f6.length c6, .int .u32 x.f7, .slice A8 x.f8.length c8, .int .u8 x.f9, .bool x.f10, .slice A11 x.f11.length c11], rfl, rfl, ⟨[.slice A6 x.f6.length c6], [.int .u32 x.f7, .slice A8 x.f8.length c8, .int .u8 x.f9, .bool x.f10, .slice A11 x.f11.length c11], rfl, ⟨A6, c6, rfl, l6, g6⟩, ⟨[.int .u32 x.f7], [.slice A8 x.f8.length c8, .int .u8 x.f9, .bool x.f10, .slice A11 x.f11.length c11], rfl, rfl, ⟨[.slice A8 x.f8.length c8], [.int .u8 x.f9, .bool x.f10, .slice A11 x.f11.length c11], rfl, ⟨A8, c8, rfl, l8, g8⟩, ⟨[.int .u8 x.f9], [.bool x.f10, .slice A11 x.f11.length c11], rfl, rfl, ⟨[.bool x.f10], [.slice A11 x.f11.length c11], rfl, rfl, ⟨A11, c11, rfl, l11, g11⟩⟩⟩⟩⟩⟩⟩⟩⟩⟩⟩⟩
end Go.Proofs.Ytiminjibcafkaaa.X
