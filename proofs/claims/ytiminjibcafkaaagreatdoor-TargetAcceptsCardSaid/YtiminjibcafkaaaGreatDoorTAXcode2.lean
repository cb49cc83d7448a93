/- tidingslaw01.Code: the number of an error that is nil or a code. -/
import Derived.Test.YtiminjibcafkaaaGreatDoorTAJ7
set_option linter.unusedSimpArgs false
set_option linter.unusedVariables false
namespace Go.Proofs.YtiminjibcafkaaaGreatDoor.X
open RowKit YtiminjibcafkaaaGreatDoorW.PrintWords YtiminjibcafkaaaGreatDoorW.PrintLast YtiminjibcafkaaaGreatDoorW.PrintMore
def codeOf : Option Int → Int
 | none=>0
 | some c=>if c > 0 then c else -1
set_option maxRecDepth 100000 in
set_option maxHeartbeats 4000000 in
theorem Code_calls (r : Option Int) (w : World) (hg : GT w) : Calls Tryz.prog 11 #[errW r] w fun e w'=>e = .returned (.int .i64 (codeOf r)) ∧ Below w.heap.size w w':=by
 cases r with
 | none =>
  rw [errW_none];go_enter Tryz.func11,Tryz.ntmps11;go_wp2;go_ret;exact ⟨rfl,zS _ _⟩
 | some c =>
  rw [errW_some];have hlt:=hg.lt;have hg1 : (w.alloc (.cells #[.int .i64 0] 70)).cell? ⟨0,0,none⟩ = some (.iface 145 (.agg #[.pointer (some ⟨1,35,none⟩)])):=by
   rw [World.cell?_alloc_lt _ _ ⟨0,0,none⟩ hlt];exact hg
  have HG:=zA hg1;have hc:=As.as_code c ⟨w.heap.size,0,none⟩ (.int .i64 0) (w.alloc (.cells #[.int .i64 0] 70)) HG.out (by simp) (by simp);clear hg hg1 HG;have hb : ∀ w',w' = (((((w.alloc (.cells #[.int .i64 0] 70)).alloc (.cells #[.pointer (some ⟨w.heap.size,0,none⟩)] 85)).alloc (.cells #[.pointer (some ⟨1,85,none⟩),.pointer (some ⟨(w.alloc (.cells #[.int .i64 0] 70)).heap.size,0,none⟩),.int .u64 150] 114)).alloc (.cells #[.pointer (some ⟨1,85,none⟩),.pointer (some ⟨(w.alloc (.cells #[.int .i64 0] 70)).heap.size,0,none⟩),.int .u64 150] 114)).alloc (.cells #[.int .i64 c] 70)).setCell ⟨w.heap.size,0,none⟩ (.int .i64 c) → Below w.heap.size w w' ∧ w'.cell? ⟨w.heap.size,0,none⟩ = some (.int .i64 c):=by
   rintro w' rfl;constructor
   ·exact (((((((zS _ w).alloc (zM _) _).alloc (by simp) _).alloc (by simp;omega) _).alloc (by simp;omega) _).alloc (by simp;omega) _)).setCell (zM _) _
   ·have h0 : (w.alloc (.cells #[.int .i64 0] 70)).heap[w.heap.size]? = some (.cells #[.int .i64 0] 70 (0,0)):=yL w _;exact (zI (blk_put (yE (yE (yE (yE h0 _) _) _) _) 0 _ rfl) 0).trans rfl
  replace hc:=hc.mono fun e w' h=>And.intro h.1 (hb w' h.2)
  clear hb;by_cases hp : c > 0
  ·have hd : decide (c > 0) = true:=zE hp;have hd2 : decide (0 < c) = true:=zE hp;go_enter Tryz.func11,Tryz.ntmps11;go_wp2_with (go_at_call 45;refine hc.mono ?_;rintro e w1 ⟨rfl,hb1,hc1⟩)
   go_ret;exact ⟨by simp [codeOf,hp],hb1⟩
  ·have hd : decide (c > 0) = false:=zF hp;have hd2 : decide (0 < c) = false:=zF hp;go_enter Tryz.func11,Tryz.ntmps11;go_wp2_with (go_at_call 45;refine hc.mono ?_;rintro e w1 ⟨rfl,hb1,hc1⟩)
   go_ret;exact ⟨by (simp [codeOf];intro h;omega),hb1⟩
end Go.Proofs.YtiminjibcafkaaaGreatDoor.X
