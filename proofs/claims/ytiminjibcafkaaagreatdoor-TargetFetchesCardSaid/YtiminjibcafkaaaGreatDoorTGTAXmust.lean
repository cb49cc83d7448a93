/- target.must, both ways. -/
import Derived.Test.YtiminjibcafkaaaGreatDoorTGTAJ5
import Derived.WalkLawsBesides
set_option linter.unusedSimpArgs false
set_option linter.unusedVariables false
namespace Go.Proofs.YtiminjibcafkaaaGreatDoor.X
open RowKit YtiminjibcafkaaaGreatDoorW.PrintWords YtiminjibcafkaaaGreatDoorW.PrintLast YtiminjibcafkaaaGreatDoorW.PrintMore
def leftV (c : Int) : Value:=.iface 72 (.agg #[errW (some c)])
theorem mustRun_ok (v : Value) (w : World) : Calls Tryz.prog 37 #[v,errW none] w fun e w'=>e = .returned v ∧ w = w':=by
 have hu:=Tryz.underlying35;have eN:=errW_none;go_enter Tryz.func37,Tryz.ntmps37;go_wp2;go_ret;exact ⟨rfl,rfl⟩
theorem mustEntry_ok (v : Value) (w : World) : Calls Tryz.prog 75 #[v,errW none] w fun e w'=>e = .returned v ∧ w = w':=by
 have hu:=Tryz.underlying35;have eN:=errW_none;go_enter Tryz.func75,Tryz.ntmps75;go_wp2;go_ret;exact ⟨rfl,rfl⟩
theorem mustRun_panics (v : Value) (c : Int) (w : World) : Calls Tryz.prog 37 #[v,errW (some c)] w fun e w'=>e = .panicked [{ v:=leftV c,recovered:=false }] ∧ w = w':=by
 have hu:=Tryz.underlying35;have hul:=Tryz.underlying72;have eS:=errW_some;go_enter Tryz.func37,Tryz.ntmps37;go_wp2
 first | (go_ret;exact ⟨by rw [leftV,eS],rfl⟩) | (exact ⟨by rw [leftV,eS],rfl⟩) | (simp [bodyPost,leftV,eS];done)
end Go.Proofs.YtiminjibcafkaaaGreatDoor.X
