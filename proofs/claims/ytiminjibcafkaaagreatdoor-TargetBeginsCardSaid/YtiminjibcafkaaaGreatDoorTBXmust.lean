/- target.must, both ways. -/
import Derived.Test.YtiminjibcafkaaaGreatDoorTBJ5
import Derived.WalkLawsBesides
namespace Go.Proofs.YtiminjibcafkaaaGreatDoor.X
open Go.RowKit Go.Proofs.YtiminjibcafkaaaGreatDoorW.PrintWords Go.Proofs.YtiminjibcafkaaaGreatDoorW.PrintLast Go.Proofs.YtiminjibcafkaaaGreatDoorW.PrintMore
set_option linter.unusedVariables false
set_option linter.unusedSimpArgs false
theorem mustRun_ok (v : Value) (w : World) : Calls Tryz.prog 37 #[v,errW none] w fun e w'=>e = .returned v ∧ w = w':=by
 have hu:=Tryz.underlying35
 have eN:=errW_none
 go_enter Tryz.func37,Tryz.ntmps37
 go_wp2
 go_ret
 exact ⟨rfl,rfl⟩
theorem mustEntry_ok (v : Value) (w : World) : Calls Tryz.prog 75 #[v,errW none] w fun e w'=>e = .returned v ∧ w = w':=by
 have hu:=Tryz.underlying35
 have eN:=errW_none
 go_enter Tryz.func75,Tryz.ntmps75
 go_wp2
 go_ret
 exact ⟨rfl,rfl⟩
end Go.Proofs.YtiminjibcafkaaaGreatDoor.X
