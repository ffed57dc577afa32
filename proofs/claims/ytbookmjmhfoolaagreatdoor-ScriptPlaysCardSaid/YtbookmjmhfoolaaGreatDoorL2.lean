/- Closed facts of the row, reckoned by the kernel one by one. -/
import Derived.Test.YtbookmjmhfoolaaGreatDoorRows
import Derived.Test.YtbookmjmhfoolaaGreatDoorChecked
import Derived.JoinedOf
import Derived.KernelRfl
set_option maxRecDepth 100000
namespace Go.Proofs.YtbookmjmhfoolaaGreatDoor
open Go.ChangeShapes Go.WideShapes
theorem jIn:(Rows.scriptPlaysRow.inPlace==Tryz.prog.inPlace 4)=true:=by kernel_rfl
theorem jUn:(Rows.scriptPlaysRow.unfollowed==Tryz.prog.unfollowed 4)=true:=by kernel_rfl
theorem jRe:(Rows.scriptPlaysRow.recurses==Tryz.prog.recurses 4)=true:=by kernel_rfl
theorem jNa:(Rows.scriptPlaysRow.named==Tryz.prog.varsNamed 4)=true:=by kernel_rfl
theorem ztR:joinedFacts Tryz.prog 4 Tryz.f4 Rows.scriptPlaysSpec Rows.scriptPlaysRow=true:=by
 unfold joinedFacts;rw [jIn,jUn,jRe,jNa]
 kernel_rfl
end Go.Proofs.YtbookmjmhfoolaaGreatDoor
