/- Closed facts of the row, reckoned by the kernel one by one. -/
import Derived.Test.YtbookmjmhfoolaaGreatDoorRows
import Derived.Test.YtbookmjmhfoolaaGreatDoorChecked
import Derived.JoinedOf
import Derived.KernelRfl
set_option maxRecDepth 100000
namespace Go.Proofs.YtbookmjmhfoolaaGreatDoor
open Go.ChangeShapes Go.WideShapes
theorem jIn:(Rows.scriptAgainRow.inPlace==Tryz.prog.inPlace 5)=true:=by kernel_rfl
theorem jUn:(Rows.scriptAgainRow.unfollowed==Tryz.prog.unfollowed 5)=true:=by kernel_rfl
theorem jRe:(Rows.scriptAgainRow.recurses==Tryz.prog.recurses 5)=true:=by kernel_rfl
theorem jNa:(Rows.scriptAgainRow.named==Tryz.prog.varsNamed 5)=true:=by kernel_rfl
theorem zQE:joinedFacts Tryz.prog 5 Tryz.f5 Rows.scriptAgainSpec Rows.scriptAgainRow=true:=by
  unfold joinedFacts
  rw [jIn,jUn,jRe,jNa]
  kernel_rfl
end Go.Proofs.YtbookmjmhfoolaaGreatDoor
