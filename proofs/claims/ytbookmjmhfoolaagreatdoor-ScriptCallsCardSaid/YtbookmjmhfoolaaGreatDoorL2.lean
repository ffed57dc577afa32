/- Closed facts of the row, reckoned by the kernel one by one. -/
import Derived.Test.YtbookmjmhfoolaaGreatDoorRows
import Derived.Test.YtbookmjmhfoolaaGreatDoorChecked
import Derived.JoinedOf
import Derived.KernelRfl
set_option maxRecDepth 100000
namespace Go.Proofs.YtbookmjmhfoolaaGreatDoor
open Go.ChangeShapes Go.WideShapes
theorem jIn:(Rows.scriptCallsRow.inPlace==Tryz.prog.inPlace 6)=true:=by kernel_rfl
theorem jUn:(Rows.scriptCallsRow.unfollowed==Tryz.prog.unfollowed 6)=true:=by kernel_rfl
theorem jRe:(Rows.scriptCallsRow.recurses==Tryz.prog.recurses 6)=true:=by kernel_rfl
theorem jNa:(Rows.scriptCallsRow.named==Tryz.prog.varsNamed 6)=true:=by kernel_rfl
theorem zQe:joinedFacts Tryz.prog 6 Tryz.f6 Rows.scriptCallsSpec Rows.scriptCallsRow=true:=by
  unfold joinedFacts
  rw [jIn,jUn,jRe,jNa]
  kernel_rfl
end Go.Proofs.YtbookmjmhfoolaaGreatDoor
