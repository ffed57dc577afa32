/- Closed facts of the row, reckoned by the kernel one by one. -/
import Derived.Test.YtbookmjmhfoolaaGreatDoorRows
import Derived.Test.YtbookmjmhfoolaaGreatDoorChecked
import Derived.JoinedOf
import Derived.KernelRfl
set_option maxRecDepth 100000
namespace Go.Proofs.YtbookmjmhfoolaaGreatDoor
open Go.ChangeShapes Go.WideShapes
theorem jIn:(Rows.topSticksRow.inPlace==Tryz.prog.inPlace 3)=true:=by kernel_rfl
theorem jUn:(Rows.topSticksRow.unfollowed==Tryz.prog.unfollowed 3)=true:=by kernel_rfl
theorem jRe:(Rows.topSticksRow.recurses==Tryz.prog.recurses 3)=true:=by kernel_rfl
theorem jNa:(Rows.topSticksRow.named==Tryz.prog.varsNamed 3)=true:=by kernel_rfl
theorem zR8:joinedFacts Tryz.prog 3 Tryz.f3 Rows.topSticksSpec Rows.topSticksRow=true:=by
  unfold joinedFacts
  rw [jIn,jUn,jRe,jNa]
  kernel_rfl
end Go.Proofs.YtbookmjmhfoolaaGreatDoor
