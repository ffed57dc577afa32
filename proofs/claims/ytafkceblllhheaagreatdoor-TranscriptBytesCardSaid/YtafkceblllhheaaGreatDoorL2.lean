/- Closed facts of the row, reckoned by the kernel one by one. -/
import Derived.Test.YtafkceblllhheaaGreatDoorRows
import Derived.Test.YtafkceblllhheaaGreatDoorChecked
import Derived.JoinedOf
import Derived.KernelRfl
set_option maxRecDepth 100000
namespace Go.Proofs.YtafkceblllhheaaGreatDoor
open Go.ChangeShapes Go.WideShapes
theorem jIn:(Rows.transcriptBytesRow.inPlace==Tryz.prog.inPlace 7)=true:=by kernel_rfl
theorem jUn:(Rows.transcriptBytesRow.unfollowed==Tryz.prog.unfollowed 7)=true:=by kernel_rfl
theorem jRe:(Rows.transcriptBytesRow.recurses==Tryz.prog.recurses 7)=true:=by kernel_rfl
theorem jNa:(Rows.transcriptBytesRow.named==Tryz.prog.varsNamed 7)=true:=by kernel_rfl
theorem zqw:joinedFacts Tryz.prog 7 Tryz.f7 Rows.transcriptBytesSpec Rows.transcriptBytesRow=true:=by
 unfold joinedFacts;rw [jIn,jUn,jRe,jNa]
 kernel_rfl
end Go.Proofs.YtafkceblllhheaaGreatDoor
