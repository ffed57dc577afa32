/- Whatever the two texts are, the law PoseidonConstants returns true and its arguments read as before. -/
import Derived.Test.YteionlpkpphkpaaRows
import Derived.SizedLaws
import Derived.Test.YteionlpkpphkpaaC10
import Derived.Test.YteionlpkpphkpaaC7
import Derived.Test.YteionlpkpphkpaaL0
namespace Go.Proofs.Yteionlpkpphkpaa
open Go.ChangeShapes Go.WideShapes Go.RowKit Go.Av
set_option maxRecDepth 100000
set_option linter.unusedSimpArgs false
set_option linter.unusedVariables false
theorem own : ownKnob Try.prog.godebug = none := by kernel_rfl
theorem outB : laidOutB Try.prog = true := by kernel_rfl
theorem glob_met {W : World} : ∀ g cs, Av.ctx.glob g = some cs → RepR (st0 W) g 0 cs := by
  intro g cs hg
  simp [Av.ctx, globT] at hg
theorem lifted (os : Os) (started : os.Started) (H : Type) (enc : TypeId × Value → H) :
    ReturnsInHanded {} Try.checked os 3 .any (Rows.poseidonConstantsSpec.pre6 enc Try.prog Try.f3 [] false) (Rows.poseidonConstantsSpec.post enc Try.prog Try.f3 false true false false) := by
  refine returnsInHanded_of_change_sized (C := Try.checked) own started (by kernel_rfl) Try.func3
    (ChangeSpec.witness6 (enc := enc) (C := Try.checked) (os := os) false ⟨#[], #[.int .i64 0], []⟩ 8 (by kernel_rfl) (by kernel_rfl) (by kernel_rfl) (by kernel_rfl)) ?_
  intro W base args ds gs before hval0 hW _ _ _
  have hval : ∀ (j : Nat) t v, Try.f3.params[j]? = some t → args[j]? = some v → Value.okWide Try.prog W .any base t v := hval0
  have hW' := hW
  obtain ⟨p, q, hA0, hV, rfl, hfz, hnd⟩ := hW
  have hA : DataW.TrodAll enc Try.prog W 0 (fun _ => true) true Try.f3.params.toList args.toList ds p := hA0
  rw [Try.params3] at hA hval
  obtain ⟨v0, vs0, d0, ds0, p0, q0, hargs, rfl, rfl, h0, r0⟩ := trodAll_cons hA
  obtain ⟨rfl, rfl, rfl⟩ := trodAll_nil r0
  obtain rfl : args = #[v0] := by cases args; simp_all
  obtain ⟨n, hn, e0⟩ := open_in (d := 6) (k := .i64) (by kernel_rfl) (by kernel_rfl) (hval 0 _ v0 rfl rfl) h0
  have hcall := call_top ctx_ok (W := W) (f := Av.i_avouchlaw10zPoseidonConstants) (args := [.int .i64 n]) (cargs := #[v0]) rfl (ok_PoseidonConstants ⟨0, 0, 0, 0⟩ ⟨[], []⟩ n) glob_met (.cons _ _ _ _ e0 .nil)
  refine hcall.mono fun e W' ⟨he, hb⟩ => ?_
  exact ⟨_, he, post_true (t := 4) outB (of_decide_eq_true (by kernel_rfl)) rfl hW' hb (by kernel_rfl) (by kernel_rfl) ⟨rfl, rfl, rfl⟩⟩
theorem poseidonConstants_holds : Rows.PoseidonConstantsSaid :=
  OpenClaim.holds_of_wide 3 Try.f3 rfl rfl rfl rfl rfl rfl rfl ⟨rfl, rfl, rfl, rfl, rfl⟩ rfl rfl rfl rfl rfl (by kernel_rfl) Try.func3 (by kernel_rfl)
    (of_decide_eq_true (by kernel_rfl)) (by unfold Func.isWrapper; first | (rw [if_pos (by decide +kernel)]; kernel_rfl) | (rw [if_neg (by decide +kernel)]; exact ⟨rfl, rfl⟩))
    (fun os started H enc _ => lifted os started H enc)
#print axioms poseidonConstants_holds
end Go.Proofs.Yteionlpkpphkpaa
