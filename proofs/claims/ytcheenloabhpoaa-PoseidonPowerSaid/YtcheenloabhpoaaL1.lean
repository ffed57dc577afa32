/- Whatever the two texts are, the law PoseidonPower returns true and its arguments read as before. -/
import Derived.Test.YtcheenloabhpoaaRows
import Derived.SizedLaws
import Derived.Test.YtcheenloabhpoaaC6
import Derived.Test.YtcheenloabhpoaaC7
import Derived.Test.YtcheenloabhpoaaL0
namespace Go.Proofs.Ytcheenloabhpoaa
open Go.ChangeShapes Go.WideShapes Go.RowKit Go.Av
set_option maxRecDepth 100000
set_option linter.unusedSimpArgs false
set_option linter.unusedVariables false
theorem own : ownKnob Try.prog.godebug = none := by kernel_rfl
theorem outB : laidOutB Try.prog = true := by kernel_rfl
theorem glob_met {W : World} : ∀ g cs, Av.ctx.glob g = some cs → RepR (st0 W) g 0 cs := by
  intro g cs hg
  simp [Av.ctx, globT] at hg
theorem lifted (os : Os) (started : os.Started) (H : Type) (enc : TypeId × Value → H) :
    ReturnsInHanded {} Try.checked os 8 .any (Rows.poseidonPowerSpec.pre6 enc Try.prog Try.f8 [] false) (Rows.poseidonPowerSpec.post enc Try.prog Try.f8 false true false false) := by
  refine returnsInHanded_of_change_sized (C := Try.checked) own started (by kernel_rfl) Try.func8
    (ChangeSpec.witness6 (enc := enc) (C := Try.checked) (os := os) false ⟨#[], #[.slice none 0 0, .slice none 0 0], []⟩ 8 (by kernel_rfl) (by kernel_rfl) (by kernel_rfl) (by kernel_rfl)) ?_
  intro W base args ds gs before hval0 hW _ _ _
  have hval : ∀ (j : Nat) t v, Try.f8.params[j]? = some t → args[j]? = some v → Value.okWide Try.prog W .any base t v := hval0
  have hW' := hW
  obtain ⟨p, q, hA0, hV, rfl, hfz, hnd⟩ := hW
  have hA : DataW.TrodAll enc Try.prog W 0 (fun _ => true) true Try.f8.params.toList args.toList ds p := hA0
  rw [Try.params8] at hA hval
  obtain ⟨v0, vs0, d0, ds0, p0, q0, hargs, rfl, rfl, h0, r0⟩ := trodAll_cons hA
  obtain ⟨v1, vs1, d1, ds1, p1, q1, rfl, rfl, rfl, h1, r1⟩ := trodAll_cons r0
  obtain ⟨rfl, rfl, rfl⟩ := trodAll_nil r1
  obtain rfl : args = #[v0, v1] := by cases args; simp_all
  obtain ⟨es, hes, hel, e0⟩ := open_sl (d := 6) (e := 5) (ts := [.int .u8]) (by kernel_rfl) (by kernel_rfl) (hval 0 _ v0 rfl rfl) h0
  obtain ⟨es1, hes1, hel1, e1⟩ := open_sl (d := 6) (e := 5) (ts := [.int .u8]) (by kernel_rfl) (by kernel_rfl) (hval 1 _ v1 rfl rfl) h1
  obtain ⟨a, rfl, ha⟩ := elems_ints hel
  obtain ⟨b, rfl, hb⟩ := elems_ints hel1
  have hcall := call_top ctx_ok (W := W) (f := Av.i_avouchlaw10zPoseidonPower) (args := [.vsl false (eI .u8 a), .vsl false (eI .u8 b)]) (cargs := #[v0, v1]) rfl (ok_PoseidonPower ⟨0, 0, 0, 0⟩ ⟨[], []⟩ false false a b (inB_of fun x hx => wf_u8 (ha x hx)) (inB_of fun x hx => wf_u8 (hb x hx))) glob_met (.cons _ _ _ _ e0 (.cons _ _ _ _ e1 .nil))
  refine hcall.mono fun e W' ⟨he, hb⟩ => ?_
  exact ⟨_, he, post_true (t := 4) outB (of_decide_eq_true (by kernel_rfl)) rfl hW' hb (by kernel_rfl) (by kernel_rfl) ⟨rfl, rfl, rfl⟩⟩
theorem poseidonPower_holds : Rows.PoseidonPowerSaid :=
  OpenClaim.holds_of_wide 8 Try.f8 rfl rfl rfl rfl rfl rfl rfl ⟨rfl, rfl, rfl, rfl, rfl⟩ rfl rfl rfl rfl rfl (by kernel_rfl) Try.func8 (by kernel_rfl)
    (of_decide_eq_true (by kernel_rfl)) (by unfold Func.isWrapper; first | (rw [if_pos (by decide +kernel)]; kernel_rfl) | (rw [if_neg (by decide +kernel)]; exact ⟨rfl, rfl⟩))
    (fun os started H enc _ => lifted os started H enc)
#print axioms poseidonPower_holds
end Go.Proofs.Ytcheenloabhpoaa
