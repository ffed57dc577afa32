/- Whatever the two texts are, the law PoseidonUnlike returns true and its arguments read as before. -/
import Derived.Test.YteionlpkpphkpaaRows
import Derived.SizedLaws
import Derived.Test.YteionlpkpphkpaaC9
import Derived.Test.YteionlpkpphkpaaC7
import Derived.Test.YteionlpkpphkpaaL0
namespace Go.Av
theorem cells_u8s {avs : List AVal} (h : CellsOk [.sl [.int .u8], .sl [.int .u8], .sl [.int .u8]] avs) : ∃ x y z : List Int, avs = tB [x, y, z] ∧ inB x ∧ inB y ∧ inB z := by
  have one : ∀ c : AVal, CellOk (.sl [.int .u8]) c → ∃ x : List Int, c = .vsl false (eI .u8 x) ∧ inB x := fun c hc => by
    obtain ⟨es, rfl, _, he⟩ := slice_of hc
    obtain ⟨x, rfl, hx⟩ := elems_ints he
    exact ⟨x, rfl, inB_of fun y hy => wf_u8 (hx y hy)⟩
  cases h with
  | cons _ _ c1 cs h1 h =>
    cases h with
    | cons _ _ c2 cs h2 h =>
      cases h with
      | cons _ _ c3 cs h3 h =>
        cases h
        obtain ⟨x, rfl, hx⟩ := one _ h1
        obtain ⟨y, rfl, hy⟩ := one _ h2
        obtain ⟨z, rfl, hz⟩ := one _ h3
        exact ⟨x, y, z, rfl, hx, hy, hz⟩
theorem open_u8s {H : Type} {enc : TypeId × Value → H} {P : Program} {W : World} {base : Nat} {spare : Nat → Bool} {held : Bool} {d : Nat} {t : TypeId} {v : Value} {dd : DataW H} {ps : List MemPlace} (hs : shT P d t = some [.sl [.int .u8], .sl [.int .u8], .sl [.int .u8]])
    (hok : Value.okWide P W .any base t v) (h : DataW.Trod enc P W 0 spare held t v dd ps) : ∃ x y z : List Int, inB x ∧ inB y ∧ inB z ∧ Rep (st0 W) (.agg (tB [x, y, z])) v := by
  rcases open_arg hs hok h with ⟨avs, h1, h2, cs, rfl⟩ | ⟨ty', c, h1, h2, h3, _⟩
  · obtain ⟨x, y, z, rfl, hx, hy, hz⟩ := cells_u8s h1
    exact ⟨x, y, z, hx, hy, hz, h2⟩
  · exfalso
    have := congrArg List.length h1
    simp at this
end Go.Av
namespace Go.Proofs.Yteionlpkpphkpaa
open Go.ChangeShapes Go.WideShapes Go.RowKit Go.Av
set_option maxRecDepth 100000
set_option linter.unusedSimpArgs false
set_option linter.unusedVariables false
theorem own : ownKnob Try.prog.godebug = none := by kernel_rfl
theorem outB : laidOutB Try.prog = true := by kernel_rfl
theorem glob_met {W : World} : ∀ g cs, Av.ctx.glob g = some cs → RepR (st0 W) g 0 cs := by
  intro g cs hg
  simp [Av.ctx, globT] at hg
theorem lifted (os : Os) (started : os.Started) (H : Type) (enc : TypeId × Value → H) :
    ReturnsInHanded {} Try.checked os 4 .any (Rows.poseidonUnlikeSpec.pre6 enc Try.prog Try.f4 [] false) (Rows.poseidonUnlikeSpec.post enc Try.prog Try.f4 false true false false) := by
  refine returnsInHanded_of_change_sized (C := Try.checked) own started (by kernel_rfl) Try.func4
    (ChangeSpec.witness6 (enc := enc) (C := Try.checked) (os := os) false ⟨#[], #[.agg #[.slice none 0 0, .slice none 0 0, .slice none 0 0], .agg #[.slice none 0 0, .slice none 0 0, .slice none 0 0]], []⟩ 8 (by kernel_rfl) (by kernel_rfl) (by kernel_rfl) (by kernel_rfl)) ?_
  intro W base args ds gs before hval0 hW _ _ _
  have hval : ∀ (j : Nat) t v, Try.f4.params[j]? = some t → args[j]? = some v → Value.okWide Try.prog W .any base t v := hval0
  have hW' := hW
  obtain ⟨p, q, hA0, hV, rfl, hfz, hnd⟩ := hW
  have hA : DataW.TrodAll enc Try.prog W 0 (fun _ => true) true Try.f4.params.toList args.toList ds p := hA0
  rw [Try.params4] at hA hval
  obtain ⟨v0, vs0, d0, ds0, p0, q0, hargs, rfl, rfl, h0, r0⟩ := trodAll_cons hA
  obtain ⟨v1, vs1, d1, ds1, p1, q1, rfl, rfl, rfl, h1, r1⟩ := trodAll_cons r0
  obtain ⟨rfl, rfl, rfl⟩ := trodAll_nil r1
  obtain rfl : args = #[v0, v1] := by cases args; simp_all
  obtain ⟨x, y, z, hx, hy, hz, e0⟩ := open_u8s (d := 6) (by kernel_rfl) (hval 0 _ v0 rfl rfl) h0
  obtain ⟨x', y', z', hx', hy', hz', e1⟩ := open_u8s (d := 6) (by kernel_rfl) (hval 1 _ v1 rfl rfl) h1
  have hcall := call_top ctx_ok (W := W) (f := Av.i_avouchlaw10zPoseidonUnlike) (args := [.agg (tB [x, y, z]), .agg (tB [x', y', z'])]) (cargs := #[v0, v1]) rfl (ok_PoseidonUnlike ⟨0, 0, 0, 0⟩ ⟨[], []⟩ x y z x' y' z' hx hy hz hx' hy' hz') glob_met (.cons _ _ _ _ e0 (.cons _ _ _ _ e1 .nil))
  refine hcall.mono fun e W' ⟨he, hb⟩ => ?_
  exact ⟨_, he, post_true (t := 4) outB (of_decide_eq_true (by kernel_rfl)) rfl hW' hb (by kernel_rfl) (by kernel_rfl) ⟨rfl, rfl, rfl⟩⟩
theorem poseidonUnlike_holds : Rows.PoseidonUnlikeSaid :=
  OpenClaim.holds_of_wide 4 Try.f4 rfl rfl rfl rfl rfl rfl rfl ⟨rfl, rfl, rfl, rfl, rfl⟩ rfl rfl rfl rfl rfl (by kernel_rfl) Try.func4 (by kernel_rfl)
    (of_decide_eq_true (by kernel_rfl)) (by unfold Func.isWrapper; first | (rw [if_pos (by decide +kernel)]; kernel_rfl) | (rw [if_neg (by decide +kernel)]; exact ⟨rfl, rfl⟩))
    (fun os started H enc _ => lifted os started H enc)
#print axioms poseidonUnlike_holds
end Go.Proofs.Yteionlpkpphkpaa
