/- Whatever the items, the backend and the 32 bytes are, the law TagDigests returns true and its arguments read as before, where the table of constants is laid as the program's text lays it. -/
import Derived.Test.YtcheenloabhpoaaDoorRows
import Derived.Test.YtcheenloabhpoaaDoorTie
import Derived.Test.YtcheenloabhpoaaDoorCards
import Derived.Test.YtcheenloabhpoaaDoorC5
import Derived.Test.YtcheenloabhpoaaDoorC6
import Derived.Test.YtcheenloabhpoaaDoorL0
namespace Go.Proofs.YtcheenloabhpoaaDoor
open Go.ChangeShapes Go.WideShapes Go.RowKit Go.Av
set_option maxRecDepth 100000
set_option linter.unusedSimpArgs false
set_option linter.unusedVariables false
theorem own : ownKnob Tryd.prog.godebug = none := by kernel_rfl
theorem outB : laidOutB Tryd.prog = true := by kernel_rfl
theorem gK : Tryd.prog.globalNamed "avouch/keccak.constants" = some 0 := by kernel_rfl
abbrev laidK : List (String × DataW Unit) := [("avouch/keccak.constants", Rows.laid_avouch_keccak_constants)]
theorem laidK_met (os : Os) (args : Array Value) : laidMetH Tryd.prog laidK ((World.laidAll Tryd.prog os laidK).forCall (fun _ _ => 0) ⟨#[], args, []⟩).memory := by
  rw [Go.MakeChecks.laidMetH_plain _ _ _ (by kernel_rfl)]
  exact laidMet_laidAll args (by kernel_rfl) (by kernel_rfl)
def rcI : List Int := [1, 32898, 9223372036854808714, 9223372039002292224, 32907, 2147483649, 9223372039002292353, 9223372036854808585, 138, 136, 2147516425, 2147483658, 2147516555, 9223372036854775947, 9223372036854808713, 9223372036854808579, 9223372036854808578, 9223372036854775936, 32778, 9223372039002259466, 9223372039002292353, 9223372036854808704, 2147483649, 9223372039002292232]
theorem glob_met {W : World} (h : laidMetH Tryd.prog laidK W) : ∀ g cs, Av.ctx.glob g = some cs → RepR (st0 W) g 0 cs := by
  intro g cs hg
  rw [Go.MakeChecks.laidMetH_plain _ _ _ (by kernel_rfl)] at h
  have h1 : RepR (st0 W) 0 0 (rcI.map fun z => .int .u64 z) := tab_laid (t := 101) (e := 33) (n := 24) gK (by kernel_rfl) (by kernel_rfl) (by kernel_rfl) (by kernel_rfl) (by kernel_rfl) h (List.mem_singleton.2 rfl)
  match g, hg with
  | 0, hg => obtain rfl := Option.some.inj hg; exact h1
  | g + 1, hg => simp [Av.ctx, globT] at hg
theorem items_of : ∀ {es : List (List AVal)}, ElemsOk [.int .i64, .int .i64, .int .i64, .str] es → ∃ l : List It, es = l.map It.cells
  | [], _ => ⟨[], rfl⟩
  | e :: es, h => by
    cases h with
    | cons _ _ _ h1 h2 =>
      obtain ⟨l, rfl⟩ := items_of h2
      cases h1 with
      | cons _ _ _ _ a1 h1 =>
        cases h1 with
        | cons _ _ _ _ a2 h1 =>
          cases h1 with
          | cons _ _ _ _ a3 h1 =>
            cases h1 with
            | cons _ _ _ _ a4 h1 =>
              cases h1
              obtain ⟨x1, rfl, _⟩ := ints_of a1
              obtain ⟨x2, rfl, _⟩ := ints_of a2
              obtain ⟨x3, rfl, _⟩ := ints_of a3
              obtain ⟨x4, rfl, _⟩ := str_of a4
              exact ⟨⟨x1, x2, x3, x4⟩ :: l, rfl⟩
theorem lifted (os : Os) (started : os.Started) (H : Type) (enc : TypeId × Value → H) :
    ReturnsInHanded {} Tryd.checked os 3 .any (fun w args => (Rows.tagDigestsSpec.pre enc Tryd.prog Tryd.f3 [] false w args ∧ laidMetH Tryd.prog laidK w) ∧ sizedMet enc Tryd.prog Tryd.f3 (OpenSpec.ofChange Rows.tagDigestsSpec) false w args)
      (Rows.tagDigestsSpec.post enc Tryd.prog Tryd.f3 false true false false) := by
  refine returnsInHanded_of_change_and (C := Tryd.checked) (X := fun w _ => laidMetH Tryd.prog laidK w) (fun _ _ _ hh h => h.of_heap hh) own started (by kernel_rfl) Tryd.func3
    (ChangeSpec.witness_shaped (enc := enc) (C := Tryd.checked) (os := os) (X := fun w _ => laidMetH Tryd.prog laidK w) false (World.laidAll Tryd.prog os laidK) #[.slice none 0 0, .bool false, .agg (Array.replicate 32 (.int .u8 0))] 8 (World.laidAll_os _ _ _) (World.shaped_of_RefB (by kernel_rfl) (by kernel_rfl)) (by kernel_rfl) (by kernel_rfl) (by kernel_rfl) (laidK_met os _)) ?_
  intro W base args ds gs before hval0 hW _ _ hL _
  have hval : ∀ (j : Nat) t v, Tryd.f3.params[j]? = some t → args[j]? = some v → Value.okWide Tryd.prog W .any base t v := hval0
  have hW' := hW
  obtain ⟨p, q, hA0, hV, rfl, hfz, hnd⟩ := hW
  have hA : DataW.TrodAll enc Tryd.prog W 0 (fun _ => true) true Tryd.f3.params.toList args.toList ds p := hA0
  rw [Tryd.params3] at hA hval
  obtain ⟨v0, vs0, d0, ds0, p0, q0, hargs, rfl, rfl, h0, r0⟩ := trodAll_cons hA
  obtain ⟨v1, vs1, d1, ds1, p1, q1, rfl, rfl, rfl, h1, r1⟩ := trodAll_cons r0
  obtain ⟨v2, vs2, d2, ds2, p2, q2, rfl, rfl, rfl, h2, r2⟩ := trodAll_cons r1
  obtain ⟨rfl, rfl, rfl⟩ := trodAll_nil r2
  obtain rfl : args = #[v0, v1, v2] := by cases args; simp_all
  obtain ⟨es, hes, hel, e0⟩ := open_sl (d := 6) (e := 46) (ts := [.int .i64, .int .i64, .int .i64, .str]) (by kernel_rfl) (by kernel_rfl) (hval 0 _ v0 rfl rfl) h0
  obtain ⟨fl, e1⟩ := open_bool (d := 6) (by kernel_rfl) (by kernel_rfl) (hval 1 _ v1 rfl rfl) h1
  obtain ⟨t, ht, hw, e2⟩ := open_ints (d := 6) (k := .u8) (n := 32) (by kernel_rfl) (by decide) (hval 2 _ v2 rfl rfl) h2
  obtain ⟨l, rfl⟩ := items_of hel
  have hcall := call_top ctx_ok (W := W) (f := Av.i_avouchlaw14zTagDigests) (args := [.vsl false (l.map It.cells), .bool fl, .agg (cI .u8 t)]) (cargs := #[v0, v1, v2]) rfl (ok_TagDigests ⟨0, 0, 0, 0⟩ ⟨[], []⟩ l fl t ht (inB_of fun x hx => wf_u8 (hw x hx))) (glob_met hL) (.cons _ _ _ _ e0 (.cons _ _ _ _ e1 (.cons _ _ _ _ e2 .nil)))
  refine hcall.mono fun e W' ⟨he, hb⟩ => ?_
  exact ⟨_, he, post_true (t := 4) outB (of_decide_eq_true (by kernel_rfl)) rfl hW' hb (by kernel_rfl) (by kernel_rfl) ⟨rfl, rfl, rfl⟩⟩
theorem tagDigests_holds : Rows.TagDigestsSaid :=
  OpenClaim.holds_of_wide 3 Tryd.f3 rfl rfl rfl rfl rfl rfl rfl ⟨rfl, rfl, rfl, rfl, rfl⟩ rfl rfl rfl rfl rfl (by kernel_rfl) Tryd.func3 (by kernel_rfl)
    (of_decide_eq_true (by kernel_rfl)) (by unfold Func.isWrapper; first | (rw [if_pos (by decide +kernel)]; kernel_rfl) | (rw [if_neg (by decide +kernel)]; exact ⟨rfl, rfl⟩))
    (fun os started H enc _ => lifted os started H enc)
theorem tagDigests_card : Rows.TagDigestsCardSaid :=
  Claim7.holds_tied_plain_at .later [] [.data] true (true, "22dbbf659890336c9e1da53d53ccaaff568db1d19705bc862b91f233a4bcaba1") false
    tagDigests_holds (fun _ h => by cases h) (by kernel_rfl) (fun _ h => by cases h) tagDigests_row_tie rfl ⟨rfl, rfl⟩ (by kernel_rfl) rfl
    (fun f fn hf hfn => by
      obtain rfl : f = 3 := Option.some.inj ((show Tryd.prog.funcNamed "avouch/avouchlaw14.TagDigests" = some 3 by kernel_rfl).symm.trans hf) |>.symm
      obtain rfl : fn = Tryd.f3 := (Option.some.inj (Tryd.func3.symm.trans hfn)).symm
      exact ⟨by kernel_rfl, fun j t ht => by
        rw [Tryd.params3] at ht
        have h3 : t = 22 ∨ t = 4 ∨ t = 23 := by
          rcases j with _ | _ | _ | j
          · left; simpa using ht.symm
          · right; left; simpa using ht.symm
          · right; right; simpa using ht.symm
          · simp at ht
        rcases h3 with rfl | rfl | rfl
        · exact (show Tryd.prog.wantsStandIn 22 = false by kernel_rfl)
        · exact (show Tryd.prog.wantsStandIn 4 = false by kernel_rfl)
        · exact (show Tryd.prog.wantsStandIn 23 = false by kernel_rfl)⟩)
    (by kernel_rfl)
#print axioms tagDigests_card
end Go.Proofs.YtcheenloabhpoaaDoor
