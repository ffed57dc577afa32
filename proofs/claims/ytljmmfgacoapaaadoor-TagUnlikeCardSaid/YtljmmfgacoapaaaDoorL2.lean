/- Whatever two backends and two lists of items are, the law TagUnlike returns true and its arguments read as before, where the table of constants is laid as the program's text lays it. -/
import Derived.Test.YtljmmfgacoapaaaDoorRows
import Derived.Test.YtljmmfgacoapaaaDoorTie
import Derived.Test.YtljmmfgacoapaaaDoorCards
import Derived.Test.YtljmmfgacoapaaaDoorC5
import Derived.Test.YtljmmfgacoapaaaDoorC6
import Derived.Test.YtljmmfgacoapaaaDoorL0
namespace Go.Proofs.YtljmmfgacoapaaaDoor
open Go.ChangeShapes Go.WideShapes Go.RowKit Go.Av
set_option maxRecDepth 100000
set_option linter.unusedSimpArgs false
set_option linter.unusedVariables false
theorem own : ownKnob Tryd.prog.godebug = none := by kernel_rfl
theorem outB : laidOutB Tryd.prog = true := by kernel_rfl
theorem gK : Tryd.prog.globalNamed "avouch/keccak.constants" = some 0 := by kernel_rfl
abbrev laidK : List (String × DataW Unit) := [("avouch/keccak.constants", Rows.laid_avouch_keccak_constants)]
theorem laidK_met (os : Os) (args : Array Value) : laidMetH Tryd.prog laidK ((World.laidAll Tryd.prog os laidK).forCall (fun _ _ => 0) ⟨#[], args, []⟩).memory := by
  rw [Go.MakeChecks.laidMetH_plain _ _ _ (by kernel_rfl)]
  exact laidMet_laidAll args (by kernel_rfl) (by kernel_rfl)
def rcI : List Int := [1, 32898, 9223372036854808714, 9223372039002292224, 32907, 2147483649, 9223372039002292353, 9223372036854808585, 138, 136, 2147516425, 2147483658, 2147516555, 9223372036854775947, 9223372036854808713, 9223372036854808579, 9223372036854808578, 9223372036854775936, 32778, 9223372039002259466, 9223372039002292353, 9223372036854808704, 2147483649, 9223372039002292232]
theorem glob_met {W : World} (h : laidMetH Tryd.prog laidK W) : ∀ g cs, Av.ctx.glob g = some cs → RepR (st0 W) g 0 cs := by
  intro g cs hg
  rw [Go.MakeChecks.laidMetH_plain _ _ _ (by kernel_rfl)] at h
  have h1 : RepR (st0 W) 0 0 (rcI.map fun z => .int .u64 z) := tab_laid (t := 157) (e := 76) (n := 24) gK (by kernel_rfl) (by kernel_rfl) (by kernel_rfl) (by kernel_rfl) (by kernel_rfl) h (List.mem_singleton.2 rfl)
  match g, hg with
  | 0, hg => obtain rfl := Option.some.inj hg; exact h1
  | g + 1, hg => simp [Av.ctx, globT] at hg
theorem ctx_ok : CtxOk Av.ctx Tryd.prog := ⟨fns_ok, fun f g h => by simp [Av.ctx] at h, fun t n p f h => by simp [Av.ctx] at h⟩
theorem items_of : ∀ {es : List (List AVal)}, ElemsOk [.int .i64, .int .i64, .int .i64, .str] es → ∃ l : List It, es = l.map It.cells
  | [], _ => ⟨[], rfl⟩
  | e :: es, h => by
    cases h with
    | cons _ _ _ h1 h2 =>
      obtain ⟨l, rfl⟩ := items_of h2
      cases h1 with
      | cons _ _ _ _ a1 h1 =>
        cases h1 with
        | cons _ _ _ _ a2 h1 =>
          cases h1 with
          | cons _ _ _ _ a3 h1 =>
            cases h1 with
            | cons _ _ _ _ a4 h1 =>
              cases h1
              obtain ⟨x1, rfl, _⟩ := ints_of a1
              obtain ⟨x2, rfl, _⟩ := ints_of a2
              obtain ⟨x3, rfl, _⟩ := ints_of a3
              obtain ⟨x4, rfl, _⟩ := str_of a4
              exact ⟨⟨x1, x2, x3, x4⟩ :: l, rfl⟩
theorem lifted (os : Os) (started : os.Started) (H : Type) (enc : TypeId × Value → H) :
    ReturnsInHanded {} Tryd.checked os 4 .any (fun w args => (Rows.tagUnlikeSpec.pre enc Tryd.prog Tryd.f4 [] false w args ∧ laidMetH Tryd.prog laidK w) ∧ sizedMet enc Tryd.prog Tryd.f4 (OpenSpec.ofChange Rows.tagUnlikeSpec) false w args)
      (Rows.tagUnlikeSpec.post enc Tryd.prog Tryd.f4 false true false false) := by
  refine returnsInHanded_of_change_and (C := Tryd.checked) (X := fun w _ => laidMetH Tryd.prog laidK w) (fun _ _ _ hh h => h.of_heap hh) own started (by kernel_rfl) Tryd.func4
    (ChangeSpec.witness_shaped (enc := enc) (C := Tryd.checked) (os := os) (X := fun w _ => laidMetH Tryd.prog laidK w) false (World.laidAll Tryd.prog os laidK) #[.int .i64 0, .int .i64 0, .slice none 0 0, .slice none 0 0] 8 (World.laidAll_os _ _ _) (World.shaped_of_RefB (by kernel_rfl) (by kernel_rfl)) (by kernel_rfl) (by kernel_rfl) (by kernel_rfl) (laidK_met os _)) ?_
  intro W base args ds gs before hval0 hW _ _ hL _
  have hval : ∀ (j : Nat) t v, Tryd.f4.params[j]? = some t → args[j]? = some v → Value.okWide Tryd.prog W .any base t v := hval0
  have hW' := hW
  obtain ⟨p, q, hA0, hV, rfl, hfz, hnd⟩ := hW
  have hA : DataW.TrodAll enc Tryd.prog W 0 (fun _ => true) true Tryd.f4.params.toList args.toList ds p := hA0
  rw [Tryd.params4] at hA hval
  obtain ⟨v0, vs0, d0, ds0, p0, q0, hargs, rfl, rfl, h0, r0⟩ := trodAll_cons hA
  obtain ⟨v1, vs1, d1, ds1, p1, q1, rfl, rfl, rfl, h1, r1⟩ := trodAll_cons r0
  obtain ⟨v2, vs2, d2, ds2, p2, q2, rfl, rfl, rfl, h2, r2⟩ := trodAll_cons r1
  obtain ⟨v3, vs3, d3, ds3, p3, q3, rfl, rfl, rfl, h3, r3⟩ := trodAll_cons r2
  obtain ⟨rfl, rfl, rfl⟩ := trodAll_nil r3
  obtain rfl : args = #[v0, v1, v2, v3] := by cases args; simp_all
  obtain ⟨x, _, e0⟩ := open_in (d := 6) (k := .i64) (by kernel_rfl) (by kernel_rfl) (hval 0 _ v0 rfl rfl) h0
  obtain ⟨y, _, e1⟩ := open_in (d := 6) (k := .i64) (by kernel_rfl) (by kernel_rfl) (hval 1 _ v1 rfl rfl) h1
  obtain ⟨es, hes, hel, e2⟩ := open_sl (d := 6) (e := 25) (ts := [.int .i64, .int .i64, .int .i64, .str]) (by kernel_rfl) (by kernel_rfl) (hval 2 _ v2 rfl rfl) h2
  obtain ⟨fs, hfs, hfl, e3⟩ := open_sl (d := 6) (e := 25) (ts := [.int .i64, .int .i64, .int .i64, .str]) (by kernel_rfl) (by kernel_rfl) (hval 3 _ v3 rfl rfl) h3
  obtain ⟨l, rfl⟩ := items_of hel
  obtain ⟨m, rfl⟩ := items_of hfl
  have hcall := call_top ctx_ok (W := W) (f := Av.i_avouchlaw14zTagUnlike) (args := [.int .i64 x, .int .i64 y, .vsl false (l.map It.cells), .vsl false (m.map It.cells)]) (cargs := #[v0, v1, v2, v3]) rfl (ok_TagUnlike ⟨0, 0, 0, 0⟩ ⟨[], []⟩ x y l m) (glob_met hL) (.cons _ _ _ _ e0 (.cons _ _ _ _ e1 (.cons _ _ _ _ e2 (.cons _ _ _ _ e3 .nil))))
  refine hcall.mono fun e W' ⟨he, hb⟩ => ?_
  exact ⟨_, he, post_true (t := 4) outB (of_decide_eq_true (by kernel_rfl)) rfl hW' hb (by kernel_rfl) (by kernel_rfl) ⟨rfl, rfl, rfl⟩⟩
theorem tagUnlike_holds : Rows.TagUnlikeSaid :=
  OpenClaim.holds_of_wide 4 Tryd.f4 rfl rfl rfl rfl rfl rfl rfl ⟨rfl, rfl, rfl, rfl, rfl⟩ rfl rfl rfl rfl rfl (by kernel_rfl) Tryd.func4 (by kernel_rfl)
    (of_decide_eq_true (by kernel_rfl)) (by unfold Func.isWrapper; first | (rw [if_pos (by decide +kernel)]; kernel_rfl) | (rw [if_neg (by decide +kernel)]; exact ⟨rfl, rfl⟩))
    (fun os started H enc _ => lifted os started H enc)
theorem tagUnlike_card : Rows.TagUnlikeCardSaid :=
  Claim7.holds_tied_plain_at .later [] [.data] true (true, "5fe4923180cd78874df0f863310c61af3a82fa2413de72f1042edaf9f25ad25a") true
    tagUnlike_holds (fun _ h => by cases h) (by kernel_rfl) (fun _ h => by cases h) tagUnlike_row_tie rfl ⟨rfl, rfl⟩ (by kernel_rfl) rfl
    (fun f fn hf hfn => by
      obtain rfl : f = 4 := Option.some.inj ((show Tryd.prog.funcNamed "avouch/avouchlaw14.TagUnlike" = some 4 by kernel_rfl).symm.trans hf) |>.symm
      obtain rfl : fn = Tryd.f4 := (Option.some.inj (Tryd.func4.symm.trans hfn)).symm
      exact ⟨by kernel_rfl, fun j t ht => by
        rw [Tryd.params4] at ht
        have h3 : t = 3 ∨ t = 22 := by
          rcases j with _ | _ | _ | _ | j
          · left; simpa using ht.symm
          · left; simpa using ht.symm
          · right; simpa using ht.symm
          · right; simpa using ht.symm
          · simp at ht
        rcases h3 with rfl | rfl
        · exact (show Tryd.prog.wantsStandIn 3 = false by kernel_rfl)
        · exact (show Tryd.prog.wantsStandIn 22 = false by kernel_rfl)⟩)
    (by kernel_rfl)
#print axioms tagUnlike_card
end Go.Proofs.YtljmmfgacoapaaaDoor
