/- Whatever the script is, the law ScriptTells returns true and its argument reads as before, where the tables of the library are laid as its text lays them. -/
import Derived.Test.YtafkceblllhheaaDoorRows
import Derived.Test.YtafkceblllhheaaDoorTie
import Derived.Test.YtafkceblllhheaaDoorCards
import Derived.Test.YtafkceblllhheaaDoorC2
import Derived.Test.YtafkceblllhheaaDoorC7
import Derived.Test.YtafkceblllhheaaDoorL0
namespace Go.Proofs.YtafkceblllhheaaDoor
open Go.ChangeShapes Go.WideShapes Go.RowKit Go.Av
set_option maxRecDepth 100000
set_option linter.unusedSimpArgs false
set_option linter.unusedVariables false
theorem own : ownKnob Tryd.prog.godebug = none := by kernel_rfl
theorem outB : laidOutB Tryd.prog = true := by kernel_rfl
abbrev laidK : List (String × DataW Unit) := [("math/bits.deBruijn32tab", Rows.laid_math_bits_deBruijn32tab), ("math/bits.deBruijn64tab", Rows.laid_math_bits_deBruijn64tab), ("internal/strconv.uint64pow10", Rows.laid_internal_strconv_uint64pow10)]
theorem laidK_met (os : Os) (args : Array Value) : laidMetH Tryd.prog laidK ((World.laidAll Tryd.prog os laidK).forCall (fun _ _ => 0) ⟨#[], args, []⟩).memory := by
  rw [Go.MakeChecks.laidMetH_plain _ _ _ (by kernel_rfl)]
  exact laidMet_laidAll args (by kernel_rfl) (by kernel_rfl)
def powI : List Int := [1, 10, 100, 1000, 10000, 100000, 1000000, 10000000, 100000000, 1000000000, 10000000000, 100000000000, 1000000000000, 10000000000000, 100000000000000, 1000000000000000, 10000000000000000, 100000000000000000, 1000000000000000000, 10000000000000000000]
theorem glob_met {W : World} (h : laidMetH Tryd.prog laidK W) : ∀ g cs, Av.ctx.glob g = some cs → GlobR (st0 W) g cs := by
  intro g cs hg
  rw [Go.MakeChecks.laidMetH_plain _ _ _ (by kernel_rfl)] at h
  have h1 : GlobR (st0 W) 0 (powI.map fun z => .int .u64 z) := tab_laid (t := 97) (e := 91) (n := 20) gPow (by kernel_rfl) (by kernel_rfl) (by kernel_rfl) (by kernel_rfl) (by kernel_rfl) h (List.mem_cons_of_mem _ (List.mem_cons_of_mem _ (List.mem_singleton.2 rfl)))
  match g, hg with
  | 0, hg =>
    have hp : Lib.pow10Tab = powI := by decide
    have e : some (Lib.pow10Tab.map fun z => AVal.int .u64 z) = some cs := hg
    rw [hp] at e
    obtain rfl := Option.some.inj e; exact h1
  | g + 1, hg => simp [Av.ctx, globT] at hg
theorem wf_i64 {x : Int} (h : (Lit.int .i64 x).wf = true) : -9223372036854775808 ≤ x ∧ x ≤ 9223372036854775807 := by
  simp only [Lit.wf, Bool.and_eq_true, decide_eq_true_eq] at h
  have h1 : IntKind.i64.min = -9223372036854775808 := by decide
  have h2 : IntKind.i64.max = 9223372036854775807 := by decide
  rw [h1, h2] at h
  omega
theorem calls_of : ∀ {es : List (List AVal)}, ElemsOk [.int .i64, .int .i64, .int .i64, .sl [.int .u8]] es → ∃ l : List DC, es = l.map caC ∧ ∀ c ∈ l, in64 c.d ∧ in64 c.t ∧ in64 c.n ∧ ∀ x ∈ c.b, 0 ≤ x ∧ x < 256
  | [], _ => ⟨[], rfl, by simp⟩
  | e :: es, h => by
    cases h with
    | cons _ _ _ h1 h2 =>
      obtain ⟨l, rfl, hl⟩ := calls_of h2
      cases h1 with
      | cons _ _ _ _ a1 h1 =>
        cases h1 with
        | cons _ _ _ _ a2 h1 =>
          cases h1 with
          | cons _ _ _ _ a3 h1 =>
            cases h1 with
            | cons _ _ _ _ a4 h1 =>
              cases h1
              obtain ⟨x1, rfl, w1⟩ := ints_of a1
              obtain ⟨x2, rfl, w2⟩ := ints_of a2
              obtain ⟨x3, rfl, w3⟩ := ints_of a3
              obtain ⟨es2, rfl, _, q2⟩ := slice_of a4
              obtain ⟨x4, rfl, w4⟩ := elems_ints q2
              refine ⟨⟨x1, x2, x3, x4⟩ :: l, rfl, fun a ha => ?_⟩
              rcases List.mem_cons.1 ha with rfl | ha
              · exact ⟨wf_i64 w1, wf_i64 w2, wf_i64 w3, fun x hx => wf_u8 (w4 x hx)⟩
              · exact hl a ha
theorem lifted (os : Os) (started : os.Started) (H : Type) (enc : TypeId × Value → H) :
    ReturnsInHanded {} Tryd.checked os 4 .any (fun w args => (Rows.scriptTellsSpec.pre enc Tryd.prog Tryd.f4 [] false w args ∧ laidMetH Tryd.prog laidK w) ∧ sizedMet enc Tryd.prog Tryd.f4 (OpenSpec.ofChange Rows.scriptTellsSpec) false w args)
      (Rows.scriptTellsSpec.post enc Tryd.prog Tryd.f4 false true false false) := by
  refine returnsInHanded_of_change_and (C := Tryd.checked) (X := fun w _ => laidMetH Tryd.prog laidK w) (fun _ _ _ hh h => h.of_heap hh) own started (by kernel_rfl) Tryd.func4
    (ChangeSpec.witness_shaped (enc := enc) (C := Tryd.checked) (os := os) (X := fun w _ => laidMetH Tryd.prog laidK w) false (World.laidAll Tryd.prog os laidK) #[.agg #[.int .i64 0, .slice none 0 0, .slice none 0 0]] 8 (World.laidAll_os _ _ _) (World.shaped_of_RefB (by kernel_rfl) (by kernel_rfl)) (by kernel_rfl) (by kernel_rfl) (by kernel_rfl) (laidK_met os _)) ?_
  intro W base args ds gs before hval0 hW _ _ hL _
  have hval : ∀ (j : Nat) t v, Tryd.f4.params[j]? = some t → args[j]? = some v → Value.okWide Tryd.prog W .any base t v := hval0
  have hW' := hW
  obtain ⟨p, q, hA0, hV, rfl, hfz, hnd⟩ := hW
  have hA : DataW.TrodAll enc Tryd.prog W 0 (fun _ => true) true Tryd.f4.params.toList args.toList ds p := hA0
  rw [Tryd.params4] at hA hval
  obtain ⟨v0, vs0, d0, ds0, p0, q0, hargs, rfl, rfl, h0, r0⟩ := trodAll_cons hA
  obtain ⟨rfl, rfl, rfl⟩ := trodAll_nil r0
  obtain rfl : args = #[v0] := by cases args; simp_all
  have hsh : shT Tryd.prog 6 36 = some [.int .i64, .sl [.int .u8], .sl [.int .i64, .int .i64, .int .i64, .sl [.int .u8]]] := by kernel_rfl
  rcases open_arg hsh (hval 0 _ v0 rfl rfl) h0 with ⟨avs, k1, e0, cs, rfl⟩ | ⟨ty', c, k1, k2, k3, _⟩
  rotate_left
  · simp at k1
  cases k1 with
  | cons _ _ _ _ a1 k1 =>
  cases k1 with
  | cons _ _ _ _ a2 k1 =>
  cases k1 with
  | cons _ _ _ _ a3 k1 =>
  cases k1
  obtain ⟨bk, rfl, w1⟩ := ints_of a1
  obtain ⟨es2, rfl, l2, q2⟩ := slice_of a2
  obtain ⟨p, rfl, w2⟩ := elems_ints q2
  obtain ⟨es3, rfl, l3, q3⟩ := slice_of a3
  obtain ⟨l, rfl, w3⟩ := calls_of q3
  obtain ⟨h', hok⟩ := ok_ScriptTells ⟨0, 0, 0, 0⟩ ⟨[], []⟩ bk p l ⟨wf_i64 w1, fun x hx => wf_u8 (w2 x hx), w3⟩ (by unfold maxLen at l2; simpa using l2) (by unfold maxLen at l3; simpa using l3)
  have hcall := call_top ctx_ok (W := W) (f := Av.i_avouchlaw19zScriptTells) (args := [.agg (scC bk p l)]) (cargs := #[.agg cs]) rfl hok (glob_met hL) (.cons _ _ _ _ e0 .nil)
  refine hcall.mono fun e W' ⟨he, hb⟩ => ?_
  exact ⟨_, he, post_true (t := 4) outB (of_decide_eq_true (by kernel_rfl)) rfl hW' hb (by kernel_rfl) (by kernel_rfl) ⟨rfl, rfl, rfl⟩⟩
theorem scriptTells_holds : Rows.ScriptTellsSaid :=
  OpenClaim.holds_of_wide 4 Tryd.f4 rfl rfl rfl rfl rfl rfl rfl ⟨rfl, rfl, rfl, rfl, rfl⟩ rfl rfl rfl rfl rfl (by kernel_rfl) Tryd.func4 (by kernel_rfl)
    (of_decide_eq_true (by kernel_rfl)) (by unfold Func.isWrapper; first | (rw [if_pos (by decide +kernel)]; kernel_rfl) | (rw [if_neg (by decide +kernel)]; exact ⟨rfl, rfl⟩))
    (fun os started H enc _ => lifted os started H enc)
theorem scriptTells_card : Rows.ScriptTellsCardSaid :=
  Claim7.holds_tied_plain_at .later [] [.data, .data, .data] true (true, "274e9b12edd3258c0839d77feed0b1b890e46f6888300216aff99b14ec210bcc") true
    scriptTells_holds (fun _ h => by cases h) (by kernel_rfl) (fun _ h => by cases h) scriptTells_row_tie rfl ⟨rfl, rfl⟩ (by kernel_rfl) rfl
    (fun f fn hf hfn => by
      obtain rfl : f = 4 := Option.some.inj ((show Tryd.prog.funcNamed "avouch/avouchlaw19.ScriptTells" = some 4 by kernel_rfl).symm.trans hf) |>.symm
      obtain rfl : fn = Tryd.f4 := (Option.some.inj (Tryd.func4.symm.trans hfn)).symm
      exact ⟨by kernel_rfl, fun j t ht => by
        rw [Tryd.params4] at ht
        have h3 : t = 36 := by
          rcases j with _ | j
          · simpa using ht.symm
          · simp at ht
        subst h3
        exact (show Tryd.prog.wantsStandIn 36 = false by kernel_rfl)⟩)
    (by kernel_rfl)
#print axioms scriptTells_card
end Go.Proofs.YtafkceblllhheaaDoor
