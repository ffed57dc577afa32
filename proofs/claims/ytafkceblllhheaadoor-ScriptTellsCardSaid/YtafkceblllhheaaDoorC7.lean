/- The machine's code is the program's. -/
import Derived.Test.YtafkceblllhheaaDoorC0
import Derived.Test.YtafkceblllhheaaDoorChecked
import Derived.KernelRfl
import Derived.Test.YtafkceblllhheaaDoorC1
namespace Go.Av
open Go.Proofs
set_option maxRecDepth 100000
noncomputable abbrev CfnE (f : Func) : Option AFn := cfn ctx Tryd.prog ⟨fun _ _ => true, false⟩ f
noncomputable abbrev CfnG (l : List (Nat × Nat)) (f : Func) : Option AFn := cfn ctx Tryd.prog ⟨fun r o => !l.contains (r, o), false⟩ f
theorem fnE {f : FuncId} {F F0 : AFn} {fn : Func} {fl : Flav} (h : some F0 = some F) (p : Tryd.prog.funcs[f]? = some fn) (q : cfn ctx Tryd.prog fl fn = some F0) (r : fn.name ≠ "runtime.NumGoroutine") : ∃ fn fl, Tryd.prog.funcs[f]? = some fn ∧ cfn ctx Tryd.prog fl fn = some F ∧ fn.name ≠ "runtime.NumGoroutine" := Option.some.inj h ▸ ⟨_, _, p, q, r⟩
theorem cfn_gosem_cut_init : CfnE Tryd.f2 = some F_gosem_cut_init := by kernel_rfl
theorem cfn_avouchlaw19zScriptTexts : CfnE Tryd.f3 = some F_avouchlaw19zScriptTexts := by kernel_rfl
theorem cfn_avouchlaw19zScriptTells : CfnE Tryd.f4 = some F_avouchlaw19zScriptTells := by kernel_rfl
theorem cfn_avouchlaw19zScriptReads : CfnE Tryd.f5 = some F_avouchlaw19zScriptReads := by kernel_rfl
theorem cfn_avouchlaw19zspeaks : CfnE Tryd.f6 = some F_avouchlaw19zspeaks := by kernel_rfl
theorem cfn_avouchref19zText : CfnE Tryd.f8 = some F_avouchref19zText := by kernel_rfl
theorem cfn_script_Encode : CfnE Tryd.f9 = some F_script_Encode := by kernel_rfl
theorem cfn_avouchlaw19zOf : CfnE Tryd.f10 = some F_avouchlaw19zOf := by kernel_rfl
theorem cfn_avouchref19zEncode : CfnE Tryd.f11 = some F_avouchref19zEncode := by kernel_rfl
theorem cfn_avouchlaw19zis : CfnE Tryd.f13 = some F_avouchlaw19zis := by kernel_rfl
theorem cfn_avouchref19zDecode : CfnE Tryd.f14 = some F_avouchref19zDecode := by kernel_rfl
theorem cfn_avouchref19zdecimal : CfnE Tryd.f19 = some F_avouchref19zdecimal := by kernel_rfl
theorem cfn_avouchref19zdigit : CfnE Tryd.f20 = some F_avouchref19zdigit := by kernel_rfl
theorem cfn_slices_ContainsFuncscript_Call_script_Call : CfnE Tryd.f21 = some F_slices_ContainsFuncscript_Call_script_Call := by kernel_rfl
theorem cfn_script_Encode_1 : CfnE Tryd.f22 = some F_script_Encode_1 := by kernel_rfl
theorem cfn_script_Call_bare : CfnE Tryd.f23 = some F_script_Call_bare := by kernel_rfl
theorem cfn_script_two : CfnE Tryd.f24 = some F_script_two := by kernel_rfl
theorem cfn_avouchref19zin : CfnE Tryd.f25 = some F_avouchref19zin := by kernel_rfl
theorem cfn_avouchref12zNumber : CfnE Tryd.f26 = some F_avouchref12zNumber := by kernel_rfl
theorem cfn_avouchref19zright : CfnE Tryd.f27 = some F_avouchref19zright := by kernel_rfl
theorem cfn_avouchref19zSame : CfnE Tryd.f31 = some F_avouchref19zSame := by kernel_rfl
theorem cfn_avouchref19zpair : CfnE Tryd.f32 = some F_avouchref19zpair := by kernel_rfl
theorem cfn_slices_IndexFuncscript_Call_script_Call : CfnE Tryd.f35 = some F_slices_IndexFuncscript_Call_script_Call := by kernel_rfl
theorem fns_ok : ∀ f F, ctx.fns f = some F → ∃ fn fl, Tryd.prog.funcs[f]? = some fn ∧ cfn ctx Tryd.prog fl fn = some F ∧ fn.name ≠ "runtime.NumGoroutine" := by
  intro f F h
  simp only [ctx] at h
  unfold fnsT at h
  split at h
  · exact fnE h Tryd.func2 cfn_gosem_cut_init (by decide +kernel)
  · exact fnE h Tryd.func3 cfn_avouchlaw19zScriptTexts (by decide +kernel)
  · exact fnE h Tryd.func4 cfn_avouchlaw19zScriptTells (by decide +kernel)
  · exact fnE h Tryd.func5 cfn_avouchlaw19zScriptReads (by decide +kernel)
  · exact fnE h Tryd.func6 cfn_avouchlaw19zspeaks (by decide +kernel)
  · exact fnE h Tryd.func8 cfn_avouchref19zText (by decide +kernel)
  · exact fnE h Tryd.func9 cfn_script_Encode (by decide +kernel)
  · exact fnE h Tryd.func10 cfn_avouchlaw19zOf (by decide +kernel)
  · exact fnE h Tryd.func11 cfn_avouchref19zEncode (by decide +kernel)
  · exact fnE h Tryd.func13 cfn_avouchlaw19zis (by decide +kernel)
  · exact fnE h Tryd.func14 cfn_avouchref19zDecode (by decide +kernel)
  · exact fnE h Tryd.func19 cfn_avouchref19zdecimal (by decide +kernel)
  · exact fnE h Tryd.func20 cfn_avouchref19zdigit (by decide +kernel)
  · exact fnE h Tryd.func21 cfn_slices_ContainsFuncscript_Call_script_Call (by decide +kernel)
  · exact fnE h Tryd.func22 cfn_script_Encode_1 (by decide +kernel)
  · exact fnE h Tryd.func23 cfn_script_Call_bare (by decide +kernel)
  · exact fnE h Tryd.func24 cfn_script_two (by decide +kernel)
  · exact fnE h Tryd.func25 cfn_avouchref19zin (by decide +kernel)
  · exact fnE h Tryd.func26 cfn_avouchref12zNumber (by decide +kernel)
  · exact fnE h Tryd.func27 cfn_avouchref19zright (by decide +kernel)
  · exact fnE h Tryd.func31 cfn_avouchref19zSame (by decide +kernel)
  · exact fnE h Tryd.func32 cfn_avouchref19zpair (by decide +kernel)
  · exact fnE h Tryd.func35 cfn_slices_IndexFuncscript_Call_script_Call (by decide +kernel)
  · simp at h
theorem rows_ok : (methL.all fun r => methRow Tryd.prog r.1 r.2.1 r.2.2) = true := by kernel_rfl
theorem meth_ok : ∀ t name path f, ctx.meth t name = some (path, f) → path = [] ∧ methRow Tryd.prog t name f = true := by
  intro t name path f h
  have h1 : (methL.find? fun r => r.1 == t && r.2.1 == name).map (fun r => (([] : List (Nat × Nat × Bool)), r.2.2)) = some (path, f) := h
  obtain ⟨r, hr, he⟩ := Option.map_eq_some_iff.1 h1
  have h2 := List.find?_some hr
  have h3 := List.all_eq_true.1 rows_ok r (List.mem_of_find?_eq_some hr)
  simp only [Bool.and_eq_true, beq_iff_eq] at h2
  simp only [Prod.mk.injEq] at he
  rw [h2.1, h2.2, he.2] at h3
  exact ⟨he.1.symm, h3⟩
theorem ext_ok_7 {L : Lim} {args : List AVal} {h : AHeap} {v : AVal} {h' : AHeap} (hp : textX.pre L args h = some (.inl (v, h'))) : CallOk ctx Tryd.prog L 7 args h v h' :=
  textX_ok (C := ctx) Tryd.func7 (by kernel_rfl) (by decide +kernel) gPow rfl (fun l v w => text_walk l v w) hp
theorem ext_ok_12 {L : Lim} {args : List AVal} {h : AHeap} {v : AVal} {h' : AHeap} (hp : (decX).pre L args h = some (.inl (v, h'))) : CallOk ctx Tryd.prog L 12 args h v h' :=
  decX_ok (C := ctx) Tryd.func12 (by kernel_rfl) (by decide +kernel) (fun a c n l w hn ho hl => dec_walk a c n l w hn ho hl) hp
theorem ctx_ok : CtxOk ctx Tryd.prog where
  fns := fns_ok
  extA := by
    intro f g h L args hh v h' hp
    simp only [ctx] at h
    unfold extT at h
    split at h
    · obtain rfl := Option.some.inj h; exact ext_ok_7 hp
    · obtain rfl := Option.some.inj h; exact ext_ok_12 hp
    · simp at h
  extB := by
    intro f g h L args hh f1 bs h1 hp
    simp only [ctx] at h
    unfold extT at h
    split at h
    · obtain rfl := Option.some.inj h; exact absurd hp textX_inr
    · obtain rfl := Option.some.inj h; exact absurd hp decX_inr
    · simp at h
  meth := by
    intro t name path f h s v cv r w hrep hm
    obtain ⟨rfl, hrow⟩ := meth_ok t name path f h
    obtain rfl : v = r := Option.some.inj hm
    exact ⟨cv, meth_row hrow _ cv w, hrep⟩
end Go.Av
