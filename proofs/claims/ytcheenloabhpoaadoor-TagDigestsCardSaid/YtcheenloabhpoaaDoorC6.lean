/- The machine's code is the program's. -/
import Derived.Test.YtcheenloabhpoaaDoorC0
import Derived.Test.YtcheenloabhpoaaDoorChecked
import Derived.KernelRfl
namespace Go.Av
open Go.Proofs
set_option maxRecDepth 100000
theorem cfn_gosem_cut_init : cfn ctx Tryd.prog ⟨fun _ _ => true⟩ Tryd.f2 = some F_gosem_cut_init := by kernel_rfl
theorem cfn_avouchlaw14zTagDigests : cfn ctx Tryd.prog ⟨fun r o => !([(0, 0), (10, 4)] : List (Nat × Nat)).contains (r, o)⟩ Tryd.f3 = some F_avouchlaw14zTagDigests := by kernel_rfl
theorem cfn_avouchlaw14zspeaks : cfn ctx Tryd.prog ⟨fun _ _ => true⟩ Tryd.f4 = some F_avouchlaw14zspeaks := by kernel_rfl
theorem cfn_pattern_Serialise : cfn ctx Tryd.prog ⟨fun _ _ => true⟩ Tryd.f5 = some F_pattern_Serialise := by kernel_rfl
theorem cfn_avouchlaw13zOfs : cfn ctx Tryd.prog ⟨fun _ _ => true⟩ Tryd.f6 = some F_avouchlaw13zOfs := by kernel_rfl
theorem cfn_tag_Tag : cfn ctx Tryd.prog ⟨fun r o => !([(6, 0)] : List (Nat × Nat)).contains (r, o)⟩ Tryd.f7 = some F_tag_Tag := by kernel_rfl
theorem cfn_tag_Element : cfn ctx Tryd.prog ⟨fun r o => !([(0, 0)] : List (Nat × Nat)).contains (r, o)⟩ Tryd.f8 = some F_tag_Element := by kernel_rfl
theorem cfn_field_Element_Equal : cfn ctx Tryd.prog ⟨fun _ _ => true⟩ Tryd.f9 = some F_field_Element_Equal := by kernel_rfl
theorem cfn_field_FromWide : cfn ctx Tryd.prog ⟨fun _ _ => true⟩ Tryd.f10 = some F_field_FromWide := by kernel_rfl
theorem cfn_digest_Sum : cfn ctx Tryd.prog ⟨fun _ _ => true⟩ Tryd.f11 = some F_digest_Sum := by kernel_rfl
theorem cfn_item_Encode : cfn ctx Tryd.prog ⟨fun _ _ => true⟩ Tryd.f12 = some F_item_Encode := by kernel_rfl
theorem cfn_avouchlaw12zOf : cfn ctx Tryd.prog ⟨fun _ _ => true⟩ Tryd.f13 = some F_avouchlaw12zOf := by kernel_rfl
theorem cfn_field_prime : cfn ctx Tryd.prog ⟨fun _ _ => true⟩ Tryd.f14 = some F_field_prime := by kernel_rfl
theorem cfn_limb_New : cfn ctx Tryd.prog ⟨fun r o => !([(3, 3)] : List (Nat × Nat)).contains (r, o)⟩ Tryd.f15 = some F_limb_New := by kernel_rfl
theorem cfn_field_enter : cfn ctx Tryd.prog ⟨fun _ _ => true⟩ Tryd.f16 = some F_field_enter := by kernel_rfl
theorem cfn_limb_Modulus_Reduce : cfn ctx Tryd.prog ⟨fun _ _ => true⟩ Tryd.f17 = some F_limb_Modulus_Reduce := by kernel_rfl
theorem cfn_limb_Words : cfn ctx Tryd.prog ⟨fun _ _ => true⟩ Tryd.f18 = some F_limb_Words := by kernel_rfl
theorem cfn_digest_Hash_Write : cfn ctx Tryd.prog ⟨fun _ _ => true⟩ Tryd.f19 = some F_digest_Hash_Write := by kernel_rfl
theorem cfn_digest_Hash_Sum : cfn ctx Tryd.prog ⟨fun _ _ => true⟩ Tryd.f20 = some F_digest_Hash_Sum := by kernel_rfl
theorem cfn_item_Check : cfn ctx Tryd.prog ⟨fun _ _ => true⟩ Tryd.f21 = some F_item_Check := by kernel_rfl
theorem cfn_item_number : cfn ctx Tryd.prog ⟨fun _ _ => true⟩ Tryd.f22 = some F_item_number := by kernel_rfl
theorem cfn_slices_Cloneuint64zuint64 : cfn ctx Tryd.prog ⟨fun _ _ => true⟩ Tryd.f23 = some F_slices_Cloneuint64zuint64 := by kernel_rfl
theorem cfn_limb_Modulus_twice : cfn ctx Tryd.prog ⟨fun _ _ => true⟩ Tryd.f24 = some F_limb_Modulus_twice := by kernel_rfl
theorem cfn_field_below : cfn ctx Tryd.prog ⟨fun _ _ => true⟩ Tryd.f25 = some F_field_below := by kernel_rfl
theorem cfn_field_plus : cfn ctx Tryd.prog ⟨fun _ _ => true⟩ Tryd.f26 = some F_field_plus := by kernel_rfl
theorem cfn_field_product : cfn ctx Tryd.prog ⟨fun _ _ => true⟩ Tryd.f27 = some F_field_product := by kernel_rfl
theorem cfn_limb_Bits : cfn ctx Tryd.prog ⟨fun _ _ => true⟩ Tryd.f28 = some F_limb_Bits := by kernel_rfl
theorem cfn_digest_Hash_put : cfn ctx Tryd.prog ⟨fun _ _ => true⟩ Tryd.f29 = some F_digest_Hash_put := by kernel_rfl
theorem cfn_keccak_State_Permute : cfn ctx Tryd.prog ⟨fun r o => !([(0, 0)] : List (Nat × Nat)).contains (r, o)⟩ Tryd.f30 = some F_keccak_State_Permute := by kernel_rfl
theorem cfn_keccak_State_Bytes : cfn ctx Tryd.prog ⟨fun r o => !([(0, 0)] : List (Nat × Nat)).contains (r, o)⟩ Tryd.f31 = some F_keccak_State_Bytes := by kernel_rfl
theorem cfn_item_types : cfn ctx Tryd.prog ⟨fun _ _ => true⟩ Tryd.f32 = some F_item_types := by kernel_rfl
theorem cfn_slices_Containsint_int : cfn ctx Tryd.prog ⟨fun _ _ => true⟩ Tryd.f33 = some F_slices_Containsint_int := by kernel_rfl
theorem cfn_limb_Modulus_less : cfn ctx Tryd.prog ⟨fun _ _ => true⟩ Tryd.f34 = some F_limb_Modulus_less := by kernel_rfl
theorem cfn_field_borrow : cfn ctx Tryd.prog ⟨fun _ _ => true⟩ Tryd.f35 = some F_field_borrow := by kernel_rfl
theorem cfn_field_inverse : cfn ctx Tryd.prog ⟨fun _ _ => true⟩ Tryd.f37 = some F_field_inverse := by kernel_rfl
theorem cfn_field_line : cfn ctx Tryd.prog ⟨fun _ _ => true⟩ Tryd.f38 = some F_field_line := by kernel_rfl
theorem cfn_math_bits_Len64 : cfn ctx Tryd.prog ⟨fun _ _ => true⟩ Tryd.f39 = some F_math_bits_Len64 := by kernel_rfl
theorem cfn_keccak_State_Round : cfn ctx Tryd.prog ⟨fun r o => !([(0, 0)] : List (Nat × Nat)).contains (r, o)⟩ Tryd.f40 = some F_keccak_State_Round := by kernel_rfl
theorem cfn_limb_Bytes : cfn ctx Tryd.prog ⟨fun _ _ => true⟩ Tryd.f41 = some F_limb_Bytes := by kernel_rfl
theorem cfn_slices_Indexint_int : cfn ctx Tryd.prog ⟨fun _ _ => true⟩ Tryd.f42 = some F_slices_Indexint_int := by kernel_rfl
theorem cfn_limb_Cmp : cfn ctx Tryd.prog ⟨fun _ _ => true⟩ Tryd.f43 = some F_limb_Cmp := by kernel_rfl
theorem cfn_limb_Sub : cfn ctx Tryd.prog ⟨fun _ _ => true⟩ Tryd.f44 = some F_limb_Sub := by kernel_rfl
theorem cfn_math_bits_Mul64 : cfn ctx Tryd.prog ⟨fun _ _ => true⟩ Tryd.f46 = some F_math_bits_Mul64 := by kernel_rfl
theorem cfn_keccak_State_theta : cfn ctx Tryd.prog ⟨fun r o => !([(0, 0)] : List (Nat × Nat)).contains (r, o)⟩ Tryd.f47 = some F_keccak_State_theta := by kernel_rfl
theorem cfn_keccak_State_rhoPi : cfn ctx Tryd.prog ⟨fun _ _ => true⟩ Tryd.f48 = some F_keccak_State_rhoPi := by kernel_rfl
theorem cfn_keccak_State_chi : cfn ctx Tryd.prog ⟨fun _ _ => true⟩ Tryd.f49 = some F_keccak_State_chi := by kernel_rfl
theorem cfn_keccak_Constant : cfn ctx Tryd.prog ⟨fun _ _ => true⟩ Tryd.f50 = some F_keccak_Constant := by kernel_rfl
theorem cfn_cmp_Compareuint64 : cfn ctx Tryd.prog ⟨fun _ _ => true⟩ Tryd.f51 = some F_cmp_Compareuint64 := by kernel_rfl
theorem cfn_limb_at : cfn ctx Tryd.prog ⟨fun _ _ => true⟩ Tryd.f52 = some F_limb_at := by kernel_rfl
theorem cfn_limb_each : cfn ctx Tryd.prog ⟨fun _ _ => true⟩ Tryd.f53 = some F_limb_each := by kernel_rfl
theorem cfn_math_bits_RotateLeft64 : cfn ctx Tryd.prog ⟨fun _ _ => true⟩ Tryd.f54 = some F_math_bits_RotateLeft64 := by kernel_rfl
theorem cfn_cmp_isNaNuint64 : cfn ctx Tryd.prog ⟨fun _ _ => true⟩ Tryd.f55 = some F_cmp_isNaNuint64 := by kernel_rfl
theorem cfn_gosem_cut_vars : cfn ctx Tryd.prog ⟨fun _ _ => true⟩ Tryd.f77 = some F_gosem_cut_vars := by kernel_rfl
theorem fns_ok : ∀ f F, ctx.fns f = some F → ∃ fn fl, Tryd.prog.funcs[f]? = some fn ∧ cfn ctx Tryd.prog fl fn = some F ∧ fn.name ≠ "runtime.NumGoroutine" := by
  intro f F h
  simp only [ctx] at h
  unfold fnsT at h
  split at h
  · obtain rfl := Option.some.inj h; exact ⟨_, _, Tryd.func2, cfn_gosem_cut_init, by decide +kernel⟩
  · obtain rfl := Option.some.inj h; exact ⟨_, _, Tryd.func3, cfn_avouchlaw14zTagDigests, by decide +kernel⟩
  · obtain rfl := Option.some.inj h; exact ⟨_, _, Tryd.func4, cfn_avouchlaw14zspeaks, by decide +kernel⟩
  · obtain rfl := Option.some.inj h; exact ⟨_, _, Tryd.func5, cfn_pattern_Serialise, by decide +kernel⟩
  · obtain rfl := Option.some.inj h; exact ⟨_, _, Tryd.func6, cfn_avouchlaw13zOfs, by decide +kernel⟩
  · obtain rfl := Option.some.inj h; exact ⟨_, _, Tryd.func7, cfn_tag_Tag, by decide +kernel⟩
  · obtain rfl := Option.some.inj h; exact ⟨_, _, Tryd.func8, cfn_tag_Element, by decide +kernel⟩
  · obtain rfl := Option.some.inj h; exact ⟨_, _, Tryd.func9, cfn_field_Element_Equal, by decide +kernel⟩
  · obtain rfl := Option.some.inj h; exact ⟨_, _, Tryd.func10, cfn_field_FromWide, by decide +kernel⟩
  · obtain rfl := Option.some.inj h; exact ⟨_, _, Tryd.func11, cfn_digest_Sum, by decide +kernel⟩
  · obtain rfl := Option.some.inj h; exact ⟨_, _, Tryd.func12, cfn_item_Encode, by decide +kernel⟩
  · obtain rfl := Option.some.inj h; exact ⟨_, _, Tryd.func13, cfn_avouchlaw12zOf, by decide +kernel⟩
  · obtain rfl := Option.some.inj h; exact ⟨_, _, Tryd.func14, cfn_field_prime, by decide +kernel⟩
  · obtain rfl := Option.some.inj h; exact ⟨_, _, Tryd.func15, cfn_limb_New, by decide +kernel⟩
  · obtain rfl := Option.some.inj h; exact ⟨_, _, Tryd.func16, cfn_field_enter, by decide +kernel⟩
  · obtain rfl := Option.some.inj h; exact ⟨_, _, Tryd.func17, cfn_limb_Modulus_Reduce, by decide +kernel⟩
  · obtain rfl := Option.some.inj h; exact ⟨_, _, Tryd.func18, cfn_limb_Words, by decide +kernel⟩
  · obtain rfl := Option.some.inj h; exact ⟨_, _, Tryd.func19, cfn_digest_Hash_Write, by decide +kernel⟩
  · obtain rfl := Option.some.inj h; exact ⟨_, _, Tryd.func20, cfn_digest_Hash_Sum, by decide +kernel⟩
  · obtain rfl := Option.some.inj h; exact ⟨_, _, Tryd.func21, cfn_item_Check, by decide +kernel⟩
  · obtain rfl := Option.some.inj h; exact ⟨_, _, Tryd.func22, cfn_item_number, by decide +kernel⟩
  · obtain rfl := Option.some.inj h; exact ⟨_, _, Tryd.func23, cfn_slices_Cloneuint64zuint64, by decide +kernel⟩
  · obtain rfl := Option.some.inj h; exact ⟨_, _, Tryd.func24, cfn_limb_Modulus_twice, by decide +kernel⟩
  · obtain rfl := Option.some.inj h; exact ⟨_, _, Tryd.func25, cfn_field_below, by decide +kernel⟩
  · obtain rfl := Option.some.inj h; exact ⟨_, _, Tryd.func26, cfn_field_plus, by decide +kernel⟩
  · obtain rfl := Option.some.inj h; exact ⟨_, _, Tryd.func27, cfn_field_product, by decide +kernel⟩
  · obtain rfl := Option.some.inj h; exact ⟨_, _, Tryd.func28, cfn_limb_Bits, by decide +kernel⟩
  · obtain rfl := Option.some.inj h; exact ⟨_, _, Tryd.func29, cfn_digest_Hash_put, by decide +kernel⟩
  · obtain rfl := Option.some.inj h; exact ⟨_, _, Tryd.func30, cfn_keccak_State_Permute, by decide +kernel⟩
  · obtain rfl := Option.some.inj h; exact ⟨_, _, Tryd.func31, cfn_keccak_State_Bytes, by decide +kernel⟩
  · obtain rfl := Option.some.inj h; exact ⟨_, _, Tryd.func32, cfn_item_types, by decide +kernel⟩
  · obtain rfl := Option.some.inj h; exact ⟨_, _, Tryd.func33, cfn_slices_Containsint_int, by decide +kernel⟩
  · obtain rfl := Option.some.inj h; exact ⟨_, _, Tryd.func34, cfn_limb_Modulus_less, by decide +kernel⟩
  · obtain rfl := Option.some.inj h; exact ⟨_, _, Tryd.func35, cfn_field_borrow, by decide +kernel⟩
  · obtain rfl := Option.some.inj h; exact ⟨_, _, Tryd.func37, cfn_field_inverse, by decide +kernel⟩
  · obtain rfl := Option.some.inj h; exact ⟨_, _, Tryd.func38, cfn_field_line, by decide +kernel⟩
  · obtain rfl := Option.some.inj h; exact ⟨_, _, Tryd.func39, cfn_math_bits_Len64, by decide +kernel⟩
  · obtain rfl := Option.some.inj h; exact ⟨_, _, Tryd.func40, cfn_keccak_State_Round, by decide +kernel⟩
  · obtain rfl := Option.some.inj h; exact ⟨_, _, Tryd.func41, cfn_limb_Bytes, by decide +kernel⟩
  · obtain rfl := Option.some.inj h; exact ⟨_, _, Tryd.func42, cfn_slices_Indexint_int, by decide +kernel⟩
  · obtain rfl := Option.some.inj h; exact ⟨_, _, Tryd.func43, cfn_limb_Cmp, by decide +kernel⟩
  · obtain rfl := Option.some.inj h; exact ⟨_, _, Tryd.func44, cfn_limb_Sub, by decide +kernel⟩
  · obtain rfl := Option.some.inj h; exact ⟨_, _, Tryd.func46, cfn_math_bits_Mul64, by decide +kernel⟩
  · obtain rfl := Option.some.inj h; exact ⟨_, _, Tryd.func47, cfn_keccak_State_theta, by decide +kernel⟩
  · obtain rfl := Option.some.inj h; exact ⟨_, _, Tryd.func48, cfn_keccak_State_rhoPi, by decide +kernel⟩
  · obtain rfl := Option.some.inj h; exact ⟨_, _, Tryd.func49, cfn_keccak_State_chi, by decide +kernel⟩
  · obtain rfl := Option.some.inj h; exact ⟨_, _, Tryd.func50, cfn_keccak_Constant, by decide +kernel⟩
  · obtain rfl := Option.some.inj h; exact ⟨_, _, Tryd.func51, cfn_cmp_Compareuint64, by decide +kernel⟩
  · obtain rfl := Option.some.inj h; exact ⟨_, _, Tryd.func52, cfn_limb_at, by decide +kernel⟩
  · obtain rfl := Option.some.inj h; exact ⟨_, _, Tryd.func53, cfn_limb_each, by decide +kernel⟩
  · obtain rfl := Option.some.inj h; exact ⟨_, _, Tryd.func54, cfn_math_bits_RotateLeft64, by decide +kernel⟩
  · obtain rfl := Option.some.inj h; exact ⟨_, _, Tryd.func55, cfn_cmp_isNaNuint64, by decide +kernel⟩
  · obtain rfl := Option.some.inj h; exact ⟨_, _, Tryd.func77, cfn_gosem_cut_vars, by decide +kernel⟩
  · simp at h
theorem rows_ok : (methL.all fun r => methRow Tryd.prog r.1 r.2.1 r.2.2) = true := by kernel_rfl
theorem meth_ok : ∀ t name path f, ctx.meth t name = some (path, f) → path = [] ∧ methRow Tryd.prog t name f = true := by
  intro t name path f h
  have h1 : (methL.find? fun r => r.1 == t && r.2.1 == name).map (fun r => (([] : List (Nat × Nat × Bool)), r.2.2)) = some (path, f) := h
  obtain ⟨r, hr, he⟩ := Option.map_eq_some_iff.1 h1
  have h2 := List.find?_some hr
  have h3 := List.all_eq_true.1 rows_ok r (List.mem_of_find?_eq_some hr)
  simp only [Bool.and_eq_true, beq_iff_eq] at h2
  simp only [Prod.mk.injEq] at he
  rw [h2.1, h2.2, he.2] at h3
  exact ⟨he.1.symm, h3⟩
theorem ext_ok_36 {L : Lim} {args : List AVal} {h : AHeap} {v : AVal} {h' : AHeap} (hp : addX.pre L args h = some (.inl (v, h'))) : CallOk ctx Tryd.prog L 36 args h v h' :=
  carX_ok Tryd.func36 (by kernel_rfl) (by kernel_rfl) (by kernel_rfl) (e := add64Entry) (by kernel_rfl) (fun x y c hc w => run_addE x y c hc w) hp
theorem ext_ok_45 {L : Lim} {args : List AVal} {h : AHeap} {v : AVal} {h' : AHeap} (hp : subX.pre L args h = some (.inl (v, h'))) : CallOk ctx Tryd.prog L 45 args h v h' :=
  carX_ok Tryd.func45 (by kernel_rfl) (by kernel_rfl) (by kernel_rfl) (e := subEntry) (by kernel_rfl) (fun x y c hc w => run_subE x y c hc w) hp
theorem ctx_ok : CtxOk ctx Tryd.prog where
  fns := fns_ok
  extA := by
    intro f g h L args hh v h' hp
    simp only [ctx] at h
    unfold extT at h
    split at h
    · obtain rfl := Option.some.inj h; exact ext_ok_36 hp
    · obtain rfl := Option.some.inj h; exact ext_ok_45 hp
    · simp at h
  extB := by
    intro f g h L args hh f1 bs h1 hp
    simp only [ctx] at h
    unfold extT at h
    split at h
    · obtain rfl := Option.some.inj h; exact absurd hp carX_inr
    · obtain rfl := Option.some.inj h; exact absurd hp carX_inr
    · simp at h
  meth := by
    intro t name path f h s v cv r w hrep hm
    obtain ⟨rfl, hrow⟩ := meth_ok t name path f h
    obtain rfl : v = r := Option.some.inj hm
    exact ⟨cv, meth_row hrow _ cv w, hrep⟩
end Go.Av
