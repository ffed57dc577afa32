/- The machine's code is the program's. -/
import Derived.Test.YtljmmfgacoapaaaDoorC0
import Derived.Test.YtljmmfgacoapaaaDoorChecked
import Derived.KernelRfl
namespace Go.Av
open Go.Proofs
set_option maxRecDepth 100000
theorem cfn_gosem_cut_init : cfn ctx Tryd.prog ⟨fun _ _ => true⟩ Tryd.f2 = some F_gosem_cut_init := by kernel_rfl
theorem cfn_avouchlaw14zTagTells : cfn ctx Tryd.prog ⟨fun _ _ => true⟩ Tryd.f3 = some F_avouchlaw14zTagTells := by kernel_rfl
theorem cfn_avouchlaw14zTagUnlike : cfn ctx Tryd.prog ⟨fun r o => !([(10, 0), (9, 0)] : List (Nat × Nat)).contains (r, o)⟩ Tryd.f4 = some F_avouchlaw14zTagUnlike := by kernel_rfl
theorem cfn_avouchlaw19zScriptTexts : cfn ctx Tryd.prog ⟨fun _ _ => true⟩ Tryd.f5 = some F_avouchlaw19zScriptTexts := by kernel_rfl
theorem cfn_avouchlaw19zScriptTells : cfn ctx Tryd.prog ⟨fun _ _ => true⟩ Tryd.f6 = some F_avouchlaw19zScriptTells := by kernel_rfl
theorem cfn_avouchlaw19zScriptReads : cfn ctx Tryd.prog ⟨fun _ _ => true⟩ Tryd.f7 = some F_avouchlaw19zScriptReads := by kernel_rfl
theorem cfn_avouchlaw14zspeaks : cfn ctx Tryd.prog ⟨fun _ _ => true⟩ Tryd.f8 = some F_avouchlaw14zspeaks := by kernel_rfl
theorem cfn_tag_Tag : cfn ctx Tryd.prog ⟨fun r o => !([(6, 0)] : List (Nat × Nat)).contains (r, o)⟩ Tryd.f9 = some F_tag_Tag := by kernel_rfl
theorem cfn_avouchlaw13zOfs : cfn ctx Tryd.prog ⟨fun _ _ => true⟩ Tryd.f10 = some F_avouchlaw13zOfs := by kernel_rfl
theorem cfn_avouchref14zTag : cfn ctx Tryd.prog ⟨fun r o => !([(7, 0)] : List (Nat × Nat)).contains (r, o)⟩ Tryd.f11 = some F_avouchref14zTag := by kernel_rfl
theorem cfn_avouchref13zSerialise : cfn ctx Tryd.prog ⟨fun _ _ => true⟩ Tryd.f12 = some F_avouchref13zSerialise := by kernel_rfl
theorem cfn_avouchref13zSame : cfn ctx Tryd.prog ⟨fun _ _ => true⟩ Tryd.f13 = some F_avouchref13zSame := by kernel_rfl
theorem cfn_digest_Sum : cfn ctx Tryd.prog ⟨fun _ _ => true⟩ Tryd.f14 = some F_digest_Sum := by kernel_rfl
theorem cfn_avouchlaw19zspeaks : cfn ctx Tryd.prog ⟨fun _ _ => true⟩ Tryd.f15 = some F_avouchlaw19zspeaks := by kernel_rfl
theorem cfn_script_Text : cfn ctx Tryd.prog ⟨fun _ _ => true⟩ Tryd.f16 = some F_script_Text := by kernel_rfl
theorem cfn_avouchref19zText : cfn ctx Tryd.prog ⟨fun _ _ => true⟩ Tryd.f17 = some F_avouchref19zText := by kernel_rfl
theorem cfn_script_Encode : cfn ctx Tryd.prog ⟨fun _ _ => true⟩ Tryd.f18 = some F_script_Encode := by kernel_rfl
theorem cfn_avouchlaw19zOf : cfn ctx Tryd.prog ⟨fun _ _ => true⟩ Tryd.f19 = some F_avouchlaw19zOf := by kernel_rfl
theorem cfn_avouchref19zEncode : cfn ctx Tryd.prog ⟨fun _ _ => true⟩ Tryd.f20 = some F_avouchref19zEncode := by kernel_rfl
theorem cfn_avouchlaw19zis : cfn ctx Tryd.prog ⟨fun _ _ => true⟩ Tryd.f22 = some F_avouchlaw19zis := by kernel_rfl
theorem cfn_avouchref19zDecode : cfn ctx Tryd.prog ⟨fun _ _ => true⟩ Tryd.f23 = some F_avouchref19zDecode := by kernel_rfl
theorem cfn_pattern_Serialise : cfn ctx Tryd.prog ⟨fun _ _ => true⟩ Tryd.f24 = some F_pattern_Serialise := by kernel_rfl
theorem cfn_avouchlaw12zOf : cfn ctx Tryd.prog ⟨fun _ _ => true⟩ Tryd.f25 = some F_avouchlaw12zOf := by kernel_rfl
theorem cfn_avouchref07zSum : cfn ctx Tryd.prog ⟨fun _ _ => true⟩ Tryd.f26 = some F_avouchref07zSum := by kernel_rfl
theorem cfn_avouchref12zEncode : cfn ctx Tryd.prog ⟨fun _ _ => true⟩ Tryd.f27 = some F_avouchref12zEncode := by kernel_rfl
theorem cfn_digest_Hash_Write : cfn ctx Tryd.prog ⟨fun _ _ => true⟩ Tryd.f28 = some F_digest_Hash_Write := by kernel_rfl
theorem cfn_digest_Hash_Sum : cfn ctx Tryd.prog ⟨fun _ _ => true⟩ Tryd.f29 = some F_digest_Hash_Sum := by kernel_rfl
theorem cfn_strings_Builder_WriteString : cfn ctx Tryd.prog ⟨fun _ _ => true⟩ Tryd.f30 = some F_strings_Builder_WriteString := by kernel_rfl
theorem cfn_strconv_Itoa : cfn ctx Tryd.prog ⟨fun _ _ => true⟩ Tryd.f31 = some F_strconv_Itoa := by kernel_rfl
theorem cfn_strings_Builder_WriteByte : cfn ctx Tryd.prog ⟨fun _ _ => true⟩ Tryd.f32 = some F_strings_Builder_WriteByte := by kernel_rfl
theorem cfn_avouchref19zdecimal : cfn ctx Tryd.prog ⟨fun _ _ => true⟩ Tryd.f34 = some F_avouchref19zdecimal := by kernel_rfl
theorem cfn_avouchref19zdigit : cfn ctx Tryd.prog ⟨fun _ _ => true⟩ Tryd.f35 = some F_avouchref19zdigit := by kernel_rfl
theorem cfn_slices_ContainsFuncscript_Call_script_Call : cfn ctx Tryd.prog ⟨fun _ _ => true⟩ Tryd.f36 = some F_slices_ContainsFuncscript_Call_script_Call := by kernel_rfl
theorem cfn_script_Encode_1 : cfn ctx Tryd.prog ⟨fun _ _ => true⟩ Tryd.f37 = some F_script_Encode_1 := by kernel_rfl
theorem cfn_script_Call_bare : cfn ctx Tryd.prog ⟨fun _ _ => true⟩ Tryd.f38 = some F_script_Call_bare := by kernel_rfl
theorem cfn_script_two : cfn ctx Tryd.prog ⟨fun _ _ => true⟩ Tryd.f39 = some F_script_two := by kernel_rfl
theorem cfn_avouchref19zin : cfn ctx Tryd.prog ⟨fun _ _ => true⟩ Tryd.f40 = some F_avouchref19zin := by kernel_rfl
theorem cfn_avouchref12zNumber : cfn ctx Tryd.prog ⟨fun _ _ => true⟩ Tryd.f41 = some F_avouchref12zNumber := by kernel_rfl
theorem cfn_avouchref19zright : cfn ctx Tryd.prog ⟨fun _ _ => true⟩ Tryd.f42 = some F_avouchref19zright := by kernel_rfl
theorem cfn_script_reader_number : cfn ctx Tryd.prog ⟨fun _ _ => true⟩ Tryd.f44 = some F_script_reader_number := by kernel_rfl
theorem cfn_avouchref19zSame : cfn ctx Tryd.prog ⟨fun _ _ => true⟩ Tryd.f46 = some F_avouchref19zSame := by kernel_rfl
theorem cfn_avouchref19zpair : cfn ctx Tryd.prog ⟨fun _ _ => true⟩ Tryd.f47 = some F_avouchref19zpair := by kernel_rfl
theorem cfn_item_Encode : cfn ctx Tryd.prog ⟨fun _ _ => true⟩ Tryd.f48 = some F_item_Encode := by kernel_rfl
theorem cfn_avouchref07zPad : cfn ctx Tryd.prog ⟨fun r o => !([(3, 2), (1, 4), (1, 2)] : List (Nat × Nat)).contains (r, o)⟩ Tryd.f49 = some F_avouchref07zPad := by kernel_rfl
theorem cfn_avouchref07zxor : cfn ctx Tryd.prog ⟨fun _ _ => true⟩ Tryd.f50 = some F_avouchref07zxor := by kernel_rfl
theorem cfn_avouchref06zBytes : cfn ctx Tryd.prog ⟨fun r o => !([(9, 5)] : List (Nat × Nat)).contains (r, o)⟩ Tryd.f51 = some F_avouchref06zBytes := by kernel_rfl
theorem cfn_avouchref06zPermute : cfn ctx Tryd.prog ⟨fun _ _ => true⟩ Tryd.f52 = some F_avouchref06zPermute := by kernel_rfl
theorem cfn_avouchref06zOfBytes : cfn ctx Tryd.prog ⟨fun _ _ => true⟩ Tryd.f53 = some F_avouchref06zOfBytes := by kernel_rfl
theorem cfn_avouchref12zCheck : cfn ctx Tryd.prog ⟨fun _ _ => true⟩ Tryd.f54 = some F_avouchref12zCheck := by kernel_rfl
theorem cfn_digest_Hash_put : cfn ctx Tryd.prog ⟨fun _ _ => true⟩ Tryd.f55 = some F_digest_Hash_put := by kernel_rfl
theorem cfn_keccak_State_Permute : cfn ctx Tryd.prog ⟨fun r o => !([(0, 0)] : List (Nat × Nat)).contains (r, o)⟩ Tryd.f56 = some F_keccak_State_Permute := by kernel_rfl
theorem cfn_keccak_State_Bytes : cfn ctx Tryd.prog ⟨fun r o => !([(0, 0)] : List (Nat × Nat)).contains (r, o)⟩ Tryd.f57 = some F_keccak_State_Bytes := by kernel_rfl
theorem cfn_i_strconv_Itoa : cfn ctx Tryd.prog ⟨fun _ _ => true⟩ Tryd.f59 = some F_i_strconv_Itoa := by kernel_rfl
theorem cfn_slices_IndexFuncscript_Call_script_Call : cfn ctx Tryd.prog ⟨fun _ _ => true⟩ Tryd.f60 = some F_slices_IndexFuncscript_Call_script_Call := by kernel_rfl
theorem cfn_slices_Clonescript_reader_byte : cfn ctx Tryd.prog ⟨fun _ _ => true⟩ Tryd.f61 = some F_slices_Clonescript_reader_byte := by kernel_rfl
theorem cfn_item_Check : cfn ctx Tryd.prog ⟨fun _ _ => true⟩ Tryd.f62 = some F_item_Check := by kernel_rfl
theorem cfn_item_number : cfn ctx Tryd.prog ⟨fun _ _ => true⟩ Tryd.f63 = some F_item_number := by kernel_rfl
theorem cfn_avouchref06zOfWords : cfn ctx Tryd.prog ⟨fun _ _ => true⟩ Tryd.f64 = some F_avouchref06zOfWords := by kernel_rfl
theorem cfn_avouchref06zRound : cfn ctx Tryd.prog ⟨fun r o => !([(0, 0)] : List (Nat × Nat)).contains (r, o)⟩ Tryd.f65 = some F_avouchref06zRound := by kernel_rfl
theorem cfn_avouchref06zWords : cfn ctx Tryd.prog ⟨fun _ _ => true⟩ Tryd.f66 = some F_avouchref06zWords := by kernel_rfl
theorem cfn_keccak_State_Round : cfn ctx Tryd.prog ⟨fun r o => !([(0, 0)] : List (Nat × Nat)).contains (r, o)⟩ Tryd.f67 = some F_keccak_State_Round := by kernel_rfl
theorem cfn_limb_Bytes : cfn ctx Tryd.prog ⟨fun _ _ => true⟩ Tryd.f68 = some F_limb_Bytes := by kernel_rfl
theorem cfn_i_strconv_FormatInt : cfn ctx Tryd.prog ⟨fun _ _ => true⟩ Tryd.f70 = some F_i_strconv_FormatInt := by kernel_rfl
theorem cfn_item_types : cfn ctx Tryd.prog ⟨fun _ _ => true⟩ Tryd.f71 = some F_item_types := by kernel_rfl
theorem cfn_slices_Containsint_int : cfn ctx Tryd.prog ⟨fun _ _ => true⟩ Tryd.f72 = some F_slices_Containsint_int := by kernel_rfl
theorem cfn_avouchref06zchi : cfn ctx Tryd.prog ⟨fun _ _ => true⟩ Tryd.f73 = some F_avouchref06zchi := by kernel_rfl
theorem cfn_avouchref06zpi : cfn ctx Tryd.prog ⟨fun _ _ => true⟩ Tryd.f74 = some F_avouchref06zpi := by kernel_rfl
theorem cfn_avouchref06zrho : cfn ctx Tryd.prog ⟨fun _ _ => true⟩ Tryd.f75 = some F_avouchref06zrho := by kernel_rfl
theorem cfn_avouchref06ztheta : cfn ctx Tryd.prog ⟨fun _ _ => true⟩ Tryd.f76 = some F_avouchref06ztheta := by kernel_rfl
theorem cfn_avouchref06zConstant : cfn ctx Tryd.prog ⟨fun _ _ => true⟩ Tryd.f77 = some F_avouchref06zConstant := by kernel_rfl
theorem cfn_keccak_State_theta : cfn ctx Tryd.prog ⟨fun r o => !([(0, 0)] : List (Nat × Nat)).contains (r, o)⟩ Tryd.f78 = some F_keccak_State_theta := by kernel_rfl
theorem cfn_keccak_State_rhoPi : cfn ctx Tryd.prog ⟨fun _ _ => true⟩ Tryd.f79 = some F_keccak_State_rhoPi := by kernel_rfl
theorem cfn_keccak_State_chi : cfn ctx Tryd.prog ⟨fun _ _ => true⟩ Tryd.f80 = some F_keccak_State_chi := by kernel_rfl
theorem cfn_keccak_Constant : cfn ctx Tryd.prog ⟨fun _ _ => true⟩ Tryd.f81 = some F_keccak_Constant := by kernel_rfl
theorem cfn_i_strconv_small : cfn ctx Tryd.prog ⟨fun _ _ => true⟩ Tryd.f82 = some F_i_strconv_small := by kernel_rfl
theorem cfn_slices_Indexint_int : cfn ctx Tryd.prog ⟨fun _ _ => true⟩ Tryd.f86 = some F_slices_Indexint_int := by kernel_rfl
theorem cfn_avouchref06zrc : cfn ctx Tryd.prog ⟨fun _ _ => true⟩ Tryd.f87 = some F_avouchref06zrc := by kernel_rfl
theorem cfn_math_bits_RotateLeft64 : cfn ctx Tryd.prog ⟨fun _ _ => true⟩ Tryd.f88 = some F_math_bits_RotateLeft64 := by kernel_rfl
theorem cfn_i_strconv_log10Pow2 : cfn ctx Tryd.prog ⟨fun _ _ => true⟩ Tryd.f89 = some F_i_strconv_log10Pow2 := by kernel_rfl
theorem cfn_math_bits_Len64 : cfn ctx Tryd.prog ⟨fun _ _ => true⟩ Tryd.f90 = some F_math_bits_Len64 := by kernel_rfl
theorem cfn_i_strconv_bool2int : cfn ctx Tryd.prog ⟨fun _ _ => true⟩ Tryd.f91 = some F_i_strconv_bool2int := by kernel_rfl
theorem cfn_i_strconv_isPowerOfTwo : cfn ctx Tryd.prog ⟨fun _ _ => true⟩ Tryd.f92 = some F_i_strconv_isPowerOfTwo := by kernel_rfl
theorem cfn_math_bits_TrailingZeros : cfn ctx Tryd.prog ⟨fun _ _ => true⟩ Tryd.f93 = some F_math_bits_TrailingZeros := by kernel_rfl
theorem fns_ok : ∀ f F, ctx.fns f = some F → ∃ fn fl, Tryd.prog.funcs[f]? = some fn ∧ cfn ctx Tryd.prog fl fn = some F ∧ fn.name ≠ "runtime.NumGoroutine" := by
  intro f F h
  simp only [ctx] at h
  unfold fnsT at h
  split at h
  · obtain rfl := Option.some.inj h; exact ⟨_, _, Tryd.func2, cfn_gosem_cut_init, by decide +kernel⟩
  · obtain rfl := Option.some.inj h; exact ⟨_, _, Tryd.func3, cfn_avouchlaw14zTagTells, by decide +kernel⟩
  · obtain rfl := Option.some.inj h; exact ⟨_, _, Tryd.func4, cfn_avouchlaw14zTagUnlike, by decide +kernel⟩
  · obtain rfl := Option.some.inj h; exact ⟨_, _, Tryd.func5, cfn_avouchlaw19zScriptTexts, by decide +kernel⟩
  · obtain rfl := Option.some.inj h; exact ⟨_, _, Tryd.func6, cfn_avouchlaw19zScriptTells, by decide +kernel⟩
  · obtain rfl := Option.some.inj h; exact ⟨_, _, Tryd.func7, cfn_avouchlaw19zScriptReads, by decide +kernel⟩
  · obtain rfl := Option.some.inj h; exact ⟨_, _, Tryd.func8, cfn_avouchlaw14zspeaks, by decide +kernel⟩
  · obtain rfl := Option.some.inj h; exact ⟨_, _, Tryd.func9, cfn_tag_Tag, by decide +kernel⟩
  · obtain rfl := Option.some.inj h; exact ⟨_, _, Tryd.func10, cfn_avouchlaw13zOfs, by decide +kernel⟩
  · obtain rfl := Option.some.inj h; exact ⟨_, _, Tryd.func11, cfn_avouchref14zTag, by decide +kernel⟩
  · obtain rfl := Option.some.inj h; exact ⟨_, _, Tryd.func12, cfn_avouchref13zSerialise, by decide +kernel⟩
  · obtain rfl := Option.some.inj h; exact ⟨_, _, Tryd.func13, cfn_avouchref13zSame, by decide +kernel⟩
  · obtain rfl := Option.some.inj h; exact ⟨_, _, Tryd.func14, cfn_digest_Sum, by decide +kernel⟩
  · obtain rfl := Option.some.inj h; exact ⟨_, _, Tryd.func15, cfn_avouchlaw19zspeaks, by decide +kernel⟩
  · obtain rfl := Option.some.inj h; exact ⟨_, _, Tryd.func16, cfn_script_Text, by decide +kernel⟩
  · obtain rfl := Option.some.inj h; exact ⟨_, _, Tryd.func17, cfn_avouchref19zText, by decide +kernel⟩
  · obtain rfl := Option.some.inj h; exact ⟨_, _, Tryd.func18, cfn_script_Encode, by decide +kernel⟩
  · obtain rfl := Option.some.inj h; exact ⟨_, _, Tryd.func19, cfn_avouchlaw19zOf, by decide +kernel⟩
  · obtain rfl := Option.some.inj h; exact ⟨_, _, Tryd.func20, cfn_avouchref19zEncode, by decide +kernel⟩
  · obtain rfl := Option.some.inj h; exact ⟨_, _, Tryd.func22, cfn_avouchlaw19zis, by decide +kernel⟩
  · obtain rfl := Option.some.inj h; exact ⟨_, _, Tryd.func23, cfn_avouchref19zDecode, by decide +kernel⟩
  · obtain rfl := Option.some.inj h; exact ⟨_, _, Tryd.func24, cfn_pattern_Serialise, by decide +kernel⟩
  · obtain rfl := Option.some.inj h; exact ⟨_, _, Tryd.func25, cfn_avouchlaw12zOf, by decide +kernel⟩
  · obtain rfl := Option.some.inj h; exact ⟨_, _, Tryd.func26, cfn_avouchref07zSum, by decide +kernel⟩
  · obtain rfl := Option.some.inj h; exact ⟨_, _, Tryd.func27, cfn_avouchref12zEncode, by decide +kernel⟩
  · obtain rfl := Option.some.inj h; exact ⟨_, _, Tryd.func28, cfn_digest_Hash_Write, by decide +kernel⟩
  · obtain rfl := Option.some.inj h; exact ⟨_, _, Tryd.func29, cfn_digest_Hash_Sum, by decide +kernel⟩
  · obtain rfl := Option.some.inj h; exact ⟨_, _, Tryd.func30, cfn_strings_Builder_WriteString, by decide +kernel⟩
  · obtain rfl := Option.some.inj h; exact ⟨_, _, Tryd.func31, cfn_strconv_Itoa, by decide +kernel⟩
  · obtain rfl := Option.some.inj h; exact ⟨_, _, Tryd.func32, cfn_strings_Builder_WriteByte, by decide +kernel⟩
  · obtain rfl := Option.some.inj h; exact ⟨_, _, Tryd.func34, cfn_avouchref19zdecimal, by decide +kernel⟩
  · obtain rfl := Option.some.inj h; exact ⟨_, _, Tryd.func35, cfn_avouchref19zdigit, by decide +kernel⟩
  · obtain rfl := Option.some.inj h; exact ⟨_, _, Tryd.func36, cfn_slices_ContainsFuncscript_Call_script_Call, by decide +kernel⟩
  · obtain rfl := Option.some.inj h; exact ⟨_, _, Tryd.func37, cfn_script_Encode_1, by decide +kernel⟩
  · obtain rfl := Option.some.inj h; exact ⟨_, _, Tryd.func38, cfn_script_Call_bare, by decide +kernel⟩
  · obtain rfl := Option.some.inj h; exact ⟨_, _, Tryd.func39, cfn_script_two, by decide +kernel⟩
  · obtain rfl := Option.some.inj h; exact ⟨_, _, Tryd.func40, cfn_avouchref19zin, by decide +kernel⟩
  · obtain rfl := Option.some.inj h; exact ⟨_, _, Tryd.func41, cfn_avouchref12zNumber, by decide +kernel⟩
  · obtain rfl := Option.some.inj h; exact ⟨_, _, Tryd.func42, cfn_avouchref19zright, by decide +kernel⟩
  · obtain rfl := Option.some.inj h; exact ⟨_, _, Tryd.func44, cfn_script_reader_number, by decide +kernel⟩
  · obtain rfl := Option.some.inj h; exact ⟨_, _, Tryd.func46, cfn_avouchref19zSame, by decide +kernel⟩
  · obtain rfl := Option.some.inj h; exact ⟨_, _, Tryd.func47, cfn_avouchref19zpair, by decide +kernel⟩
  · obtain rfl := Option.some.inj h; exact ⟨_, _, Tryd.func48, cfn_item_Encode, by decide +kernel⟩
  · obtain rfl := Option.some.inj h; exact ⟨_, _, Tryd.func49, cfn_avouchref07zPad, by decide +kernel⟩
  · obtain rfl := Option.some.inj h; exact ⟨_, _, Tryd.func50, cfn_avouchref07zxor, by decide +kernel⟩
  · obtain rfl := Option.some.inj h; exact ⟨_, _, Tryd.func51, cfn_avouchref06zBytes, by decide +kernel⟩
  · obtain rfl := Option.some.inj h; exact ⟨_, _, Tryd.func52, cfn_avouchref06zPermute, by decide +kernel⟩
  · obtain rfl := Option.some.inj h; exact ⟨_, _, Tryd.func53, cfn_avouchref06zOfBytes, by decide +kernel⟩
  · obtain rfl := Option.some.inj h; exact ⟨_, _, Tryd.func54, cfn_avouchref12zCheck, by decide +kernel⟩
  · obtain rfl := Option.some.inj h; exact ⟨_, _, Tryd.func55, cfn_digest_Hash_put, by decide +kernel⟩
  · obtain rfl := Option.some.inj h; exact ⟨_, _, Tryd.func56, cfn_keccak_State_Permute, by decide +kernel⟩
  · obtain rfl := Option.some.inj h; exact ⟨_, _, Tryd.func57, cfn_keccak_State_Bytes, by decide +kernel⟩
  · obtain rfl := Option.some.inj h; exact ⟨_, _, Tryd.func59, cfn_i_strconv_Itoa, by decide +kernel⟩
  · obtain rfl := Option.some.inj h; exact ⟨_, _, Tryd.func60, cfn_slices_IndexFuncscript_Call_script_Call, by decide +kernel⟩
  · obtain rfl := Option.some.inj h; exact ⟨_, _, Tryd.func61, cfn_slices_Clonescript_reader_byte, by decide +kernel⟩
  · obtain rfl := Option.some.inj h; exact ⟨_, _, Tryd.func62, cfn_item_Check, by decide +kernel⟩
  · obtain rfl := Option.some.inj h; exact ⟨_, _, Tryd.func63, cfn_item_number, by decide +kernel⟩
  · obtain rfl := Option.some.inj h; exact ⟨_, _, Tryd.func64, cfn_avouchref06zOfWords, by decide +kernel⟩
  · obtain rfl := Option.some.inj h; exact ⟨_, _, Tryd.func65, cfn_avouchref06zRound, by decide +kernel⟩
  · obtain rfl := Option.some.inj h; exact ⟨_, _, Tryd.func66, cfn_avouchref06zWords, by decide +kernel⟩
  · obtain rfl := Option.some.inj h; exact ⟨_, _, Tryd.func67, cfn_keccak_State_Round, by decide +kernel⟩
  · obtain rfl := Option.some.inj h; exact ⟨_, _, Tryd.func68, cfn_limb_Bytes, by decide +kernel⟩
  · obtain rfl := Option.some.inj h; exact ⟨_, _, Tryd.func70, cfn_i_strconv_FormatInt, by decide +kernel⟩
  · obtain rfl := Option.some.inj h; exact ⟨_, _, Tryd.func71, cfn_item_types, by decide +kernel⟩
  · obtain rfl := Option.some.inj h; exact ⟨_, _, Tryd.func72, cfn_slices_Containsint_int, by decide +kernel⟩
  · obtain rfl := Option.some.inj h; exact ⟨_, _, Tryd.func73, cfn_avouchref06zchi, by decide +kernel⟩
  · obtain rfl := Option.some.inj h; exact ⟨_, _, Tryd.func74, cfn_avouchref06zpi, by decide +kernel⟩
  · obtain rfl := Option.some.inj h; exact ⟨_, _, Tryd.func75, cfn_avouchref06zrho, by decide +kernel⟩
  · obtain rfl := Option.some.inj h; exact ⟨_, _, Tryd.func76, cfn_avouchref06ztheta, by decide +kernel⟩
  · obtain rfl := Option.some.inj h; exact ⟨_, _, Tryd.func77, cfn_avouchref06zConstant, by decide +kernel⟩
  · obtain rfl := Option.some.inj h; exact ⟨_, _, Tryd.func78, cfn_keccak_State_theta, by decide +kernel⟩
  · obtain rfl := Option.some.inj h; exact ⟨_, _, Tryd.func79, cfn_keccak_State_rhoPi, by decide +kernel⟩
  · obtain rfl := Option.some.inj h; exact ⟨_, _, Tryd.func80, cfn_keccak_State_chi, by decide +kernel⟩
  · obtain rfl := Option.some.inj h; exact ⟨_, _, Tryd.func81, cfn_keccak_Constant, by decide +kernel⟩
  · obtain rfl := Option.some.inj h; exact ⟨_, _, Tryd.func82, cfn_i_strconv_small, by decide +kernel⟩
  · obtain rfl := Option.some.inj h; exact ⟨_, _, Tryd.func86, cfn_slices_Indexint_int, by decide +kernel⟩
  · obtain rfl := Option.some.inj h; exact ⟨_, _, Tryd.func87, cfn_avouchref06zrc, by decide +kernel⟩
  · obtain rfl := Option.some.inj h; exact ⟨_, _, Tryd.func88, cfn_math_bits_RotateLeft64, by decide +kernel⟩
  · obtain rfl := Option.some.inj h; exact ⟨_, _, Tryd.func89, cfn_i_strconv_log10Pow2, by decide +kernel⟩
  · obtain rfl := Option.some.inj h; exact ⟨_, _, Tryd.func90, cfn_math_bits_Len64, by decide +kernel⟩
  · obtain rfl := Option.some.inj h; exact ⟨_, _, Tryd.func91, cfn_i_strconv_bool2int, by decide +kernel⟩
  · obtain rfl := Option.some.inj h; exact ⟨_, _, Tryd.func92, cfn_i_strconv_isPowerOfTwo, by decide +kernel⟩
  · obtain rfl := Option.some.inj h; exact ⟨_, _, Tryd.func93, cfn_math_bits_TrailingZeros, by decide +kernel⟩
  · simp at h
end Go.Av
