/- The machine's code is the program's. -/
import Derived.Test.YteionlpkpphkpaaC0
import Derived.Test.YteionlpkpphkpaaChecked
import Derived.KernelRfl
import Derived.Test.YteionlpkpphkpaaC1
namespace Go.Av
open Go.Proofs
set_option maxRecDepth 100000
theorem cfn_gosem_cut_init : cfn ctx Try.prog ⟨fun _ _ => true⟩ Try.f2 = some F_gosem_cut_init := by kernel_rfl
theorem cfn_avouchlaw10zPoseidonConstants : cfn ctx Try.prog ⟨fun _ _ => true⟩ Try.f3 = some F_avouchlaw10zPoseidonConstants := by kernel_rfl
theorem cfn_avouchlaw10zPoseidonUnlike : cfn ctx Try.prog ⟨fun _ _ => true⟩ Try.f4 = some F_avouchlaw10zPoseidonUnlike := by kernel_rfl
theorem cfn_avouchlaw10zPoseidonPower : cfn ctx Try.prog ⟨fun _ _ => true⟩ Try.f5 = some F_avouchlaw10zPoseidonPower := by kernel_rfl
theorem cfn_avouchlaw10zPoseidonSteps : cfn ctx Try.prog ⟨fun _ _ => true⟩ Try.f6 = some F_avouchlaw10zPoseidonSteps := by kernel_rfl
theorem cfn_avouchlaw10zspeaks : cfn ctx Try.prog ⟨fun _ _ => true⟩ Try.f10 = some F_avouchlaw10zspeaks := by kernel_rfl
theorem cfn_poseidon_New : cfn ctx Try.prog ⟨fun r o => !([(1, 1)] : List (Nat × Nat)).contains (r, o)⟩ Try.f11 = some F_poseidon_New := by kernel_rfl
theorem cfn_avouchref10zNew : cfn ctx Try.prog ⟨fun _ _ => true⟩ Try.f12 = some F_avouchref10zNew := by kernel_rfl
theorem cfn_poseidon_Permutation_Constants : cfn ctx Try.prog ⟨fun _ _ => true⟩ Try.f13 = some F_poseidon_Permutation_Constants := by kernel_rfl
theorem cfn_avouchlaw02zIs : cfn ctx Try.prog ⟨fun _ _ => true⟩ Try.f14 = some F_avouchlaw02zIs := by kernel_rfl
theorem cfn_avouchref10zConstant : cfn ctx Try.prog ⟨fun _ _ => true⟩ Try.f15 = some F_avouchref10zConstant := by kernel_rfl
theorem cfn_avouchlaw10zfew : cfn ctx Try.prog ⟨fun _ _ => true⟩ Try.f16 = some F_avouchlaw10zfew := by kernel_rfl
theorem cfn_avouchlaw10zOf : cfn ctx Try.prog ⟨fun _ _ => true⟩ Try.f17 = some F_avouchlaw10zOf := by kernel_rfl
theorem cfn_field_Element_Equal : cfn ctx Try.prog ⟨fun _ _ => true⟩ Try.f18 = some F_field_Element_Equal := by kernel_rfl
theorem cfn_poseidon_Permutation_Round : cfn ctx Try.prog ⟨fun r o => !([(0, 0)] : List (Nat × Nat)).contains (r, o)⟩ Try.f19 = some F_poseidon_Permutation_Round := by kernel_rfl
theorem cfn_poseidon_Permutation_Permute : cfn ctx Try.prog ⟨fun r o => !([(0, 0)] : List (Nat × Nat)).contains (r, o)⟩ Try.f20 = some F_poseidon_Permutation_Permute := by kernel_rfl
theorem cfn_field_FromWide : cfn ctx Try.prog ⟨fun _ _ => true⟩ Try.f21 = some F_field_FromWide := by kernel_rfl
theorem cfn_poseidon_Power : cfn ctx Try.prog ⟨fun _ _ => true⟩ Try.f22 = some F_poseidon_Power := by kernel_rfl
theorem cfn_field_Element_Exp : cfn ctx Try.prog ⟨fun _ _ => true⟩ Try.f23 = some F_field_Element_Exp := by kernel_rfl
theorem cfn_field_Element_Add : cfn ctx Try.prog ⟨fun _ _ => true⟩ Try.f24 = some F_field_Element_Add := by kernel_rfl
theorem cfn_matrix_Cauchy : cfn ctx Try.prog ⟨fun _ _ => true⟩ Try.f25 = some F_matrix_Cauchy := by kernel_rfl
theorem cfn_matrix_Matrix_Apply : cfn ctx Try.prog ⟨fun _ _ => true⟩ Try.f26 = some F_matrix_Matrix_Apply := by kernel_rfl
theorem cfn_field_Element_IsZero : cfn ctx Try.prog ⟨fun _ _ => true⟩ Try.f38 = some F_field_Element_IsZero := by kernel_rfl
theorem cfn_field_FromUint64 : cfn ctx Try.prog ⟨fun _ _ => true⟩ Try.f39 = some F_field_FromUint64 := by kernel_rfl
theorem cfn_avouchref08zNew : cfn ctx Try.prog ⟨fun _ _ => true⟩ Try.f40 = some F_avouchref08zNew := by kernel_rfl
theorem cfn_avouchref09zCauchy : cfn ctx Try.prog ⟨fun _ _ => true⟩ Try.f41 = some F_avouchref09zCauchy := by kernel_rfl
theorem cfn_avouchref08zElement : cfn ctx Try.prog ⟨fun r o => !([(0, 0)] : List (Nat × Nat)).contains (r, o)⟩ Try.f42 = some F_avouchref08zElement := by kernel_rfl
theorem cfn_poseidon_Permutation_fill : cfn ctx Try.prog ⟨fun _ _ => true⟩ Try.f44 = some F_poseidon_Permutation_fill := by kernel_rfl
theorem cfn_field_Element_Bytes : cfn ctx Try.prog ⟨fun _ _ => true⟩ Try.f45 = some F_field_Element_Bytes := by kernel_rfl
theorem cfn_avouchref02zBytes : cfn ctx Try.prog ⟨fun _ _ => true⟩ Try.f46 = some F_avouchref02zBytes := by kernel_rfl
theorem cfn_avouchref02zMod : cfn ctx Try.prog ⟨fun _ _ => true⟩ Try.f47 = some F_avouchref02zMod := by kernel_rfl
theorem cfn_avouchref01zOfBytes : cfn ctx Try.prog ⟨fun _ _ => true⟩ Try.f48 = some F_avouchref01zOfBytes := by kernel_rfl
theorem cfn_field_prime : cfn ctx Try.prog ⟨fun _ _ => true⟩ Try.f49 = some F_field_prime := by kernel_rfl
theorem cfn_limb_New : cfn ctx Try.prog ⟨fun r o => !([(3, 3)] : List (Nat × Nat)).contains (r, o)⟩ Try.f50 = some F_limb_New := by kernel_rfl
theorem cfn_field_enter : cfn ctx Try.prog ⟨fun _ _ => true⟩ Try.f51 = some F_field_enter := by kernel_rfl
theorem cfn_limb_Modulus_Reduce : cfn ctx Try.prog ⟨fun _ _ => true⟩ Try.f52 = some F_limb_Modulus_Reduce := by kernel_rfl
theorem cfn_limb_Words : cfn ctx Try.prog ⟨fun _ _ => true⟩ Try.f53 = some F_limb_Words := by kernel_rfl
theorem cfn_field_Element_Square : cfn ctx Try.prog ⟨fun _ _ => true⟩ Try.f54 = some F_field_Element_Square := by kernel_rfl
theorem cfn_field_Element_Mul : cfn ctx Try.prog ⟨fun _ _ => true⟩ Try.f55 = some F_field_Element_Mul := by kernel_rfl
theorem cfn_limb_Bits : cfn ctx Try.prog ⟨fun _ _ => true⟩ Try.f56 = some F_limb_Bits := by kernel_rfl
theorem cfn_field_below : cfn ctx Try.prog ⟨fun _ _ => true⟩ Try.f57 = some F_field_below := by kernel_rfl
theorem cfn_field_plus : cfn ctx Try.prog ⟨fun _ _ => true⟩ Try.f58 = some F_field_plus := by kernel_rfl
theorem cfn_matrix_build : cfn ctx Try.prog ⟨fun _ _ => true⟩ Try.f59 = some F_matrix_build := by kernel_rfl
theorem cfn_matrix_Cauchy_1 : cfn ctx Try.prog ⟨fun _ _ => true⟩ Try.f60 = some F_matrix_Cauchy_1 := by kernel_rfl
theorem cfn_field_Element_Inverse : cfn ctx Try.prog ⟨fun _ _ => true⟩ Try.f61 = some F_field_Element_Inverse := by kernel_rfl
theorem cfn_matrix_Vector_dot : cfn ctx Try.prog ⟨fun _ _ => true⟩ Try.f62 = some F_matrix_Vector_dot := by kernel_rfl
theorem cfn_avouchref08zin : cfn ctx Try.prog ⟨fun _ _ => true⟩ Try.f66 = some F_avouchref08zin := by kernel_rfl
theorem cfn_avouchref08zlay : cfn ctx Try.prog ⟨fun _ _ => true⟩ Try.f67 = some F_avouchref08zlay := by kernel_rfl
theorem cfn_avouchref08zTurn : cfn ctx Try.prog ⟨fun r o => !([(0, 0)] : List (Nat × Nat)).contains (r, o)⟩ Try.f68 = some F_avouchref08zTurn := by kernel_rfl
theorem cfn_avouchref02zInverse : cfn ctx Try.prog ⟨fun _ _ => true⟩ Try.f69 = some F_avouchref02zInverse := by kernel_rfl
theorem cfn_avouchref08zBit : cfn ctx Try.prog ⟨fun r o => !([(0, 0)] : List (Nat × Nat)).contains (r, o)⟩ Try.f70 = some F_avouchref08zBit := by kernel_rfl
theorem cfn_avouchref01zCmp : cfn ctx Try.prog ⟨fun _ _ => true⟩ Try.f71 = some F_avouchref01zCmp := by kernel_rfl
theorem cfn_avouchref02zP : cfn ctx Try.prog ⟨fun _ _ => true⟩ Try.f72 = some F_avouchref02zP := by kernel_rfl
theorem cfn_avouchref01zTrim : cfn ctx Try.prog ⟨fun _ _ => true⟩ Try.f73 = some F_avouchref01zTrim := by kernel_rfl
theorem cfn_grain_New : cfn ctx Try.prog ⟨fun r o => !([(3, 1)] : List (Nat × Nat)).contains (r, o)⟩ Try.f76 = some F_grain_New := by kernel_rfl
theorem cfn_grain_Source_Element : cfn ctx Try.prog ⟨fun _ _ => true⟩ Try.f77 = some F_grain_Source_Element := by kernel_rfl
theorem cfn_field_Element_leave : cfn ctx Try.prog ⟨fun _ _ => true⟩ Try.f78 = some F_field_Element_leave := by kernel_rfl
theorem cfn_limb_Bytes : cfn ctx Try.prog ⟨fun _ _ => true⟩ Try.f79 = some F_limb_Bytes := by kernel_rfl
theorem cfn_avouchref01zBytes : cfn ctx Try.prog ⟨fun _ _ => true⟩ Try.f80 = some F_avouchref01zBytes := by kernel_rfl
theorem cfn_avouchref01zWords : cfn ctx Try.prog ⟨fun _ _ => true⟩ Try.f81 = some F_avouchref01zWords := by kernel_rfl
theorem cfn_avouchref01zMod : cfn ctx Try.prog ⟨fun _ _ => true⟩ Try.f82 = some F_avouchref01zMod := by kernel_rfl
theorem cfn_slices_Cloneuint64zuint64 : cfn ctx Try.prog ⟨fun _ _ => true⟩ Try.f83 = some F_slices_Cloneuint64zuint64 := by kernel_rfl
theorem cfn_limb_Modulus_twice : cfn ctx Try.prog ⟨fun _ _ => true⟩ Try.f84 = some F_limb_Modulus_twice := by kernel_rfl
theorem cfn_field_product : cfn ctx Try.prog ⟨fun _ _ => true⟩ Try.f85 = some F_field_product := by kernel_rfl
theorem cfn_math_bits_Len64 : cfn ctx Try.prog ⟨fun _ _ => true⟩ Try.f86 = some F_math_bits_Len64 := by kernel_rfl
theorem cfn_field_borrow : cfn ctx Try.prog ⟨fun _ _ => true⟩ Try.f87 = some F_field_borrow := by kernel_rfl
theorem cfn_field_Sum : cfn ctx Try.prog ⟨fun _ _ => true⟩ Try.f89 = some F_field_Sum := by kernel_rfl
theorem cfn_avouchref02zExp : cfn ctx Try.prog ⟨fun _ _ => true⟩ Try.f90 = some F_avouchref02zExp := by kernel_rfl
theorem cfn_avouchref01zSub : cfn ctx Try.prog ⟨fun _ _ => true⟩ Try.f91 = some F_avouchref01zSub := by kernel_rfl
theorem cfn_avouchref01zget : cfn ctx Try.prog ⟨fun _ _ => true⟩ Try.f92 = some F_avouchref01zget := by kernel_rfl
theorem cfn_grain_New_1 : cfn ctx Try.prog ⟨fun _ _ => true⟩ Try.f97 = some F_grain_New_1 := by kernel_rfl
theorem cfn_grain_Source_turn : cfn ctx Try.prog ⟨fun _ _ => true⟩ Try.f98 = some F_grain_Source_turn := by kernel_rfl
theorem cfn_grain_Source_Bit : cfn ctx Try.prog ⟨fun _ _ => true⟩ Try.f99 = some F_grain_Source_Bit := by kernel_rfl
theorem cfn_field_FromBytes : cfn ctx Try.prog ⟨fun _ _ => true⟩ Try.f100 = some F_field_FromBytes := by kernel_rfl
theorem cfn_avouchref01zShift : cfn ctx Try.prog ⟨fun _ _ => true⟩ Try.f101 = some F_avouchref01zShift := by kernel_rfl
theorem cfn_avouchref01zAdd : cfn ctx Try.prog ⟨fun _ _ => true⟩ Try.f102 = some F_avouchref01zAdd := by kernel_rfl
theorem cfn_avouchref01zMul : cfn ctx Try.prog ⟨fun _ _ => true⟩ Try.f103 = some F_avouchref01zMul := by kernel_rfl
theorem cfn_limb_Modulus_less : cfn ctx Try.prog ⟨fun _ _ => true⟩ Try.f104 = some F_limb_Modulus_less := by kernel_rfl
theorem cfn_field_inverse : cfn ctx Try.prog ⟨fun _ _ => true⟩ Try.f105 = some F_field_inverse := by kernel_rfl
theorem cfn_field_line : cfn ctx Try.prog ⟨fun _ _ => true⟩ Try.f106 = some F_field_line := by kernel_rfl
theorem cfn_avouchref01zBits : cfn ctx Try.prog ⟨fun _ _ => true⟩ Try.f108 = some F_avouchref01zBits := by kernel_rfl
theorem cfn_avouchref02zMul : cfn ctx Try.prog ⟨fun _ _ => true⟩ Try.f109 = some F_avouchref02zMul := by kernel_rfl
theorem cfn_avouchref01zBit : cfn ctx Try.prog ⟨fun _ _ => true⟩ Try.f110 = some F_avouchref01zBit := by kernel_rfl
theorem cfn_limb_Cmp : cfn ctx Try.prog ⟨fun _ _ => true⟩ Try.f115 = some F_limb_Cmp := by kernel_rfl
theorem cfn_limb_Sub : cfn ctx Try.prog ⟨fun _ _ => true⟩ Try.f116 = some F_limb_Sub := by kernel_rfl
theorem cfn_math_bits_Mul64 : cfn ctx Try.prog ⟨fun _ _ => true⟩ Try.f117 = some F_math_bits_Mul64 := by kernel_rfl
theorem cfn_avouchref02zrowOf : cfn ctx Try.prog ⟨fun _ _ => true⟩ Try.f118 = some F_avouchref02zrowOf := by kernel_rfl
theorem cfn_avouchref02zmore : cfn ctx Try.prog ⟨fun r o => !([(0, 0)] : List (Nat × Nat)).contains (r, o)⟩ Try.f119 = some F_avouchref02zmore := by kernel_rfl
theorem cfn_avouchref02zreaches : cfn ctx Try.prog ⟨fun _ _ => true⟩ Try.f120 = some F_avouchref02zreaches := by kernel_rfl
theorem cfn_avouchref02zminus : cfn ctx Try.prog ⟨fun r o => !([(0, 0)] : List (Nat × Nat)).contains (r, o)⟩ Try.f121 = some F_avouchref02zminus := by kernel_rfl
theorem cfn_cmp_Compareuint64 : cfn ctx Try.prog ⟨fun _ _ => true⟩ Try.f130 = some F_cmp_Compareuint64 := by kernel_rfl
theorem cfn_limb_at : cfn ctx Try.prog ⟨fun _ _ => true⟩ Try.f131 = some F_limb_at := by kernel_rfl
theorem cfn_limb_each : cfn ctx Try.prog ⟨fun _ _ => true⟩ Try.f132 = some F_limb_each := by kernel_rfl
theorem cfn_cmp_isNaNuint64 : cfn ctx Try.prog ⟨fun _ _ => true⟩ Try.f140 = some F_cmp_isNaNuint64 := by kernel_rfl
theorem fns_ok : ∀ f F, ctx.fns f = some F → ∃ fn fl, Try.prog.funcs[f]? = some fn ∧ cfn ctx Try.prog fl fn = some F ∧ fn.name ≠ "runtime.NumGoroutine" := by
  intro f F h
  simp only [ctx] at h
  unfold fnsT at h
  split at h
  · obtain rfl := Option.some.inj h; exact ⟨_, _, Try.func2, cfn_gosem_cut_init, by decide +kernel⟩
  · obtain rfl := Option.some.inj h; exact ⟨_, _, Try.func3, cfn_avouchlaw10zPoseidonConstants, by decide +kernel⟩
  · obtain rfl := Option.some.inj h; exact ⟨_, _, Try.func4, cfn_avouchlaw10zPoseidonUnlike, by decide +kernel⟩
  · obtain rfl := Option.some.inj h; exact ⟨_, _, Try.func5, cfn_avouchlaw10zPoseidonPower, by decide +kernel⟩
  · obtain rfl := Option.some.inj h; exact ⟨_, _, Try.func6, cfn_avouchlaw10zPoseidonSteps, by decide +kernel⟩
  · obtain rfl := Option.some.inj h; exact ⟨_, _, Try.func10, cfn_avouchlaw10zspeaks, by decide +kernel⟩
  · obtain rfl := Option.some.inj h; exact ⟨_, _, Try.func11, cfn_poseidon_New, by decide +kernel⟩
  · obtain rfl := Option.some.inj h; exact ⟨_, _, Try.func12, cfn_avouchref10zNew, by decide +kernel⟩
  · obtain rfl := Option.some.inj h; exact ⟨_, _, Try.func13, cfn_poseidon_Permutation_Constants, by decide +kernel⟩
  · obtain rfl := Option.some.inj h; exact ⟨_, _, Try.func14, cfn_avouchlaw02zIs, by decide +kernel⟩
  · obtain rfl := Option.some.inj h; exact ⟨_, _, Try.func15, cfn_avouchref10zConstant, by decide +kernel⟩
  · obtain rfl := Option.some.inj h; exact ⟨_, _, Try.func16, cfn_avouchlaw10zfew, by decide +kernel⟩
  · obtain rfl := Option.some.inj h; exact ⟨_, _, Try.func17, cfn_avouchlaw10zOf, by decide +kernel⟩
  · obtain rfl := Option.some.inj h; exact ⟨_, _, Try.func18, cfn_field_Element_Equal, by decide +kernel⟩
  · obtain rfl := Option.some.inj h; exact ⟨_, _, Try.func19, cfn_poseidon_Permutation_Round, by decide +kernel⟩
  · obtain rfl := Option.some.inj h; exact ⟨_, _, Try.func20, cfn_poseidon_Permutation_Permute, by decide +kernel⟩
  · obtain rfl := Option.some.inj h; exact ⟨_, _, Try.func21, cfn_field_FromWide, by decide +kernel⟩
  · obtain rfl := Option.some.inj h; exact ⟨_, _, Try.func22, cfn_poseidon_Power, by decide +kernel⟩
  · obtain rfl := Option.some.inj h; exact ⟨_, _, Try.func23, cfn_field_Element_Exp, by decide +kernel⟩
  · obtain rfl := Option.some.inj h; exact ⟨_, _, Try.func24, cfn_field_Element_Add, by decide +kernel⟩
  · obtain rfl := Option.some.inj h; exact ⟨_, _, Try.func25, cfn_matrix_Cauchy, by decide +kernel⟩
  · obtain rfl := Option.some.inj h; exact ⟨_, _, Try.func26, cfn_matrix_Matrix_Apply, by decide +kernel⟩
  · obtain rfl := Option.some.inj h; exact ⟨_, _, Try.func38, cfn_field_Element_IsZero, by decide +kernel⟩
  · obtain rfl := Option.some.inj h; exact ⟨_, _, Try.func39, cfn_field_FromUint64, by decide +kernel⟩
  · obtain rfl := Option.some.inj h; exact ⟨_, _, Try.func40, cfn_avouchref08zNew, by decide +kernel⟩
  · obtain rfl := Option.some.inj h; exact ⟨_, _, Try.func41, cfn_avouchref09zCauchy, by decide +kernel⟩
  · obtain rfl := Option.some.inj h; exact ⟨_, _, Try.func42, cfn_avouchref08zElement, by decide +kernel⟩
  · obtain rfl := Option.some.inj h; exact ⟨_, _, Try.func44, cfn_poseidon_Permutation_fill, by decide +kernel⟩
  · obtain rfl := Option.some.inj h; exact ⟨_, _, Try.func45, cfn_field_Element_Bytes, by decide +kernel⟩
  · obtain rfl := Option.some.inj h; exact ⟨_, _, Try.func46, cfn_avouchref02zBytes, by decide +kernel⟩
  · obtain rfl := Option.some.inj h; exact ⟨_, _, Try.func47, cfn_avouchref02zMod, by decide +kernel⟩
  · obtain rfl := Option.some.inj h; exact ⟨_, _, Try.func48, cfn_avouchref01zOfBytes, by decide +kernel⟩
  · obtain rfl := Option.some.inj h; exact ⟨_, _, Try.func49, cfn_field_prime, by decide +kernel⟩
  · obtain rfl := Option.some.inj h; exact ⟨_, _, Try.func50, cfn_limb_New, by decide +kernel⟩
  · obtain rfl := Option.some.inj h; exact ⟨_, _, Try.func51, cfn_field_enter, by decide +kernel⟩
  · obtain rfl := Option.some.inj h; exact ⟨_, _, Try.func52, cfn_limb_Modulus_Reduce, by decide +kernel⟩
  · obtain rfl := Option.some.inj h; exact ⟨_, _, Try.func53, cfn_limb_Words, by decide +kernel⟩
  · obtain rfl := Option.some.inj h; exact ⟨_, _, Try.func54, cfn_field_Element_Square, by decide +kernel⟩
  · obtain rfl := Option.some.inj h; exact ⟨_, _, Try.func55, cfn_field_Element_Mul, by decide +kernel⟩
  · obtain rfl := Option.some.inj h; exact ⟨_, _, Try.func56, cfn_limb_Bits, by decide +kernel⟩
  · obtain rfl := Option.some.inj h; exact ⟨_, _, Try.func57, cfn_field_below, by decide +kernel⟩
  · obtain rfl := Option.some.inj h; exact ⟨_, _, Try.func58, cfn_field_plus, by decide +kernel⟩
  · obtain rfl := Option.some.inj h; exact ⟨_, _, Try.func59, cfn_matrix_build, by decide +kernel⟩
  · obtain rfl := Option.some.inj h; exact ⟨_, _, Try.func60, cfn_matrix_Cauchy_1, by decide +kernel⟩
  · obtain rfl := Option.some.inj h; exact ⟨_, _, Try.func61, cfn_field_Element_Inverse, by decide +kernel⟩
  · obtain rfl := Option.some.inj h; exact ⟨_, _, Try.func62, cfn_matrix_Vector_dot, by decide +kernel⟩
  · obtain rfl := Option.some.inj h; exact ⟨_, _, Try.func66, cfn_avouchref08zin, by decide +kernel⟩
  · obtain rfl := Option.some.inj h; exact ⟨_, _, Try.func67, cfn_avouchref08zlay, by decide +kernel⟩
  · obtain rfl := Option.some.inj h; exact ⟨_, _, Try.func68, cfn_avouchref08zTurn, by decide +kernel⟩
  · obtain rfl := Option.some.inj h; exact ⟨_, _, Try.func69, cfn_avouchref02zInverse, by decide +kernel⟩
  · obtain rfl := Option.some.inj h; exact ⟨_, _, Try.func70, cfn_avouchref08zBit, by decide +kernel⟩
  · obtain rfl := Option.some.inj h; exact ⟨_, _, Try.func71, cfn_avouchref01zCmp, by decide +kernel⟩
  · obtain rfl := Option.some.inj h; exact ⟨_, _, Try.func72, cfn_avouchref02zP, by decide +kernel⟩
  · obtain rfl := Option.some.inj h; exact ⟨_, _, Try.func73, cfn_avouchref01zTrim, by decide +kernel⟩
  · obtain rfl := Option.some.inj h; exact ⟨_, _, Try.func76, cfn_grain_New, by decide +kernel⟩
  · obtain rfl := Option.some.inj h; exact ⟨_, _, Try.func77, cfn_grain_Source_Element, by decide +kernel⟩
  · obtain rfl := Option.some.inj h; exact ⟨_, _, Try.func78, cfn_field_Element_leave, by decide +kernel⟩
  · obtain rfl := Option.some.inj h; exact ⟨_, _, Try.func79, cfn_limb_Bytes, by decide +kernel⟩
  · obtain rfl := Option.some.inj h; exact ⟨_, _, Try.func80, cfn_avouchref01zBytes, by decide +kernel⟩
  · obtain rfl := Option.some.inj h; exact ⟨_, _, Try.func81, cfn_avouchref01zWords, by decide +kernel⟩
  · obtain rfl := Option.some.inj h; exact ⟨_, _, Try.func82, cfn_avouchref01zMod, by decide +kernel⟩
  · obtain rfl := Option.some.inj h; exact ⟨_, _, Try.func83, cfn_slices_Cloneuint64zuint64, by decide +kernel⟩
  · obtain rfl := Option.some.inj h; exact ⟨_, _, Try.func84, cfn_limb_Modulus_twice, by decide +kernel⟩
  · obtain rfl := Option.some.inj h; exact ⟨_, _, Try.func85, cfn_field_product, by decide +kernel⟩
  · obtain rfl := Option.some.inj h; exact ⟨_, _, Try.func86, cfn_math_bits_Len64, by decide +kernel⟩
  · obtain rfl := Option.some.inj h; exact ⟨_, _, Try.func87, cfn_field_borrow, by decide +kernel⟩
  · obtain rfl := Option.some.inj h; exact ⟨_, _, Try.func89, cfn_field_Sum, by decide +kernel⟩
  · obtain rfl := Option.some.inj h; exact ⟨_, _, Try.func90, cfn_avouchref02zExp, by decide +kernel⟩
  · obtain rfl := Option.some.inj h; exact ⟨_, _, Try.func91, cfn_avouchref01zSub, by decide +kernel⟩
  · obtain rfl := Option.some.inj h; exact ⟨_, _, Try.func92, cfn_avouchref01zget, by decide +kernel⟩
  · obtain rfl := Option.some.inj h; exact ⟨_, _, Try.func97, cfn_grain_New_1, by decide +kernel⟩
  · obtain rfl := Option.some.inj h; exact ⟨_, _, Try.func98, cfn_grain_Source_turn, by decide +kernel⟩
  · obtain rfl := Option.some.inj h; exact ⟨_, _, Try.func99, cfn_grain_Source_Bit, by decide +kernel⟩
  · obtain rfl := Option.some.inj h; exact ⟨_, _, Try.func100, cfn_field_FromBytes, by decide +kernel⟩
  · obtain rfl := Option.some.inj h; exact ⟨_, _, Try.func101, cfn_avouchref01zShift, by decide +kernel⟩
  · obtain rfl := Option.some.inj h; exact ⟨_, _, Try.func102, cfn_avouchref01zAdd, by decide +kernel⟩
  · obtain rfl := Option.some.inj h; exact ⟨_, _, Try.func103, cfn_avouchref01zMul, by decide +kernel⟩
  · obtain rfl := Option.some.inj h; exact ⟨_, _, Try.func104, cfn_limb_Modulus_less, by decide +kernel⟩
  · obtain rfl := Option.some.inj h; exact ⟨_, _, Try.func105, cfn_field_inverse, by decide +kernel⟩
  · obtain rfl := Option.some.inj h; exact ⟨_, _, Try.func106, cfn_field_line, by decide +kernel⟩
  · obtain rfl := Option.some.inj h; exact ⟨_, _, Try.func108, cfn_avouchref01zBits, by decide +kernel⟩
  · obtain rfl := Option.some.inj h; exact ⟨_, _, Try.func109, cfn_avouchref02zMul, by decide +kernel⟩
  · obtain rfl := Option.some.inj h; exact ⟨_, _, Try.func110, cfn_avouchref01zBit, by decide +kernel⟩
  · obtain rfl := Option.some.inj h; exact ⟨_, _, Try.func115, cfn_limb_Cmp, by decide +kernel⟩
  · obtain rfl := Option.some.inj h; exact ⟨_, _, Try.func116, cfn_limb_Sub, by decide +kernel⟩
  · obtain rfl := Option.some.inj h; exact ⟨_, _, Try.func117, cfn_math_bits_Mul64, by decide +kernel⟩
  · obtain rfl := Option.some.inj h; exact ⟨_, _, Try.func118, cfn_avouchref02zrowOf, by decide +kernel⟩
  · obtain rfl := Option.some.inj h; exact ⟨_, _, Try.func119, cfn_avouchref02zmore, by decide +kernel⟩
  · obtain rfl := Option.some.inj h; exact ⟨_, _, Try.func120, cfn_avouchref02zreaches, by decide +kernel⟩
  · obtain rfl := Option.some.inj h; exact ⟨_, _, Try.func121, cfn_avouchref02zminus, by decide +kernel⟩
  · obtain rfl := Option.some.inj h; exact ⟨_, _, Try.func130, cfn_cmp_Compareuint64, by decide +kernel⟩
  · obtain rfl := Option.some.inj h; exact ⟨_, _, Try.func131, cfn_limb_at, by decide +kernel⟩
  · obtain rfl := Option.some.inj h; exact ⟨_, _, Try.func132, cfn_limb_each, by decide +kernel⟩
  · obtain rfl := Option.some.inj h; exact ⟨_, _, Try.func140, cfn_cmp_isNaNuint64, by decide +kernel⟩
  · simp at h
theorem rows_ok : (methL.all fun r => methRow Try.prog r.1 r.2.1 r.2.2) = true := by kernel_rfl
theorem meth_ok : ∀ t name path f, ctx.meth t name = some (path, f) → path = [] ∧ methRow Try.prog t name f = true := by
  intro t name path f h
  have h1 : (methL.find? fun r => r.1 == t && r.2.1 == name).map (fun r => (([] : List (Nat × Nat × Bool)), r.2.2)) = some (path, f) := h
  obtain ⟨r, hr, he⟩ := Option.map_eq_some_iff.1 h1
  have h2 := List.find?_some hr
  have h3 := List.all_eq_true.1 rows_ok r (List.mem_of_find?_eq_some hr)
  simp only [Bool.and_eq_true, beq_iff_eq] at h2
  simp only [Prod.mk.injEq] at he
  rw [h2.1, h2.2, he.2] at h3
  exact ⟨he.1.symm, h3⟩
theorem once_ok : OnceOk Try.prog 43 := ⟨fun args w => enter_run Try.func43 rfl (by decide +kernel) args w, fun b off fi first cap w Q h0 h1 f0 f1 hf hQ => Go.Proofs.Once.do_first b off fi first cap w Q h0 h1 f0 f1 hf hQ, fun a d hd fv w h0 => Go.Proofs.Once.do_done a d hd fv w h0⟩
theorem ext_ok_88 {L : Lim} {args : List AVal} {h : AHeap} {v : AVal} {h' : AHeap} (hp : addX.pre L args h = some (.inl (v, h'))) : CallOk ctx Try.prog L 88 args h v h' :=
  carX_ok Try.func88 (by kernel_rfl) (by kernel_rfl) (by kernel_rfl) (e := add64Entry) (by kernel_rfl) (fun x y c hc w => run_addE x y c hc w) hp
theorem ext_ok_107 {L : Lim} {args : List AVal} {h : AHeap} {v : AVal} {h' : AHeap} (hp : subX.pre L args h = some (.inl (v, h'))) : CallOk ctx Try.prog L 107 args h v h' :=
  carX_ok Try.func107 (by kernel_rfl) (by kernel_rfl) (by kernel_rfl) (e := subEntry) (by kernel_rfl) (fun x y c hc w => run_subE x y c hc w) hp
theorem ctx_ok : CtxOk ctx Try.prog where
  fns := fns_ok
  extA := by
    intro f g h L args hh v h' hp
    simp only [ctx] at h
    unfold extT at h
    split at h
    · obtain rfl := Option.some.inj h; exact once_inl once_ok hp
    · obtain rfl := Option.some.inj h; exact ext_ok_88 hp
    · obtain rfl := Option.some.inj h; exact ext_ok_107 hp
    · simp at h
  extB := by
    intro f g h L args hh f1 bs h1 hp
    simp only [ctx] at h
    unfold extT at h
    split at h
    · obtain rfl := Option.some.inj h; exact fun v1 h2 v h' hk hq => once_inr once_ok hp hk hq
    · obtain rfl := Option.some.inj h; exact absurd hp carX_inr
    · obtain rfl := Option.some.inj h; exact absurd hp carX_inr
    · simp at h
  meth := by
    intro t name path f h s v cv r w hrep hm
    obtain ⟨rfl, hrow⟩ := meth_ok t name path f h
    obtain rfl : v = r := Option.some.inj hm
    exact ⟨cv, meth_row hrow _ cv w, hrep⟩
end Go.Av
