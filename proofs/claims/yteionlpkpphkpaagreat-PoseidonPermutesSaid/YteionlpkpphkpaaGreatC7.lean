/- The machine's code is the program's. -/
import Derived.Test.YteionlpkpphkpaaGreatC0
import Derived.Test.YteionlpkpphkpaaGreatChecked
import Derived.KernelRfl
import Derived.Test.YteionlpkpphkpaaGreatC1
namespace Go.Av
open Go.Proofs
set_option maxRecDepth 100000
theorem cfn_avouchlaw10zPoseidonPermutes : cfn ctx Tryz.prog ⟨fun _ _ => true⟩ Tryz.f3 = some F_avouchlaw10zPoseidonPermutes := by kernel_rfl
theorem cfn_avouchlaw10zspeaks : cfn ctx Tryz.prog ⟨fun _ _ => true⟩ Tryz.f6 = some F_avouchlaw10zspeaks := by kernel_rfl
theorem cfn_avouchlaw10zfew : cfn ctx Tryz.prog ⟨fun _ _ => true⟩ Tryz.f7 = some F_avouchlaw10zfew := by kernel_rfl
theorem cfn_poseidon_New : cfn ctx Tryz.prog ⟨fun r o => !([(1, 1)] : List (Nat × Nat)).contains (r, o)⟩ Tryz.f8 = some F_poseidon_New := by kernel_rfl
theorem cfn_avouchref10zNew : cfn ctx Tryz.prog ⟨fun _ _ => true⟩ Tryz.f9 = some F_avouchref10zNew := by kernel_rfl
theorem cfn_avouchlaw10zOf : cfn ctx Tryz.prog ⟨fun _ _ => true⟩ Tryz.f10 = some F_avouchlaw10zOf := by kernel_rfl
theorem cfn_avouchlaw10zis : cfn ctx Tryz.prog ⟨fun _ _ => true⟩ Tryz.f11 = some F_avouchlaw10zis := by kernel_rfl
theorem cfn_poseidon_Permutation_Round : cfn ctx Tryz.prog ⟨fun r o => !([(0, 0)] : List (Nat × Nat)).contains (r, o)⟩ Tryz.f12 = some F_poseidon_Permutation_Round := by kernel_rfl
theorem cfn_avouchref10zRound : cfn ctx Tryz.prog ⟨fun _ _ => true⟩ Tryz.f13 = some F_avouchref10zRound := by kernel_rfl
theorem cfn_poseidon_Permutation_Permute : cfn ctx Tryz.prog ⟨fun r o => !([(0, 0)] : List (Nat × Nat)).contains (r, o)⟩ Tryz.f14 = some F_poseidon_Permutation_Permute := by kernel_rfl
theorem cfn_avouchref10zPermute : cfn ctx Tryz.prog ⟨fun _ _ => true⟩ Tryz.f15 = some F_avouchref10zPermute := by kernel_rfl
theorem cfn_field_Element_IsZero : cfn ctx Tryz.prog ⟨fun _ _ => true⟩ Tryz.f42 = some F_field_Element_IsZero := by kernel_rfl
theorem cfn_poseidon_Power : cfn ctx Tryz.prog ⟨fun _ _ => true⟩ Tryz.f43 = some F_poseidon_Power := by kernel_rfl
theorem cfn_field_FromUint64 : cfn ctx Tryz.prog ⟨fun _ _ => true⟩ Tryz.f44 = some F_field_FromUint64 := by kernel_rfl
theorem cfn_field_Element_Equal : cfn ctx Tryz.prog ⟨fun _ _ => true⟩ Tryz.f45 = some F_field_Element_Equal := by kernel_rfl
theorem cfn_avouchref08zNew : cfn ctx Tryz.prog ⟨fun _ _ => true⟩ Tryz.f46 = some F_avouchref08zNew := by kernel_rfl
theorem cfn_avouchref09zCauchy : cfn ctx Tryz.prog ⟨fun _ _ => true⟩ Tryz.f47 = some F_avouchref09zCauchy := by kernel_rfl
theorem cfn_avouchref08zElement : cfn ctx Tryz.prog ⟨fun r o => !([(0, 0)] : List (Nat × Nat)).contains (r, o)⟩ Tryz.f48 = some F_avouchref08zElement := by kernel_rfl
theorem cfn_field_FromWide : cfn ctx Tryz.prog ⟨fun _ _ => true⟩ Tryz.f49 = some F_field_FromWide := by kernel_rfl
theorem cfn_avouchref02zMod : cfn ctx Tryz.prog ⟨fun _ _ => true⟩ Tryz.f50 = some F_avouchref02zMod := by kernel_rfl
theorem cfn_avouchref01zOfBytes : cfn ctx Tryz.prog ⟨fun _ _ => true⟩ Tryz.f51 = some F_avouchref01zOfBytes := by kernel_rfl
theorem cfn_avouchlaw02zIs : cfn ctx Tryz.prog ⟨fun _ _ => true⟩ Tryz.f52 = some F_avouchlaw02zIs := by kernel_rfl
theorem cfn_poseidon_Permutation_Constants : cfn ctx Tryz.prog ⟨fun _ _ => true⟩ Tryz.f53 = some F_poseidon_Permutation_Constants := by kernel_rfl
theorem cfn_field_Element_Add : cfn ctx Tryz.prog ⟨fun _ _ => true⟩ Tryz.f54 = some F_field_Element_Add := by kernel_rfl
theorem cfn_matrix_Matrix_Apply : cfn ctx Tryz.prog ⟨fun _ _ => true⟩ Tryz.f55 = some F_matrix_Matrix_Apply := by kernel_rfl
theorem cfn_avouchref02zAdd : cfn ctx Tryz.prog ⟨fun _ _ => true⟩ Tryz.f56 = some F_avouchref02zAdd := by kernel_rfl
theorem cfn_avouchref10zConstant : cfn ctx Tryz.prog ⟨fun _ _ => true⟩ Tryz.f57 = some F_avouchref10zConstant := by kernel_rfl
theorem cfn_avouchref10zPower : cfn ctx Tryz.prog ⟨fun _ _ => true⟩ Tryz.f58 = some F_avouchref10zPower := by kernel_rfl
theorem cfn_avouchref09zApply : cfn ctx Tryz.prog ⟨fun _ _ => true⟩ Tryz.f59 = some F_avouchref09zApply := by kernel_rfl
theorem cfn_avouchref01zTrim : cfn ctx Tryz.prog ⟨fun _ _ => true⟩ Tryz.f63 = some F_avouchref01zTrim := by kernel_rfl
theorem cfn_field_Element_Square : cfn ctx Tryz.prog ⟨fun _ _ => true⟩ Tryz.f68 = some F_field_Element_Square := by kernel_rfl
theorem cfn_field_Element_Mul : cfn ctx Tryz.prog ⟨fun _ _ => true⟩ Tryz.f69 = some F_field_Element_Mul := by kernel_rfl
theorem cfn_field_enter : cfn ctx Tryz.prog ⟨fun _ _ => true⟩ Tryz.f70 = some F_field_enter := by kernel_rfl
theorem cfn_avouchref08zin : cfn ctx Tryz.prog ⟨fun _ _ => true⟩ Tryz.f71 = some F_avouchref08zin := by kernel_rfl
theorem cfn_avouchref08zlay : cfn ctx Tryz.prog ⟨fun _ _ => true⟩ Tryz.f72 = some F_avouchref08zlay := by kernel_rfl
theorem cfn_avouchref08zTurn : cfn ctx Tryz.prog ⟨fun r o => !([(0, 0)] : List (Nat × Nat)).contains (r, o)⟩ Tryz.f73 = some F_avouchref08zTurn := by kernel_rfl
theorem cfn_avouchref02zInverse : cfn ctx Tryz.prog ⟨fun _ _ => true⟩ Tryz.f74 = some F_avouchref02zInverse := by kernel_rfl
theorem cfn_avouchref08zBit : cfn ctx Tryz.prog ⟨fun r o => !([(0, 0)] : List (Nat × Nat)).contains (r, o)⟩ Tryz.f75 = some F_avouchref08zBit := by kernel_rfl
theorem cfn_avouchref01zCmp : cfn ctx Tryz.prog ⟨fun _ _ => true⟩ Tryz.f76 = some F_avouchref01zCmp := by kernel_rfl
theorem cfn_avouchref02zP : cfn ctx Tryz.prog ⟨fun _ _ => true⟩ Tryz.f77 = some F_avouchref02zP := by kernel_rfl
theorem cfn_field_prime : cfn ctx Tryz.prog ⟨fun _ _ => true⟩ Tryz.f78 = some F_field_prime := by kernel_rfl
theorem cfn_limb_New : cfn ctx Tryz.prog ⟨fun r o => !([(3, 3)] : List (Nat × Nat)).contains (r, o)⟩ Tryz.f79 = some F_limb_New := by kernel_rfl
theorem cfn_limb_Modulus_Reduce : cfn ctx Tryz.prog ⟨fun _ _ => true⟩ Tryz.f80 = some F_limb_Modulus_Reduce := by kernel_rfl
theorem cfn_limb_Words : cfn ctx Tryz.prog ⟨fun _ _ => true⟩ Tryz.f81 = some F_limb_Words := by kernel_rfl
theorem cfn_avouchref01zMod : cfn ctx Tryz.prog ⟨fun _ _ => true⟩ Tryz.f82 = some F_avouchref01zMod := by kernel_rfl
theorem cfn_field_Element_Bytes : cfn ctx Tryz.prog ⟨fun _ _ => true⟩ Tryz.f83 = some F_field_Element_Bytes := by kernel_rfl
theorem cfn_avouchref02zBytes : cfn ctx Tryz.prog ⟨fun _ _ => true⟩ Tryz.f84 = some F_avouchref02zBytes := by kernel_rfl
theorem cfn_poseidon_Permutation_fill : cfn ctx Tryz.prog ⟨fun _ _ => true⟩ Tryz.f86 = some F_poseidon_Permutation_fill := by kernel_rfl
theorem cfn_field_below : cfn ctx Tryz.prog ⟨fun _ _ => true⟩ Tryz.f87 = some F_field_below := by kernel_rfl
theorem cfn_field_plus : cfn ctx Tryz.prog ⟨fun _ _ => true⟩ Tryz.f88 = some F_field_plus := by kernel_rfl
theorem cfn_matrix_Vector_dot : cfn ctx Tryz.prog ⟨fun _ _ => true⟩ Tryz.f89 = some F_matrix_Vector_dot := by kernel_rfl
theorem cfn_avouchref01zAdd : cfn ctx Tryz.prog ⟨fun _ _ => true⟩ Tryz.f90 = some F_avouchref01zAdd := by kernel_rfl
theorem cfn_avouchref01zSub : cfn ctx Tryz.prog ⟨fun _ _ => true⟩ Tryz.f91 = some F_avouchref01zSub := by kernel_rfl
theorem cfn_avouchref02zMul : cfn ctx Tryz.prog ⟨fun _ _ => true⟩ Tryz.f92 = some F_avouchref02zMul := by kernel_rfl
theorem cfn_field_product : cfn ctx Tryz.prog ⟨fun _ _ => true⟩ Tryz.f97 = some F_field_product := by kernel_rfl
theorem cfn_avouchref02zExp : cfn ctx Tryz.prog ⟨fun _ _ => true⟩ Tryz.f98 = some F_avouchref02zExp := by kernel_rfl
theorem cfn_avouchref01zget : cfn ctx Tryz.prog ⟨fun _ _ => true⟩ Tryz.f99 = some F_avouchref01zget := by kernel_rfl
theorem cfn_slices_Cloneuint64zuint64 : cfn ctx Tryz.prog ⟨fun _ _ => true⟩ Tryz.f100 = some F_slices_Cloneuint64zuint64 := by kernel_rfl
theorem cfn_limb_Modulus_twice : cfn ctx Tryz.prog ⟨fun _ _ => true⟩ Tryz.f101 = some F_limb_Modulus_twice := by kernel_rfl
theorem cfn_limb_Bits : cfn ctx Tryz.prog ⟨fun _ _ => true⟩ Tryz.f102 = some F_limb_Bits := by kernel_rfl
theorem cfn_avouchref01zShift : cfn ctx Tryz.prog ⟨fun _ _ => true⟩ Tryz.f103 = some F_avouchref01zShift := by kernel_rfl
theorem cfn_avouchref01zMul : cfn ctx Tryz.prog ⟨fun _ _ => true⟩ Tryz.f104 = some F_avouchref01zMul := by kernel_rfl
theorem cfn_field_Element_leave : cfn ctx Tryz.prog ⟨fun _ _ => true⟩ Tryz.f105 = some F_field_Element_leave := by kernel_rfl
theorem cfn_limb_Bytes : cfn ctx Tryz.prog ⟨fun _ _ => true⟩ Tryz.f106 = some F_limb_Bytes := by kernel_rfl
theorem cfn_avouchref01zBytes : cfn ctx Tryz.prog ⟨fun _ _ => true⟩ Tryz.f107 = some F_avouchref01zBytes := by kernel_rfl
theorem cfn_avouchref01zWords : cfn ctx Tryz.prog ⟨fun _ _ => true⟩ Tryz.f108 = some F_avouchref01zWords := by kernel_rfl
theorem cfn_matrix_Cauchy : cfn ctx Tryz.prog ⟨fun _ _ => true⟩ Tryz.f111 = some F_matrix_Cauchy := by kernel_rfl
theorem cfn_grain_New : cfn ctx Tryz.prog ⟨fun r o => !([(3, 1)] : List (Nat × Nat)).contains (r, o)⟩ Tryz.f112 = some F_grain_New := by kernel_rfl
theorem cfn_grain_Source_Element : cfn ctx Tryz.prog ⟨fun _ _ => true⟩ Tryz.f113 = some F_grain_Source_Element := by kernel_rfl
theorem cfn_field_borrow : cfn ctx Tryz.prog ⟨fun _ _ => true⟩ Tryz.f114 = some F_field_borrow := by kernel_rfl
theorem cfn_field_Sum : cfn ctx Tryz.prog ⟨fun _ _ => true⟩ Tryz.f116 = some F_field_Sum := by kernel_rfl
theorem cfn_avouchref02zrowOf : cfn ctx Tryz.prog ⟨fun _ _ => true⟩ Tryz.f117 = some F_avouchref02zrowOf := by kernel_rfl
theorem cfn_avouchref02zmore : cfn ctx Tryz.prog ⟨fun r o => !([(0, 0)] : List (Nat × Nat)).contains (r, o)⟩ Tryz.f118 = some F_avouchref02zmore := by kernel_rfl
theorem cfn_avouchref02zreaches : cfn ctx Tryz.prog ⟨fun _ _ => true⟩ Tryz.f119 = some F_avouchref02zreaches := by kernel_rfl
theorem cfn_avouchref02zminus : cfn ctx Tryz.prog ⟨fun r o => !([(0, 0)] : List (Nat × Nat)).contains (r, o)⟩ Tryz.f120 = some F_avouchref02zminus := by kernel_rfl
theorem cfn_field_inverse : cfn ctx Tryz.prog ⟨fun _ _ => true⟩ Tryz.f124 = some F_field_inverse := by kernel_rfl
theorem cfn_field_line : cfn ctx Tryz.prog ⟨fun _ _ => true⟩ Tryz.f125 = some F_field_line := by kernel_rfl
theorem cfn_avouchref01zBits : cfn ctx Tryz.prog ⟨fun _ _ => true⟩ Tryz.f126 = some F_avouchref01zBits := by kernel_rfl
theorem cfn_avouchref01zBit : cfn ctx Tryz.prog ⟨fun _ _ => true⟩ Tryz.f127 = some F_avouchref01zBit := by kernel_rfl
theorem cfn_limb_Modulus_less : cfn ctx Tryz.prog ⟨fun _ _ => true⟩ Tryz.f128 = some F_limb_Modulus_less := by kernel_rfl
theorem cfn_math_bits_Len64 : cfn ctx Tryz.prog ⟨fun _ _ => true⟩ Tryz.f129 = some F_math_bits_Len64 := by kernel_rfl
theorem cfn_matrix_build : cfn ctx Tryz.prog ⟨fun _ _ => true⟩ Tryz.f134 = some F_matrix_build := by kernel_rfl
theorem cfn_matrix_Cauchy_1 : cfn ctx Tryz.prog ⟨fun _ _ => true⟩ Tryz.f135 = some F_matrix_Cauchy_1 := by kernel_rfl
theorem cfn_field_Element_Inverse : cfn ctx Tryz.prog ⟨fun _ _ => true⟩ Tryz.f136 = some F_field_Element_Inverse := by kernel_rfl
theorem cfn_grain_New_1 : cfn ctx Tryz.prog ⟨fun _ _ => true⟩ Tryz.f137 = some F_grain_New_1 := by kernel_rfl
theorem cfn_grain_Source_turn : cfn ctx Tryz.prog ⟨fun _ _ => true⟩ Tryz.f138 = some F_grain_Source_turn := by kernel_rfl
theorem cfn_grain_Source_Bit : cfn ctx Tryz.prog ⟨fun _ _ => true⟩ Tryz.f139 = some F_grain_Source_Bit := by kernel_rfl
theorem cfn_field_FromBytes : cfn ctx Tryz.prog ⟨fun _ _ => true⟩ Tryz.f140 = some F_field_FromBytes := by kernel_rfl
theorem cfn_math_bits_Mul64 : cfn ctx Tryz.prog ⟨fun _ _ => true⟩ Tryz.f147 = some F_math_bits_Mul64 := by kernel_rfl
theorem cfn_limb_Cmp : cfn ctx Tryz.prog ⟨fun _ _ => true⟩ Tryz.f148 = some F_limb_Cmp := by kernel_rfl
theorem cfn_limb_Sub : cfn ctx Tryz.prog ⟨fun _ _ => true⟩ Tryz.f149 = some F_limb_Sub := by kernel_rfl
theorem cfn_field_Element_Exp : cfn ctx Tryz.prog ⟨fun _ _ => true⟩ Tryz.f154 = some F_field_Element_Exp := by kernel_rfl
theorem cfn_cmp_Compareuint64 : cfn ctx Tryz.prog ⟨fun _ _ => true⟩ Tryz.f156 = some F_cmp_Compareuint64 := by kernel_rfl
theorem cfn_limb_at : cfn ctx Tryz.prog ⟨fun _ _ => true⟩ Tryz.f157 = some F_limb_at := by kernel_rfl
theorem cfn_limb_each : cfn ctx Tryz.prog ⟨fun _ _ => true⟩ Tryz.f158 = some F_limb_each := by kernel_rfl
theorem cfn_cmp_isNaNuint64 : cfn ctx Tryz.prog ⟨fun _ _ => true⟩ Tryz.f167 = some F_cmp_isNaNuint64 := by kernel_rfl
theorem fns_ok : ∀ f F, ctx.fns f = some F → ∃ fn fl, Tryz.prog.funcs[f]? = some fn ∧ cfn ctx Tryz.prog fl fn = some F ∧ fn.name ≠ "runtime.NumGoroutine" := by
  intro f F h
  simp only [ctx] at h
  unfold fnsT at h
  split at h
  · obtain rfl := Option.some.inj h; exact ⟨_, _, Tryz.func3, cfn_avouchlaw10zPoseidonPermutes, by decide +kernel⟩
  · obtain rfl := Option.some.inj h; exact ⟨_, _, Tryz.func6, cfn_avouchlaw10zspeaks, by decide +kernel⟩
  · obtain rfl := Option.some.inj h; exact ⟨_, _, Tryz.func7, cfn_avouchlaw10zfew, by decide +kernel⟩
  · obtain rfl := Option.some.inj h; exact ⟨_, _, Tryz.func8, cfn_poseidon_New, by decide +kernel⟩
  · obtain rfl := Option.some.inj h; exact ⟨_, _, Tryz.func9, cfn_avouchref10zNew, by decide +kernel⟩
  · obtain rfl := Option.some.inj h; exact ⟨_, _, Tryz.func10, cfn_avouchlaw10zOf, by decide +kernel⟩
  · obtain rfl := Option.some.inj h; exact ⟨_, _, Tryz.func11, cfn_avouchlaw10zis, by decide +kernel⟩
  · obtain rfl := Option.some.inj h; exact ⟨_, _, Tryz.func12, cfn_poseidon_Permutation_Round, by decide +kernel⟩
  · obtain rfl := Option.some.inj h; exact ⟨_, _, Tryz.func13, cfn_avouchref10zRound, by decide +kernel⟩
  · obtain rfl := Option.some.inj h; exact ⟨_, _, Tryz.func14, cfn_poseidon_Permutation_Permute, by decide +kernel⟩
  · obtain rfl := Option.some.inj h; exact ⟨_, _, Tryz.func15, cfn_avouchref10zPermute, by decide +kernel⟩
  · obtain rfl := Option.some.inj h; exact ⟨_, _, Tryz.func42, cfn_field_Element_IsZero, by decide +kernel⟩
  · obtain rfl := Option.some.inj h; exact ⟨_, _, Tryz.func43, cfn_poseidon_Power, by decide +kernel⟩
  · obtain rfl := Option.some.inj h; exact ⟨_, _, Tryz.func44, cfn_field_FromUint64, by decide +kernel⟩
  · obtain rfl := Option.some.inj h; exact ⟨_, _, Tryz.func45, cfn_field_Element_Equal, by decide +kernel⟩
  · obtain rfl := Option.some.inj h; exact ⟨_, _, Tryz.func46, cfn_avouchref08zNew, by decide +kernel⟩
  · obtain rfl := Option.some.inj h; exact ⟨_, _, Tryz.func47, cfn_avouchref09zCauchy, by decide +kernel⟩
  · obtain rfl := Option.some.inj h; exact ⟨_, _, Tryz.func48, cfn_avouchref08zElement, by decide +kernel⟩
  · obtain rfl := Option.some.inj h; exact ⟨_, _, Tryz.func49, cfn_field_FromWide, by decide +kernel⟩
  · obtain rfl := Option.some.inj h; exact ⟨_, _, Tryz.func50, cfn_avouchref02zMod, by decide +kernel⟩
  · obtain rfl := Option.some.inj h; exact ⟨_, _, Tryz.func51, cfn_avouchref01zOfBytes, by decide +kernel⟩
  · obtain rfl := Option.some.inj h; exact ⟨_, _, Tryz.func52, cfn_avouchlaw02zIs, by decide +kernel⟩
  · obtain rfl := Option.some.inj h; exact ⟨_, _, Tryz.func53, cfn_poseidon_Permutation_Constants, by decide +kernel⟩
  · obtain rfl := Option.some.inj h; exact ⟨_, _, Tryz.func54, cfn_field_Element_Add, by decide +kernel⟩
  · obtain rfl := Option.some.inj h; exact ⟨_, _, Tryz.func55, cfn_matrix_Matrix_Apply, by decide +kernel⟩
  · obtain rfl := Option.some.inj h; exact ⟨_, _, Tryz.func56, cfn_avouchref02zAdd, by decide +kernel⟩
  · obtain rfl := Option.some.inj h; exact ⟨_, _, Tryz.func57, cfn_avouchref10zConstant, by decide +kernel⟩
  · obtain rfl := Option.some.inj h; exact ⟨_, _, Tryz.func58, cfn_avouchref10zPower, by decide +kernel⟩
  · obtain rfl := Option.some.inj h; exact ⟨_, _, Tryz.func59, cfn_avouchref09zApply, by decide +kernel⟩
  · obtain rfl := Option.some.inj h; exact ⟨_, _, Tryz.func63, cfn_avouchref01zTrim, by decide +kernel⟩
  · obtain rfl := Option.some.inj h; exact ⟨_, _, Tryz.func68, cfn_field_Element_Square, by decide +kernel⟩
  · obtain rfl := Option.some.inj h; exact ⟨_, _, Tryz.func69, cfn_field_Element_Mul, by decide +kernel⟩
  · obtain rfl := Option.some.inj h; exact ⟨_, _, Tryz.func70, cfn_field_enter, by decide +kernel⟩
  · obtain rfl := Option.some.inj h; exact ⟨_, _, Tryz.func71, cfn_avouchref08zin, by decide +kernel⟩
  · obtain rfl := Option.some.inj h; exact ⟨_, _, Tryz.func72, cfn_avouchref08zlay, by decide +kernel⟩
  · obtain rfl := Option.some.inj h; exact ⟨_, _, Tryz.func73, cfn_avouchref08zTurn, by decide +kernel⟩
  · obtain rfl := Option.some.inj h; exact ⟨_, _, Tryz.func74, cfn_avouchref02zInverse, by decide +kernel⟩
  · obtain rfl := Option.some.inj h; exact ⟨_, _, Tryz.func75, cfn_avouchref08zBit, by decide +kernel⟩
  · obtain rfl := Option.some.inj h; exact ⟨_, _, Tryz.func76, cfn_avouchref01zCmp, by decide +kernel⟩
  · obtain rfl := Option.some.inj h; exact ⟨_, _, Tryz.func77, cfn_avouchref02zP, by decide +kernel⟩
  · obtain rfl := Option.some.inj h; exact ⟨_, _, Tryz.func78, cfn_field_prime, by decide +kernel⟩
  · obtain rfl := Option.some.inj h; exact ⟨_, _, Tryz.func79, cfn_limb_New, by decide +kernel⟩
  · obtain rfl := Option.some.inj h; exact ⟨_, _, Tryz.func80, cfn_limb_Modulus_Reduce, by decide +kernel⟩
  · obtain rfl := Option.some.inj h; exact ⟨_, _, Tryz.func81, cfn_limb_Words, by decide +kernel⟩
  · obtain rfl := Option.some.inj h; exact ⟨_, _, Tryz.func82, cfn_avouchref01zMod, by decide +kernel⟩
  · obtain rfl := Option.some.inj h; exact ⟨_, _, Tryz.func83, cfn_field_Element_Bytes, by decide +kernel⟩
  · obtain rfl := Option.some.inj h; exact ⟨_, _, Tryz.func84, cfn_avouchref02zBytes, by decide +kernel⟩
  · obtain rfl := Option.some.inj h; exact ⟨_, _, Tryz.func86, cfn_poseidon_Permutation_fill, by decide +kernel⟩
  · obtain rfl := Option.some.inj h; exact ⟨_, _, Tryz.func87, cfn_field_below, by decide +kernel⟩
  · obtain rfl := Option.some.inj h; exact ⟨_, _, Tryz.func88, cfn_field_plus, by decide +kernel⟩
  · obtain rfl := Option.some.inj h; exact ⟨_, _, Tryz.func89, cfn_matrix_Vector_dot, by decide +kernel⟩
  · obtain rfl := Option.some.inj h; exact ⟨_, _, Tryz.func90, cfn_avouchref01zAdd, by decide +kernel⟩
  · obtain rfl := Option.some.inj h; exact ⟨_, _, Tryz.func91, cfn_avouchref01zSub, by decide +kernel⟩
  · obtain rfl := Option.some.inj h; exact ⟨_, _, Tryz.func92, cfn_avouchref02zMul, by decide +kernel⟩
  · obtain rfl := Option.some.inj h; exact ⟨_, _, Tryz.func97, cfn_field_product, by decide +kernel⟩
  · obtain rfl := Option.some.inj h; exact ⟨_, _, Tryz.func98, cfn_avouchref02zExp, by decide +kernel⟩
  · obtain rfl := Option.some.inj h; exact ⟨_, _, Tryz.func99, cfn_avouchref01zget, by decide +kernel⟩
  · obtain rfl := Option.some.inj h; exact ⟨_, _, Tryz.func100, cfn_slices_Cloneuint64zuint64, by decide +kernel⟩
  · obtain rfl := Option.some.inj h; exact ⟨_, _, Tryz.func101, cfn_limb_Modulus_twice, by decide +kernel⟩
  · obtain rfl := Option.some.inj h; exact ⟨_, _, Tryz.func102, cfn_limb_Bits, by decide +kernel⟩
  · obtain rfl := Option.some.inj h; exact ⟨_, _, Tryz.func103, cfn_avouchref01zShift, by decide +kernel⟩
  · obtain rfl := Option.some.inj h; exact ⟨_, _, Tryz.func104, cfn_avouchref01zMul, by decide +kernel⟩
  · obtain rfl := Option.some.inj h; exact ⟨_, _, Tryz.func105, cfn_field_Element_leave, by decide +kernel⟩
  · obtain rfl := Option.some.inj h; exact ⟨_, _, Tryz.func106, cfn_limb_Bytes, by decide +kernel⟩
  · obtain rfl := Option.some.inj h; exact ⟨_, _, Tryz.func107, cfn_avouchref01zBytes, by decide +kernel⟩
  · obtain rfl := Option.some.inj h; exact ⟨_, _, Tryz.func108, cfn_avouchref01zWords, by decide +kernel⟩
  · obtain rfl := Option.some.inj h; exact ⟨_, _, Tryz.func111, cfn_matrix_Cauchy, by decide +kernel⟩
  · obtain rfl := Option.some.inj h; exact ⟨_, _, Tryz.func112, cfn_grain_New, by decide +kernel⟩
  · obtain rfl := Option.some.inj h; exact ⟨_, _, Tryz.func113, cfn_grain_Source_Element, by decide +kernel⟩
  · obtain rfl := Option.some.inj h; exact ⟨_, _, Tryz.func114, cfn_field_borrow, by decide +kernel⟩
  · obtain rfl := Option.some.inj h; exact ⟨_, _, Tryz.func116, cfn_field_Sum, by decide +kernel⟩
  · obtain rfl := Option.some.inj h; exact ⟨_, _, Tryz.func117, cfn_avouchref02zrowOf, by decide +kernel⟩
  · obtain rfl := Option.some.inj h; exact ⟨_, _, Tryz.func118, cfn_avouchref02zmore, by decide +kernel⟩
  · obtain rfl := Option.some.inj h; exact ⟨_, _, Tryz.func119, cfn_avouchref02zreaches, by decide +kernel⟩
  · obtain rfl := Option.some.inj h; exact ⟨_, _, Tryz.func120, cfn_avouchref02zminus, by decide +kernel⟩
  · obtain rfl := Option.some.inj h; exact ⟨_, _, Tryz.func124, cfn_field_inverse, by decide +kernel⟩
  · obtain rfl := Option.some.inj h; exact ⟨_, _, Tryz.func125, cfn_field_line, by decide +kernel⟩
  · obtain rfl := Option.some.inj h; exact ⟨_, _, Tryz.func126, cfn_avouchref01zBits, by decide +kernel⟩
  · obtain rfl := Option.some.inj h; exact ⟨_, _, Tryz.func127, cfn_avouchref01zBit, by decide +kernel⟩
  · obtain rfl := Option.some.inj h; exact ⟨_, _, Tryz.func128, cfn_limb_Modulus_less, by decide +kernel⟩
  · obtain rfl := Option.some.inj h; exact ⟨_, _, Tryz.func129, cfn_math_bits_Len64, by decide +kernel⟩
  · obtain rfl := Option.some.inj h; exact ⟨_, _, Tryz.func134, cfn_matrix_build, by decide +kernel⟩
  · obtain rfl := Option.some.inj h; exact ⟨_, _, Tryz.func135, cfn_matrix_Cauchy_1, by decide +kernel⟩
  · obtain rfl := Option.some.inj h; exact ⟨_, _, Tryz.func136, cfn_field_Element_Inverse, by decide +kernel⟩
  · obtain rfl := Option.some.inj h; exact ⟨_, _, Tryz.func137, cfn_grain_New_1, by decide +kernel⟩
  · obtain rfl := Option.some.inj h; exact ⟨_, _, Tryz.func138, cfn_grain_Source_turn, by decide +kernel⟩
  · obtain rfl := Option.some.inj h; exact ⟨_, _, Tryz.func139, cfn_grain_Source_Bit, by decide +kernel⟩
  · obtain rfl := Option.some.inj h; exact ⟨_, _, Tryz.func140, cfn_field_FromBytes, by decide +kernel⟩
  · obtain rfl := Option.some.inj h; exact ⟨_, _, Tryz.func147, cfn_math_bits_Mul64, by decide +kernel⟩
  · obtain rfl := Option.some.inj h; exact ⟨_, _, Tryz.func148, cfn_limb_Cmp, by decide +kernel⟩
  · obtain rfl := Option.some.inj h; exact ⟨_, _, Tryz.func149, cfn_limb_Sub, by decide +kernel⟩
  · obtain rfl := Option.some.inj h; exact ⟨_, _, Tryz.func154, cfn_field_Element_Exp, by decide +kernel⟩
  · obtain rfl := Option.some.inj h; exact ⟨_, _, Tryz.func156, cfn_cmp_Compareuint64, by decide +kernel⟩
  · obtain rfl := Option.some.inj h; exact ⟨_, _, Tryz.func157, cfn_limb_at, by decide +kernel⟩
  · obtain rfl := Option.some.inj h; exact ⟨_, _, Tryz.func158, cfn_limb_each, by decide +kernel⟩
  · obtain rfl := Option.some.inj h; exact ⟨_, _, Tryz.func167, cfn_cmp_isNaNuint64, by decide +kernel⟩
  · simp at h
theorem rows_ok : (methL.all fun r => methRow Tryz.prog r.1 r.2.1 r.2.2) = true := by kernel_rfl
theorem meth_ok : ∀ t name path f, ctx.meth t name = some (path, f) → path = [] ∧ methRow Tryz.prog t name f = true := by
  intro t name path f h
  have h1 : (methL.find? fun r => r.1 == t && r.2.1 == name).map (fun r => (([] : List (Nat × Nat × Bool)), r.2.2)) = some (path, f) := h
  obtain ⟨r, hr, he⟩ := Option.map_eq_some_iff.1 h1
  have h2 := List.find?_some hr
  have h3 := List.all_eq_true.1 rows_ok r (List.mem_of_find?_eq_some hr)
  simp only [Bool.and_eq_true, beq_iff_eq] at h2
  simp only [Prod.mk.injEq] at he
  rw [h2.1, h2.2, he.2] at h3
  exact ⟨he.1.symm, h3⟩
theorem once_ok : OnceOk Tryz.prog 85 := ⟨fun args w => enter_run Tryz.func85 rfl (by decide +kernel) args w, fun b off fi first cap w Q h0 h1 f0 f1 hf hQ => Go.Proofs.Once.do_first b off fi first cap w Q h0 h1 f0 f1 hf hQ, fun a d hd fv w h0 => Go.Proofs.Once.do_done a d hd fv w h0⟩
theorem ext_ok_115 {L : Lim} {args : List AVal} {h : AHeap} {v : AVal} {h' : AHeap} (hp : addX.pre L args h = some (.inl (v, h'))) : CallOk ctx Tryz.prog L 115 args h v h' :=
  carX_ok Tryz.func115 (by kernel_rfl) (by kernel_rfl) (by kernel_rfl) (e := add64Entry) (by kernel_rfl) (fun x y c hc w => run_addE x y c hc w) hp
theorem ext_ok_141 {L : Lim} {args : List AVal} {h : AHeap} {v : AVal} {h' : AHeap} (hp : subX.pre L args h = some (.inl (v, h'))) : CallOk ctx Tryz.prog L 141 args h v h' :=
  carX_ok Tryz.func141 (by kernel_rfl) (by kernel_rfl) (by kernel_rfl) (e := subEntry) (by kernel_rfl) (fun x y c hc w => run_subE x y c hc w) hp
theorem ctx_ok : CtxOk ctx Tryz.prog where
  fns := fns_ok
  extA := by
    intro f g h L args hh v h' hp
    simp only [ctx] at h
    unfold extT at h
    split at h
    · obtain rfl := Option.some.inj h; exact once_inl once_ok hp
    · obtain rfl := Option.some.inj h; exact ext_ok_115 hp
    · obtain rfl := Option.some.inj h; exact ext_ok_141 hp
    · simp at h
  extB := by
    intro f g h L args hh f1 bs h1 hp
    simp only [ctx] at h
    unfold extT at h
    split at h
    · obtain rfl := Option.some.inj h; exact fun v1 h2 v h' hk hq => once_inr once_ok hp hk hq
    · obtain rfl := Option.some.inj h; exact absurd hp carX_inr
    · obtain rfl := Option.some.inj h; exact absurd hp carX_inr
    · simp at h
  meth := by
    intro t name path f h s v cv r w hrep hm
    obtain ⟨rfl, hrow⟩ := meth_ok t name path f h
    obtain rfl : v = r := Option.some.inj hm
    exact ⟨cv, meth_row hrow _ cv w, hrep⟩
end Go.Av
