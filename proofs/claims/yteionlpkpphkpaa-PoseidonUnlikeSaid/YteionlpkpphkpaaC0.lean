/- The functions of the program as the machine's code, printed by a program of mine. -/
import Derived.Test.YteionlpkpphkpaaV6
namespace Go.Av
set_option maxRecDepth 100000
def i_main_main : FuncId := 0
def i_gosem_cut : FuncId := 1
def i_gosem_cut_init : FuncId := 2
def i_avouchlaw10zPoseidonConstants : FuncId := 3
def i_avouchlaw10zPoseidonUnlike : FuncId := 4
def i_avouchlaw10zPoseidonPower : FuncId := 5
def i_avouchlaw10zPoseidonSteps : FuncId := 6
def i_avouchlaw11zDuplexLays : FuncId := 7
def i_avouchlaw11zDuplexHides : FuncId := 8
def i_avouchlaw11zDuplexPieces : FuncId := 9
def i_avouchlaw10zspeaks : FuncId := 10
def i_poseidon_New : FuncId := 11
def i_avouchref10zNew : FuncId := 12
def i_poseidon_Permutation_Constants : FuncId := 13
def i_avouchlaw02zIs : FuncId := 14
def i_avouchref10zConstant : FuncId := 15
def i_avouchlaw10zfew : FuncId := 16
def i_avouchlaw10zOf : FuncId := 17
def i_field_Element_Equal : FuncId := 18
def i_poseidon_Permutation_Round : FuncId := 19
def i_poseidon_Permutation_Permute : FuncId := 20
def i_field_FromWide : FuncId := 21
def i_poseidon_Power : FuncId := 22
def i_field_Element_Exp : FuncId := 23
def i_field_Element_Add : FuncId := 24
def i_matrix_Cauchy : FuncId := 25
def i_matrix_Matrix_Apply : FuncId := 26
def i_avouchlaw11zspeaks : FuncId := 27
def i_duplex_Newbyte : FuncId := 28
def i_duplex_Keccak : FuncId := 29
def i_duplex_Spongebyte_Absorb : FuncId := 30
def i_duplex_Spongebyte_State : FuncId := 31
def i_duplex_Spongebyte_Calls : FuncId := 32
def i_avouchlaw11zfew : FuncId := 33
def i_avouchlaw11zdo : FuncId := 34
def i_duplex_Spongebyte_Ratchet : FuncId := 35
def i_duplex_Spongebyte_Squeeze : FuncId := 36
def i_duplex_Spongebyte_Clone : FuncId := 37
def i_field_Element_IsZero : FuncId := 38
def i_field_FromUint64 : FuncId := 39
def i_avouchref08zNew : FuncId := 40
def i_avouchref09zCauchy : FuncId := 41
def i_avouchref08zElement : FuncId := 42
def i_sync_Once_Do : FuncId := 43
def i_poseidon_Permutation_fill : FuncId := 44
def i_field_Element_Bytes : FuncId := 45
def i_avouchref02zBytes : FuncId := 46
def i_avouchref02zMod : FuncId := 47
def i_avouchref01zOfBytes : FuncId := 48
def i_field_prime : FuncId := 49
def i_limb_New : FuncId := 50
def i_field_enter : FuncId := 51
def i_limb_Modulus_Reduce : FuncId := 52
def i_limb_Words : FuncId := 53
def i_field_Element_Square : FuncId := 54
def i_field_Element_Mul : FuncId := 55
def i_limb_Bits : FuncId := 56
def i_field_below : FuncId := 57
def i_field_plus : FuncId := 58
def i_matrix_build : FuncId := 59
def i_matrix_Cauchy_1 : FuncId := 60
def i_field_Element_Inverse : FuncId := 61
def i_matrix_Vector_dot : FuncId := 62
def i_duplex_Poseidon : FuncId := 63
def i_duplex_Spongebyte_permute : FuncId := 64
def i_slices_Clonebyte_byte : FuncId := 65
def i_avouchref08zin : FuncId := 66
def i_avouchref08zlay : FuncId := 67
def i_avouchref08zTurn : FuncId := 68
def i_avouchref02zInverse : FuncId := 69
def i_avouchref08zBit : FuncId := 70
def i_avouchref01zCmp : FuncId := 71
def i_avouchref02zP : FuncId := 72
def i_avouchref01zTrim : FuncId := 73
def i_sync_atomic_Bool_Load : FuncId := 74
def i_sync_Once_doSlow : FuncId := 75
def i_grain_New : FuncId := 76
def i_grain_Source_Element : FuncId := 77
def i_field_Element_leave : FuncId := 78
def i_limb_Bytes : FuncId := 79
def i_avouchref01zBytes : FuncId := 80
def i_avouchref01zWords : FuncId := 81
def i_avouchref01zMod : FuncId := 82
def i_slices_Cloneuint64zuint64 : FuncId := 83
def i_limb_Modulus_twice : FuncId := 84
def i_field_product : FuncId := 85
def i_math_bits_Len64 : FuncId := 86
def i_field_borrow : FuncId := 87
def i_math_bits_Add64 : FuncId := 88
def i_field_Sum : FuncId := 89
def i_avouchref02zExp : FuncId := 90
def i_avouchref01zSub : FuncId := 91
def i_avouchref01zget : FuncId := 92
def i_sync_atomic_LoadUint32 : FuncId := 93
def i_sync_Mutex_Lock : FuncId := 94
def i_sync_Mutex_Unlock : FuncId := 95
def i_sync_atomic_Bool_Store : FuncId := 96
def i_grain_New_1 : FuncId := 97
def i_grain_Source_turn : FuncId := 98
def i_grain_Source_Bit : FuncId := 99
def i_field_FromBytes : FuncId := 100
def i_avouchref01zShift : FuncId := 101
def i_avouchref01zAdd : FuncId := 102
def i_avouchref01zMul : FuncId := 103
def i_limb_Modulus_less : FuncId := 104
def i_field_inverse : FuncId := 105
def i_field_line : FuncId := 106
def i_math_bits_Sub64 : FuncId := 107
def i_avouchref01zBits : FuncId := 108
def i_avouchref02zMul : FuncId := 109
def i_avouchref01zBit : FuncId := 110
def i_i_sync_Mutex_Lock : FuncId := 111
def i_i_sync_Mutex_Unlock : FuncId := 112
def i_sync_atomic_StoreUint32 : FuncId := 113
def i_sync_atomic_b32 : FuncId := 114
def i_limb_Cmp : FuncId := 115
def i_limb_Sub : FuncId := 116
def i_math_bits_Mul64 : FuncId := 117
def i_avouchref02zrowOf : FuncId := 118
def i_avouchref02zmore : FuncId := 119
def i_avouchref02zreaches : FuncId := 120
def i_avouchref02zminus : FuncId := 121
def i_i_race_Disable : FuncId := 122
def i_sync_atomic_CompareAndSwapInt32 : FuncId := 123
def i_i_race_Enable : FuncId := 124
def i_i_race_Acquire : FuncId := 125
def i_i_sync_Mutex_lockSlow : FuncId := 126
def i_i_race_ReleaseMerge : FuncId := 127
def i_sync_atomic_AddInt32 : FuncId := 128
def i_i_sync_Mutex_unlockSlow : FuncId := 129
def i_cmp_Compareuint64 : FuncId := 130
def i_limb_at : FuncId := 131
def i_limb_each : FuncId := 132
def i_i_sync_runtime_canSpin : FuncId := 133
def i_i_sync_runtime_doSpin : FuncId := 134
def i_i_sync_throw : FuncId := 135
def i_i_sync_runtime_nanotime : FuncId := 136
def i_i_sync_runtime_SemacquireMutex : FuncId := 137
def i_i_sync_fatal : FuncId := 138
def i_i_sync_runtime_Semrelease : FuncId := 139
def i_cmp_isNaNuint64 : FuncId := 140
def i_runtime_boundsError_Error : FuncId := 141
def i_runtime_boundsError_RuntimeError : FuncId := 142
def i_runtime_errorString_Error : FuncId := 143
def i_runtime_errorString_RuntimeError : FuncId := 144
def i_runtime_plainError_Error : FuncId := 145
def i_runtime_plainError_RuntimeError : FuncId := 146
def i_runtime_errorAddressString_Error : FuncId := 147
def i_runtime_errorAddressString_RuntimeError : FuncId := 148
def i_runtime_TypeAssertionError_Error : FuncId := 149
def i_runtime_TypeAssertionError_RuntimeError : FuncId := 150
def i_runtime_PanicNilError_Error : FuncId := 151
def i_runtime_PanicNilError_RuntimeError : FuncId := 152
def i_i_abi_Type_Align : FuncId := 153
def i_i_runtime_maps_unhashableTypeError_Error : FuncId := 154
def i_i_runtime_maps_unhashableTypeError_RuntimeError : FuncId := 155
def i_matrix_Matrix_Good : FuncId := 156
def i_limb_Modulus_Len : FuncId := 157
def i_duplex_lanes_Permute : FuncId := 158
def i_duplex_lanes_Rate : FuncId := 159
def i_duplex_lanes_Width : FuncId := 160
def i_keccak_OfBytes : FuncId := 161
def i_keccak_State_Permute : FuncId := 162
def i_keccak_State_Bytes : FuncId := 163
def i_keccak_State_Round : FuncId := 164
def i_keccak_State_theta : FuncId := 165
def i_keccak_State_rhoPi : FuncId := 166
def i_keccak_State_chi : FuncId := 167
def i_keccak_Constant : FuncId := 168
def i_math_bits_RotateLeft64 : FuncId := 169
def i_duplex_elements_Permute : FuncId := 170
def i_duplex_elements_Rate : FuncId := 171
def i_duplex_elements_Width : FuncId := 172
def i_i_abi_Kind_String : FuncId := 173
def i_gosem_cut_vars : FuncId := 174
def txt_0 : ByteArray := ⟨#[0, 1, 2, 2, 3, 3, 3, 3, 4, 4, 4, 4, 4, 4, 4, 4, 5, 5, 5, 5, 5, 5, 5, 5, 5, 5, 5, 5, 5, 5, 5, 5, 6, 6, 6, 6, 6, 6, 6, 6, 6, 6, 6, 6, 6, 6, 6, 6, 6, 6, 6, 6, 6, 6, 6, 6, 6, 6, 6, 6, 6, 6, 6, 6, 7, 7, 7, 7, 7, 7, 7, 7, 7, 7, 7, 7, 7, 7, 7, 7, 7, 7, 7, 7, 7, 7, 7, 7, 7, 7, 7, 7, 7, 7, 7, 7, 7, 7, 7, 7, 7, 7, 7, 7, 7, 7, 7, 7, 7, 7, 7, 7, 7, 7, 7, 7, 7, 7, 7, 7, 7, 7, 7, 7, 7, 7, 7, 7, 8, 8, 8, 8, 8, 8, 8, 8, 8, 8, 8, 8, 8, 8, 8, 8, 8, 8, 8, 8, 8, 8, 8, 8, 8, 8, 8, 8, 8, 8, 8, 8, 8, 8, 8, 8, 8, 8, 8, 8, 8, 8, 8, 8, 8, 8, 8, 8, 8, 8, 8, 8, 8, 8, 8, 8, 8, 8, 8, 8, 8, 8, 8, 8, 8, 8, 8, 8, 8, 8, 8, 8, 8, 8, 8, 8, 8, 8, 8, 8, 8, 8, 8, 8, 8, 8, 8, 8, 8, 8, 8, 8, 8, 8, 8, 8, 8, 8, 8, 8, 8, 8, 8, 8, 8, 8, 8, 8, 8, 8, 8, 8, 8, 8, 8, 8, 8, 8, 8, 8, 8, 8, 8, 8, 8, 8, 8, 8]⟩
def C_gosem_cut_init : AC := .reg [ir 0 (.call i_gosem_cut [])]
def F_gosem_cut_init : AFn := ⟨1, C_gosem_cut_init, []⟩
def Ba_avouchlaw10zPoseidonConstants : AC := .seq (.reg [iv 21 (.bin .lss (.t 20) (.k (.int .i64 3)))])
      (.seq (.cond (.t 21)
       (.skip)
       (.exit 2))
      (.seq (.blk 3
       (.seq (.reg [iv 22 (.mv (.t 20)),
         iv 7 (.mv (.t 22))])
       (.seq (.draw [⟨(some 23), .v (.mv (.t 7)), none, [7], 0, 0⟩,
         ⟨(some 24), .v (.iadr (some 3) 4 (.t 6) (.t 23)), none, [6, 23], 0, 0⟩,
         ⟨(some 25), .r (.ld 4 true (.t 24)), none, [24], 0, 0⟩,
         ⟨(some 26), .r (.ld 2 true (.t 4)), none, [4], 0, 0⟩,
         ⟨(some 27), .v (.mv (.t 5)), none, [5], 0, 0⟩,
         ⟨(some 28), .v (.mv (.t 7)), none, [7], 0, 0⟩,
         ⟨(some 29), .r (.call i_avouchref10zConstant [.t 26, .t 27, .t 28]), none, [26, 27, 28], 0, 0⟩,
         ⟨(some 30), .r (.call i_avouchlaw02zIs [.t 25, .t 29]), none, [25, 29], 0, 0⟩,
         ⟨(some 31), .v (.un .not (.t 30)), none, [30], 0, 0⟩])
       (.cond (.t 31)
        (.seq (.reg [iv 2 (.mv (.k (.bool false)))])
        (.ret))
        (.skip)))))
      (.reg [iv 32 (.bin .add (.t 20) (.k (.int .i64 1))),
        iv 20 (.mv (.t 32))])))
def Bb_avouchlaw10zPoseidonConstants : AC := .seq (.seq (.reg [iv 13 (.mv (.t 5)),
     iv 14 (.bin .leq (.t 13) (.k (.int .i64 65)))])
   (.cond (.t 14)
    (.skip)
    (.exit 0)))
   (.seq (.blk 1
    (.seq (.reg [iv 17 (.mv (.t 3)),
      iv 18 (.mv (.t 5)),
      ic 19 (.call i_poseidon_Permutation_Constants [.t 17, .t 18]),
      ic 6 (.alloc (rep1 (.int .u64 0) 12)),
      jc (.st 12 (.t 6) (.t 19))])
    (.seq (.reg [iv 20 (.mv (.k (.int .i64 0)))])
    (.blk 2
     (.loop Ba_avouchlaw10zPoseidonConstants)))))
   (.reg [iv 15 (.mv (.t 5)),
     iv 16 (.bin .add (.t 15) (.k (.int .i64 1))),
     iv 5 (.mv (.t 16))]))
def C_avouchlaw10zPoseidonConstants : AC := .seq (.reg [iv 2 (.mv (.k (.bool false)))])
 (.seq (.seq (.reg [ir 9 (.call i_avouchlaw10zspeaks []),
   iv 10 (.un .not (.t 9))])
 (.cond (.t 10)
  (.seq (.reg [iv 2 (.mv (.k (.bool false)))])
  (.ret))
  (.skip)))
 (.seq (.reg [ic 11 (.call i_poseidon_New []),
   ir 12 (.call i_avouchref10zNew []),
   ic 4 (.alloc [.nsl, .nsl]),
   iv 3 (.mv (.t 11)),
   jc (.st 2 (.t 4) (.t 12))])
 (.seq (.seq (.reg [iv 5 (.mv (.k (.int .i64 (-1))))])
 (.blk 0
  (.loop Bb_avouchlaw10zPoseidonConstants)))
 (.seq (.reg [iv 33 (.mv (.t 3)),
   iv 34 (.mv (.t 0)),
   ic 35 (.call i_poseidon_Permutation_Constants [.t 33, .t 34]),
   ic 8 (.alloc (rep1 (.int .u64 0) 12)),
   jc (.st 12 (.t 8) (.t 35))])
 (.seq (.draw [⟨(some 36), .v (.iadr (some 3) 4 (.t 8) (.k (.int .i64 1))), none, [8], 0, 0⟩,
   ⟨(some 37), .r (.ld 4 true (.t 36)), none, [36], 0, 0⟩,
   ⟨(some 38), .r (.ld 2 true (.t 4)), none, [4], 0, 0⟩,
   ⟨(some 39), .v (.mv (.t 0)), none, [0], 0, 0⟩,
   ⟨(some 40), .r (.call i_avouchref10zConstant [.t 38, .t 39, .k (.int .i64 1)]), none, [38, 39], 0, 0⟩,
   ⟨(some 41), .r (.call i_avouchlaw02zIs [.t 37, .t 40]), none, [37, 40], 0, 0⟩,
   ⟨(some 2), .v (.mv (.t 41)), none, [41], 0, 0⟩])
 (.ret))))))
def F_avouchlaw10zPoseidonConstants : AFn := ⟨42, C_avouchlaw10zPoseidonConstants, [.tmp 2]⟩
def Ba_avouchlaw10zPoseidonUnlike : AC := .seq (.reg [iv 61 (.bin .lss (.t 60) (.k (.int .i64 65)))])
   (.seq (.cond (.t 61)
    (.skip)
    (.exit 0))
   (.seq (.blk 1
    (.seq (.reg [iv 62 (.mv (.t 60)),
      iv 13 (.mv (.t 62))])
    (.seq (.draw [⟨(some 63), .v (.mv (.t 5)), none, [5], 0, 0⟩,
      ⟨(some 64), .r (.ld 12 true (.t 11)), none, [11], 0, 0⟩,
      ⟨(some 65), .v (.mv (.t 13)), none, [13], 0, 0⟩,
      ⟨(some 66), .c (.call i_poseidon_Permutation_Round [.t 63, .t 64, .t 65]), none, [63, 64, 65], 0, 0⟩,
      ⟨(some 67), .v (.mv (.t 5)), none, [5], 0, 0⟩,
      ⟨(some 68), .r (.ld 12 true (.t 12)), none, [12], 0, 1⟩,
      ⟨(some 69), .v (.mv (.t 13)), none, [13], 0, 0⟩,
      ⟨(some 70), .c (.call i_poseidon_Permutation_Round [.t 67, .t 68, .t 69]), none, [67, 68, 69], 0, 0⟩,
      ⟨none, .c (.st 12 (.t 11) (.t 66)), none, [11, 66], 0, 0⟩,
      ⟨none, .c (.st 12 (.t 12) (.t 70)), none, [12, 70], 0, 0⟩])
    (.seq (.reg [iv 71 (.iadr (some 3) 4 (.t 11) (.k (.int .i64 0))),
      ir 72 (.ld 4 true (.t 71)),
      iv 73 (.iadr (some 3) 4 (.t 12) (.k (.int .i64 0))),
      ir 74 (.ld 4 true (.t 73)),
      ir 75 (.call i_field_Element_Equal [.t 72, .t 74]),
      iv 76 (.mv (.t 75)),
      ⟨(some 77), .v (.iadr (some 3) 4 (.t 11) (.k (.int .i64 1))), (some (76, true)), [], 0, 0⟩,
      ⟨(some 78), .r (.ld 4 true (.t 77)), (some (76, true)), [], 0, 0⟩,
      ⟨(some 79), .v (.iadr (some 3) 4 (.t 12) (.k (.int .i64 1))), (some (76, true)), [], 0, 0⟩,
      ⟨(some 80), .r (.ld 4 true (.t 79)), (some (76, true)), [], 0, 0⟩,
      ⟨(some 81), .r (.call i_field_Element_Equal [.t 78, .t 80]), (some (76, true)), [], 0, 0⟩,
      iv 82 (.pick (.t 76) (.t 81) (.k (.bool false))),
      iv 83 (.mv (.t 82)),
      ⟨(some 84), .v (.iadr (some 3) 4 (.t 11) (.k (.int .i64 2))), (some (83, true)), [], 0, 0⟩,
      ⟨(some 85), .r (.ld 4 true (.t 84)), (some (83, true)), [], 0, 0⟩,
      ⟨(some 86), .v (.iadr (some 3) 4 (.t 12) (.k (.int .i64 2))), (some (83, true)), [], 0, 0⟩,
      ⟨(some 87), .r (.ld 4 true (.t 86)), (some (83, true)), [], 0, 0⟩,
      ⟨(some 88), .r (.call i_field_Element_Equal [.t 85, .t 87]), (some (83, true)), [], 0, 0⟩,
      iv 89 (.pick (.t 83) (.t 88) (.k (.bool false))),
      iv 90 (.mv (.t 10)),
      iv 91 (.eq .bool true (.t 89) (.t 90))])
    (.cond (.t 91)
     (.seq (.reg [iv 4 (.mv (.k (.bool false)))])
     (.ret))
     (.skip))))))
   (.reg [iv 92 (.bin .add (.t 60) (.k (.int .i64 1))),
     iv 60 (.mv (.t 92))])))
def C_avouchlaw10zPoseidonUnlike : AC := .seq (.reg [iv 2 (.boxv (.t 0)),
   iv 3 (.boxv (.t 1)),
   iv 4 (.mv (.k (.bool false)))])
 (.seq (.seq (.reg [ir 15 (.call i_avouchlaw10zspeaks []),
   iv 16 (.un .not (.t 15)),
   iv 17 (.mv (.t 16)),
   ⟨(some 18), .r (.ld 3 true (.t 2)), (some (17, false)), [], 0, 0⟩,
   ⟨(some 19), .r (.call i_avouchlaw10zfew [.t 18]), (some (17, false)), [], 0, 0⟩,
   ⟨(some 20), .v (.un .not (.t 19)), (some (17, false)), [], 0, 0⟩,
   iv 21 (.pick (.t 17) (.k (.bool true)) (.t 20)),
   iv 22 (.mv (.t 21)),
   ⟨(some 23), .r (.ld 3 true (.t 3)), (some (22, false)), [], 0, 0⟩,
   ⟨(some 24), .r (.call i_avouchlaw10zfew [.t 23]), (some (22, false)), [], 0, 0⟩,
   ⟨(some 25), .v (.un .not (.t 24)), (some (22, false)), [], 0, 0⟩,
   iv 26 (.pick (.t 22) (.k (.bool true)) (.t 25))])
 (.cond (.t 26)
  (.seq (.reg [ir 27 (.call i_avouchlaw10zspeaks []),
    iv 4 (.mv (.t 27))])
  (.ret))
  (.skip)))
 (.seq (.reg [ic 28 (.call i_poseidon_New []),
   iv 5 (.mv (.t 28))])
 (.seq (.reg [ir 30 (.ld 3 true (.t 2)),
   ir 31 (.call i_avouchlaw10zOf [.t 30]),
   iv 29 (.mv (.t 31)),
   iv 32 (.ext (.t 29) 0),
   iv 33 (.ext (.t 29) 1),
   ic 6 (.alloc (rep1 (.int .u64 0) 12)),
   jc (.st 12 (.t 6) (.t 32)),
   iv 7 (.mv (.t 33))])
 (.seq (.reg [ir 35 (.ld 3 true (.t 3)),
   ir 36 (.call i_avouchlaw10zOf [.t 35]),
   iv 34 (.mv (.t 36)),
   iv 37 (.ext (.t 34) 0),
   iv 38 (.ext (.t 34) 1),
   ic 8 (.alloc (rep1 (.int .u64 0) 12)),
   jc (.st 12 (.t 8) (.t 37)),
   iv 9 (.mv (.t 38))])
 (.seq (.reg [iv 39 (.iadr (some 3) 4 (.t 6) (.k (.int .i64 0))),
   ir 40 (.ld 4 true (.t 39)),
   iv 41 (.iadr (some 3) 4 (.t 8) (.k (.int .i64 0))),
   ir 42 (.ld 4 true (.t 41)),
   ir 43 (.call i_field_Element_Equal [.t 40, .t 42]),
   iv 44 (.mv (.t 43)),
   ⟨(some 45), .v (.iadr (some 3) 4 (.t 6) (.k (.int .i64 1))), (some (44, true)), [], 0, 0⟩,
   ⟨(some 46), .r (.ld 4 true (.t 45)), (some (44, true)), [], 0, 0⟩,
   ⟨(some 47), .v (.iadr (some 3) 4 (.t 8) (.k (.int .i64 1))), (some (44, true)), [], 0, 0⟩,
   ⟨(some 48), .r (.ld 4 true (.t 47)), (some (44, true)), [], 0, 0⟩,
   ⟨(some 49), .r (.call i_field_Element_Equal [.t 46, .t 48]), (some (44, true)), [], 0, 0⟩,
   iv 50 (.pick (.t 44) (.t 49) (.k (.bool false))),
   iv 51 (.mv (.t 50)),
   ⟨(some 52), .v (.iadr (some 3) 4 (.t 6) (.k (.int .i64 2))), (some (51, true)), [], 0, 0⟩,
   ⟨(some 53), .r (.ld 4 true (.t 52)), (some (51, true)), [], 0, 0⟩,
   ⟨(some 54), .v (.iadr (some 3) 4 (.t 8) (.k (.int .i64 2))), (some (51, true)), [], 0, 0⟩,
   ⟨(some 55), .r (.ld 4 true (.t 54)), (some (51, true)), [], 0, 0⟩,
   ⟨(some 56), .r (.call i_field_Element_Equal [.t 53, .t 55]), (some (51, true)), [], 0, 0⟩,
   iv 57 (.pick (.t 51) (.t 56) (.k (.bool false))),
   iv 10 (.mv (.t 57))])
 (.seq (.draw2 [⟨(some 58), .r (.ld 12 true (.t 6)), none, [6], 0, 2⟩,
   ⟨(some 59), .r (.ld 12 true (.t 8)), none, [8], 0, 3⟩,
   ic 11 (.alloc (rep1 (.int .u64 0) 12)),
   ic 12 (.alloc (rep1 (.int .u64 0) 12)),
   ⟨none, .c (.st 12 (.t 11) (.t 58)), none, [11, 58], 0, 0⟩,
   ⟨none, .c (.st 12 (.t 12) (.t 59)), none, [12, 59], 0, 0⟩]
  [⟨(some 58), .r (.ld 12 true (.t 6)), none, [6], 0, 2⟩,
   ⟨(some 59), .r (.ld 12 true (.t 8)), none, [8], 0, 3⟩,
   ic 12 (.alloc (rep1 (.int .u64 0) 12)),
   ic 11 (.alloc (rep1 (.int .u64 0) 12)),
   ⟨none, .c (.st 12 (.t 11) (.t 58)), none, [11, 58], 0, 0⟩,
   ⟨none, .c (.st 12 (.t 12) (.t 59)), none, [12, 59], 0, 0⟩]
  [(0, 0), (1, 1)])
 (.seq (.seq (.reg [iv 60 (.mv (.k (.int .i64 0)))])
 (.blk 0
  (.loop Ba_avouchlaw10zPoseidonUnlike)))
 (.seq (.reg [iv 93 (.mv (.t 5)),
   ir 94 (.ld 12 true (.t 6)),
   ic 95 (.call i_poseidon_Permutation_Permute [.t 93, .t 94]),
   ic 14 (.alloc (rep1 (.int .u64 0) 12)),
   jc (.st 12 (.t 14) (.t 95))])
 (.seq (.reg [iv 96 (.iadr (some 3) 4 (.t 14) (.k (.int .i64 0))),
   ir 97 (.ld 4 true (.t 96)),
   iv 98 (.iadr (some 3) 4 (.t 11) (.k (.int .i64 0))),
   ir 99 (.ld 4 true (.t 98)),
   ir 100 (.call i_field_Element_Equal [.t 97, .t 99]),
   iv 101 (.mv (.t 100)),
   ⟨(some 102), .v (.iadr (some 3) 4 (.t 14) (.k (.int .i64 1))), (some (101, true)), [], 0, 0⟩,
   ⟨(some 103), .r (.ld 4 true (.t 102)), (some (101, true)), [], 0, 0⟩,
   ⟨(some 104), .v (.iadr (some 3) 4 (.t 11) (.k (.int .i64 1))), (some (101, true)), [], 0, 0⟩,
   ⟨(some 105), .r (.ld 4 true (.t 104)), (some (101, true)), [], 0, 0⟩,
   ⟨(some 106), .r (.call i_field_Element_Equal [.t 103, .t 105]), (some (101, true)), [], 0, 0⟩,
   iv 107 (.pick (.t 101) (.t 106) (.k (.bool false))),
   iv 108 (.mv (.t 107)),
   ⟨(some 109), .v (.iadr (some 3) 4 (.t 14) (.k (.int .i64 2))), (some (108, true)), [], 0, 0⟩,
   ⟨(some 110), .r (.ld 4 true (.t 109)), (some (108, true)), [], 0, 0⟩,
   ⟨(some 111), .v (.iadr (some 3) 4 (.t 11) (.k (.int .i64 2))), (some (108, true)), [], 0, 0⟩,
   ⟨(some 112), .r (.ld 4 true (.t 111)), (some (108, true)), [], 0, 0⟩,
   ⟨(some 113), .r (.call i_field_Element_Equal [.t 110, .t 112]), (some (108, true)), [], 0, 0⟩,
   iv 114 (.pick (.t 108) (.t 113) (.k (.bool false))),
   iv 4 (.mv (.t 114))])
 (.ret))))))))))
def F_avouchlaw10zPoseidonUnlike : AFn := ⟨115, C_avouchlaw10zPoseidonUnlike, [.tmp 4]⟩
def C_avouchlaw10zPoseidonPower : AC := .seq (.reg [iv 4 (.mv (.k (.bool false)))])
 (.seq (.seq (.reg [ir 7 (.call i_avouchlaw10zspeaks []),
   iv 8 (.un .not (.t 7)),
   iv 9 (.mv (.t 8)),
   ⟨(some 10), .v (.mv (.t 0)), (some (9, false)), [], 0, 0⟩,
   ⟨(some 11), .v (.lenL (.t 10)), (some (9, false)), [], 0, 0⟩,
   ⟨(some 12), .v (.bin .gtr (.t 11) (.k (.int .i64 40))), (some (9, false)), [], 0, 0⟩,
   iv 13 (.pick (.t 9) (.k (.bool true)) (.t 12)),
   iv 14 (.mv (.t 13)),
   ⟨(some 15), .v (.mv (.t 1)), (some (14, false)), [], 0, 0⟩,
   ⟨(some 16), .v (.lenL (.t 15)), (some (14, false)), [], 0, 0⟩,
   ⟨(some 17), .v (.bin .gtr (.t 16) (.k (.int .i64 40))), (some (14, false)), [], 0, 0⟩,
   iv 18 (.pick (.t 14) (.k (.bool true)) (.t 17))])
 (.cond (.t 18)
  (.seq (.reg [ir 19 (.call i_avouchlaw10zspeaks []),
    iv 4 (.mv (.t 19))])
  (.ret))
  (.skip)))
 (.seq (.reg [iv 20 (.mv (.t 0)),
   ir 21 (.call i_field_FromWide [.t 20]),
   iv 22 (.mv (.t 1)),
   ir 23 (.call i_field_FromWide [.t 22]),
   ic 5 (.alloc (rep1 (.int .u64 0) 4)),
   ic 6 (.alloc (rep1 (.int .u64 0) 4)),
   jc (.st 4 (.t 5) (.t 21)),
   jc (.st 4 (.t 6) (.t 23))])
 (.seq (.draw [⟨(some 24), .r (.ld 4 true (.t 5)), none, [5], 0, 0⟩,
   ⟨(some 25), .r (.call i_poseidon_Power [.t 24]), none, [24], 0, 0⟩,
   ⟨(some 26), .r (.ld 4 true (.t 5)), none, [5], 0, 0⟩,
   iv 27 (.slit 1 1 [.int .u64 0] [(0, .k (.int .u64 5))]),
   ⟨(some 28), .r (.call i_field_Element_Exp [.t 26, .t 27]), none, [26, 27], 0, 0⟩,
   ⟨(some 29), .r (.call i_field_Element_Equal [.t 25, .t 28]), none, [25, 28], 0, 0⟩,
   ⟨(some 30), .v (.mv (.t 29)), none, [29], 0, 0⟩,
   ⟨(some 31), .r (.ld 4 true (.t 5)), (some (30, true)), [5, 30], 0, 0⟩,
   ⟨(some 32), .r (.call i_poseidon_Power [.t 31]), (some (30, true)), [31, 30], 0, 0⟩,
   ⟨(some 33), .r (.ld 4 true (.t 6)), (some (30, true)), [6, 30], 0, 0⟩,
   ⟨(some 34), .r (.call i_poseidon_Power [.t 33]), (some (30, true)), [33, 30], 0, 0⟩,
   ⟨(some 35), .r (.call i_field_Element_Equal [.t 32, .t 34]), (some (30, true)), [32, 34, 30], 0, 0⟩,
   ⟨(some 36), .r (.ld 4 true (.t 5)), (some (30, true)), [5, 30], 0, 0⟩,
   ⟨(some 37), .r (.ld 4 true (.t 6)), (some (30, true)), [6, 30], 0, 0⟩,
   ⟨(some 38), .r (.call i_field_Element_Equal [.t 36, .t 37]), (some (30, true)), [36, 37, 30], 0, 0⟩,
   ⟨(some 39), .v (.eq .bool false (.t 35) (.t 38)), (some (30, true)), [35, 38, 30], 0, 0⟩,
   ⟨(some 40), .v (.pick (.t 30) (.t 39) (.k (.bool false))), none, [30, 39], 0, 0⟩,
   ⟨(some 4), .v (.mv (.t 40)), none, [40], 0, 0⟩])
 (.ret))))
def F_avouchlaw10zPoseidonPower : AFn := ⟨41, C_avouchlaw10zPoseidonPower, [.tmp 4]⟩
def Ba_avouchlaw10zPoseidonSteps : AC := .seq (.reg [iv 35 (.bin .lss (.t 34) (.k (.int .i64 3)))])
   (.seq (.cond (.t 35)
    (.skip)
    (.exit 0))
   (.seq (.blk 1
    (.seq (.reg [iv 36 (.mv (.t 34)),
      iv 11 (.mv (.t 36))])
    (.seq (.draw [⟨(some 37), .v (.mv (.t 11)), none, [11], 0, 0⟩,
      ⟨(some 38), .v (.mv (.t 11)), none, [11], 0, 0⟩,
      ⟨(some 39), .v (.iadr (some 3) 4 (.t 10) (.t 38)), none, [10, 38], 0, 0⟩,
      ⟨(some 40), .r (.ld 4 true (.t 39)), none, [39], 0, 0⟩,
      ⟨(some 41), .v (.mv (.t 11)), none, [11], 0, 0⟩,
      ⟨(some 42), .v (.iadr (some 3) 4 (.t 9) (.t 41)), none, [9, 41], 0, 0⟩,
      ⟨(some 43), .r (.ld 4 true (.t 42)), none, [42], 0, 0⟩,
      ⟨(some 44), .r (.call i_field_Element_Add [.t 40, .t 43]), none, [40, 43], 0, 0⟩,
      ⟨(some 45), .v (.iadr (some 3) 4 (.t 10) (.t 37)), none, [10, 37], 0, 0⟩,
      ⟨none, .c (.st 4 (.t 45) (.t 44)), none, [45, 44], 0, 0⟩])
    (.seq (.reg [iv 46 (.mv (.t 11)),
      iv 47 (.bin .eql (.t 46) (.k (.int .i64 0))),
      iv 48 (.mv (.t 47)),
      ⟨(some 49), .v (.mv (.t 6)), (some (48, false)), [], 0, 0⟩,
      ⟨(some 50), .v (.bin .lss (.t 49) (.k (.int .i64 4))), (some (48, false)), [], 0, 0⟩,
      iv 51 (.pick (.t 48) (.k (.bool true)) (.t 50)),
      iv 52 (.mv (.t 51)),
      ⟨(some 53), .v (.mv (.t 6)), (some (52, false)), [], 0, 0⟩,
      ⟨(some 54), .v (.bin .geq (.t 53) (.k (.int .i64 61))), (some (52, false)), [], 0, 0⟩,
      iv 55 (.pick (.t 52) (.k (.bool true)) (.t 54))])
    (.cond (.t 55)
     (.reg [iv 56 (.mv (.t 11)),
       iv 57 (.mv (.t 11)),
       iv 58 (.iadr (some 3) 4 (.t 10) (.t 57)),
       ir 59 (.ld 4 true (.t 58)),
       ir 60 (.call i_poseidon_Power [.t 59]),
       iv 61 (.iadr (some 3) 4 (.t 10) (.t 56)),
       jc (.st 4 (.t 61) (.t 60))])
     (.skip))))))
   (.reg [iv 62 (.bin .add (.t 34) (.k (.int .i64 1))),
     iv 34 (.mv (.t 62))])))
def C_avouchlaw10zPoseidonSteps : AC := .seq (.reg [iv 2 (.boxv (.t 0)),
   iv 4 (.mv (.k (.bool false)))])
 (.seq (.seq (.reg [ir 13 (.call i_avouchlaw10zspeaks []),
   iv 14 (.un .not (.t 13)),
   iv 15 (.mv (.t 14)),
   ⟨(some 16), .r (.ld 3 true (.t 2)), (some (15, false)), [], 0, 0⟩,
   ⟨(some 17), .r (.call i_avouchlaw10zfew [.t 16]), (some (15, false)), [], 0, 0⟩,
   ⟨(some 18), .v (.un .not (.t 17)), (some (15, false)), [], 0, 0⟩,
   iv 19 (.pick (.t 15) (.k (.bool true)) (.t 18))])
 (.cond (.t 19)
  (.seq (.reg [ir 20 (.call i_avouchlaw10zspeaks []),
    iv 4 (.mv (.t 20))])
  (.ret))
  (.skip)))
 (.seq (.reg [ic 21 (.call i_poseidon_New []),
   iv 5 (.mv (.t 21))])
 (.seq (.reg [iv 22 (.mv (.t 1)),
   iv 23 (.i2i .i64 (.t 22)),
   iv 24 (.bin .rem (.t 23) (.k (.int .i64 65))),
   iv 6 (.mv (.t 24))])
 (.seq (.reg [ir 26 (.ld 3 true (.t 2)),
   ir 27 (.call i_avouchlaw10zOf [.t 26]),
   iv 25 (.mv (.t 27)),
   iv 28 (.ext (.t 25) 0),
   iv 29 (.ext (.t 25) 1),
   ic 7 (.alloc (rep1 (.int .u64 0) 12)),
   jc (.st 12 (.t 7) (.t 28)),
   iv 8 (.mv (.t 29))])
 (.seq (.reg [iv 30 (.mv (.t 5)),
   iv 31 (.mv (.t 6)),
   ic 32 (.call i_poseidon_Permutation_Constants [.t 30, .t 31]),
   ic 9 (.alloc (rep1 (.int .u64 0) 12)),
   jc (.st 12 (.t 9) (.t 32))])
 (.seq (.reg [ir 33 (.ld 12 true (.t 7)),
   ic 10 (.alloc (rep1 (.int .u64 0) 12)),
   jc (.st 12 (.t 10) (.t 33))])
 (.seq (.seq (.reg [iv 34 (.mv (.k (.int .i64 0)))])
 (.blk 0
  (.loop Ba_avouchlaw10zPoseidonSteps)))
 (.seq (.draw [ir 63 (.call i_matrix_Cauchy []),
   ⟨(some 64), .r (.ld 12 true (.t 10)), none, [10], 0, 0⟩,
   ⟨(some 65), .r (.call i_matrix_Matrix_Apply [.t 63, .t 64]), none, [63, 64], 0, 0⟩,
   ⟨none, .c (.st 12 (.t 10) (.t 65)), none, [10, 65], 0, 0⟩])
 (.seq (.reg [iv 66 (.mv (.t 5)),
   ir 67 (.ld 12 true (.t 7)),
   iv 68 (.mv (.t 6)),
   ic 69 (.call i_poseidon_Permutation_Round [.t 66, .t 67, .t 68]),
   ic 12 (.alloc (rep1 (.int .u64 0) 12)),
   jc (.st 12 (.t 12) (.t 69))])
 (.seq (.reg [iv 70 (.iadr (some 3) 4 (.t 10) (.k (.int .i64 0))),
   ir 71 (.ld 4 true (.t 70)),
   iv 72 (.iadr (some 3) 4 (.t 12) (.k (.int .i64 0))),
   ir 73 (.ld 4 true (.t 72)),
   ir 74 (.call i_field_Element_Equal [.t 71, .t 73]),
   iv 75 (.mv (.t 74)),
   ⟨(some 76), .v (.iadr (some 3) 4 (.t 10) (.k (.int .i64 1))), (some (75, true)), [], 0, 0⟩,
   ⟨(some 77), .r (.ld 4 true (.t 76)), (some (75, true)), [], 0, 0⟩,
   ⟨(some 78), .v (.iadr (some 3) 4 (.t 12) (.k (.int .i64 1))), (some (75, true)), [], 0, 0⟩,
   ⟨(some 79), .r (.ld 4 true (.t 78)), (some (75, true)), [], 0, 0⟩,
   ⟨(some 80), .r (.call i_field_Element_Equal [.t 77, .t 79]), (some (75, true)), [], 0, 0⟩,
   iv 81 (.pick (.t 75) (.t 80) (.k (.bool false))),
   iv 82 (.mv (.t 81)),
   ⟨(some 83), .v (.iadr (some 3) 4 (.t 10) (.k (.int .i64 2))), (some (82, true)), [], 0, 0⟩,
   ⟨(some 84), .r (.ld 4 true (.t 83)), (some (82, true)), [], 0, 0⟩,
   ⟨(some 85), .v (.iadr (some 3) 4 (.t 12) (.k (.int .i64 2))), (some (82, true)), [], 0, 0⟩,
   ⟨(some 86), .r (.ld 4 true (.t 85)), (some (82, true)), [], 0, 0⟩,
   ⟨(some 87), .r (.call i_field_Element_Equal [.t 84, .t 86]), (some (82, true)), [], 0, 0⟩,
   iv 88 (.pick (.t 82) (.t 87) (.k (.bool false))),
   iv 4 (.mv (.t 88))])
 (.ret)))))))))))
def F_avouchlaw10zPoseidonSteps : AFn := ⟨89, C_avouchlaw10zPoseidonSteps, [.tmp 4]⟩
def C_avouchlaw10zspeaks : AC := .seq (.reg [iv 0 (.mv (.k (.bool false)))])
 (.seq (.reg [ic 3 (.call i_poseidon_New []),
   iv 1 (.mv (.t 3))])
 (.seq (.seq (.reg [iv 4 (.mv (.t 1)),
   iv 5 (.eq .ptr false (.t 4) (.k (.nilp)))])
 (.cond (.t 5)
  (.seq (.reg [iv 0 (.mv (.k (.bool false)))])
  (.ret))
  (.skip)))
 (.seq (.reg [iv 6 (.mv (.t 1)),
   iv 7 (.build (rep1 (.int .u64 0) 12) []),
   ic 8 (.call i_poseidon_Permutation_Permute [.t 6, .t 7]),
   ic 2 (.alloc (rep1 (.int .u64 0) 12)),
   jc (.st 12 (.t 2) (.t 8))])
 (.seq (.reg [iv 9 (.iadr (some 3) 4 (.t 2) (.k (.int .i64 0))),
   ir 10 (.ld 4 true (.t 9)),
   ir 11 (.call i_field_Element_IsZero [.t 10]),
   iv 12 (.un .not (.t 11)),
   iv 13 (.mv (.t 12)),
   ⟨(some 14), .r (.call i_field_FromUint64 [.k (.int .u64 2)]), (some (13, true)), [], 0, 0⟩,
   ⟨(some 15), .r (.call i_poseidon_Power [.t 14]), (some (13, true)), [], 0, 0⟩,
   ⟨(some 16), .r (.call i_field_FromUint64 [.k (.int .u64 32)]), (some (13, true)), [], 0, 0⟩,
   ⟨(some 17), .r (.call i_field_Element_Equal [.t 15, .t 16]), (some (13, true)), [], 0, 0⟩,
   iv 18 (.pick (.t 13) (.t 17) (.k (.bool false))),
   iv 19 (.mv (.t 18)),
   ⟨(some 20), .r (.call i_field_FromUint64 [.k (.int .u64 2)]), (some (19, true)), [], 0, 0⟩,
   ⟨(some 21), .r (.call i_poseidon_Power [.t 20]), (some (19, true)), [], 0, 0⟩,
   ⟨(some 22), .r (.call i_field_Element_IsZero [.t 21]), (some (19, true)), [], 0, 0⟩,
   ⟨(some 23), .v (.un .not (.t 22)), (some (19, true)), [], 0, 0⟩,
   iv 24 (.pick (.t 19) (.t 23) (.k (.bool false))),
   iv 0 (.mv (.t 24))])
 (.ret)))))
def F_avouchlaw10zspeaks : AFn := ⟨25, C_avouchlaw10zspeaks, [.tmp 0]⟩
def C_poseidon_New : AC := .seq (.reg [iv 0 (.mv (.k (.nilp)))])
 (.seq (.reg [iv 1 (.build [.int .u32 0, .int .i32 0, .int .u32 0, .int .u64 0, .int .u64 0, .int .u64 0, .int .u64 0, .int .u64 0, .int .u64 0, .int .u64 0, .int .u64 0, .int .u64 0, .int .u64 0, .int .u64 0, .int .u64 0, .int .u64 0, .int .u64 0, .int .u64 0, .int .u64 0, .int .u64 0, .int .u64 0, .int .u64 0, .int .u64 0, .int .u64 0, .int .u64 0, .int .u64 0, .int .u64 0, .int .u64 0, .int .u64 0, .int .u64 0, .int .u64 0, .int .u64 0, .int .u64 0, .int .u64 0, .int .u64 0, .int .u64 0, .int .u64 0, .int .u64 0, .int .u64 0, .int .u64 0, .int .u64 0, .int .u64 0, .int .u64 0, .int .u64 0, .int .u64 0, .int .u64 0, .int .u64 0, .int .u64 0, .int .u64 0, .int .u64 0, .int .u64 0, .int .u64 0, .int .u64 0, .int .u64 0, .int .u64 0, .int .u64 0, .int .u64 0, .int .u64 0, .int .u64 0, .int .u64 0, .int .u64 0, .int .u64 0, .int .u64 0, .int .u64 0, .int .u64 0, .int .u64 0, .int .u64 0, .int .u64 0, .int .u64 0, .int .u64 0, .int .u64 0, .int .u64 0, .int .u64 0, .int .u64 0, .int .u64 0, .int .u64 0, .int .u64 0, .int .u64 0, .int .u64 0, .int .u64 0, .int .u64 0, .int .u64 0, .int .u64 0, .int .u64 0, .int .u64 0, .int .u64 0, .int .u64 0, .int .u64 0, .int .u64 0, .int .u64 0, .int .u64 0, .int .u64 0, .int .u64 0, .int .u64 0, .int .u64 0, .int .u64 0, .int .u64 0, .int .u64 0, .int .u64 0, .int .u64 0, .int .u64 0, .int .u64 0, .int .u64 0, .int .u64 0, .int .u64 0, .int .u64 0, .int .u64 0, .int .u64 0, .int .u64 0, .int .u64 0, .int .u64 0, .int .u64 0, .int .u64 0, .int .u64 0, .int .u64 0, .int .u64 0, .int .u64 0, .int .u64 0, .int .u64 0, .int .u64 0, .int .u64 0, .int .u64 0, .int .u64 0, .int .u64 0, .int .u64 0, .int .u64 0, .int .u64 0, .int .u64 0, .int .u64 0, .int .u64 0, .int .u64 0, .int .u64 0, .int .u64 0, .int .u64 0, .int .u64 0, .int .u64 0, .int .u64 0, .int .u64 0, .int .u64 0, .int .u64 0, .int .u64 0, .int .u64 0, .int .u64 0, .int .u64 0, .int .u64 0, .int .u64 0, .int .u64 0, .int .u64 0, .int .u64 0, .int .u64 0, .int .u64 0, .int .u64 0, .int .u64 0, .int .u64 0, .int .u64 0, .int .u64 0, .int .u64 0, .int .u64 0, .int .u64 0, .int .u64 0, .int .u64 0, .int .u64 0, .int .u64 0, .int .u64 0, .int .u64 0, .int .u64 0, .int .u64 0, .int .u64 0, .int .u64 0, .int .u64 0, .int .u64 0, .int .u64 0, .int .u64 0, .int .u64 0, .int .u64 0, .int .u64 0, .int .u64 0, .int .u64 0, .int .u64 0, .int .u64 0, .int .u64 0, .int .u64 0, .int .u64 0, .int .u64 0, .int .u64 0, .int .u64 0, .int .u64 0, .int .u64 0, .int .u64 0, .int .u64 0, .int .u64 0, .int .u64 0, .int .u64 0, .int .u64 0, .int .u64 0, .int .u64 0, .int .u64 0, .int .u64 0, .int .u64 0, .int .u64 0, .int .u64 0, .int .u64 0, .int .u64 0, .int .u64 0, .int .u64 0, .int .u64 0, .int .u64 0, .int .u64 0, .int .u64 0, .int .u64 0, .int .u64 0, .int .u64 0, .int .u64 0, .int .u64 0, .int .u64 0, .int .u64 0, .int .u64 0, .int .u64 0, .int .u64 0, .int .u64 0, .int .u64 0, .int .u64 0, .int .u64 0, .int .u64 0, .int .u64 0, .int .u64 0, .int .u64 0, .int .u64 0, .int .u64 0, .int .u64 0, .int .u64 0, .int .u64 0, .int .u64 0, .int .u64 0, .int .u64 0, .int .u64 0, .int .u64 0, .int .u64 0, .int .u64 0, .int .u64 0, .int .u64 0, .int .u64 0, .int .u64 0, .int .u64 0, .int .u64 0, .int .u64 0, .int .u64 0, .int .u64 0, .int .u64 0, .int .u64 0, .int .u64 0, .int .u64 0, .int .u64 0, .int .u64 0, .int .u64 0, .int .u64 0, .int .u64 0, .int .u64 0, .int .u64 0, .int .u64 0, .int .u64 0, .int .u64 0, .int .u64 0, .int .u64 0, .int .u64 0, .int .u64 0, .int .u64 0, .int .u64 0, .int .u64 0, .int .u64 0, .int .u64 0, .int .u64 0, .int .u64 0, .int .u64 0, .int .u64 0, .int .u64 0, .int .u64 0, .int .u64 0, .int .u64 0, .int .u64 0, .int .u64 0, .int .u64 0, .int .u64 0, .int .u64 0, .int .u64 0, .int .u64 0, .int .u64 0, .int .u64 0, .int .u64 0, .int .u64 0, .int .u64 0, .int .u64 0, .int .u64 0, .int .u64 0, .int .u64 0, .int .u64 0, .int .u64 0, .int .u64 0, .int .u64 0, .int .u64 0, .int .u64 0, .int .u64 0, .int .u64 0, .int .u64 0, .int .u64 0, .int .u64 0, .int .u64 0, .int .u64 0, .int .u64 0, .int .u64 0, .int .u64 0, .int .u64 0, .int .u64 0, .int .u64 0, .int .u64 0, .int .u64 0, .int .u64 0, .int .u64 0, .int .u64 0, .int .u64 0, .int .u64 0, .int .u64 0, .int .u64 0, .int .u64 0, .int .u64 0, .int .u64 0, .int .u64 0, .int .u64 0, .int .u64 0, .int .u64 0, .int .u64 0, .int .u64 0, .int .u64 0, .int .u64 0, .int .u64 0, .int .u64 0, .int .u64 0, .int .u64 0, .int .u64 0, .int .u64 0, .int .u64 0, .int .u64 0, .int .u64 0, .int .u64 0, .int .u64 0, .int .u64 0, .int .u64 0, .int .u64 0, .int .u64 0, .int .u64 0, .int .u64 0, .int .u64 0, .int .u64 0, .int .u64 0, .int .u64 0, .int .u64 0, .int .u64 0, .int .u64 0, .int .u64 0, .int .u64 0, .int .u64 0, .int .u64 0, .int .u64 0, .int .u64 0, .int .u64 0, .int .u64 0, .int .u64 0, .int .u64 0, .int .u64 0, .int .u64 0, .int .u64 0, .int .u64 0, .int .u64 0, .int .u64 0, .int .u64 0, .int .u64 0, .int .u64 0, .int .u64 0, .int .u64 0, .int .u64 0, .int .u64 0, .int .u64 0, .int .u64 0, .int .u64 0, .int .u64 0, .int .u64 0, .int .u64 0, .int .u64 0, .int .u64 0, .int .u64 0, .int .u64 0, .int .u64 0, .int .u64 0, .int .u64 0, .int .u64 0, .int .u64 0, .int .u64 0, .int .u64 0, .int .u64 0, .int .u64 0, .int .u64 0, .int .u64 0, .int .u64 0, .int .u64 0, .int .u64 0, .int .u64 0, .int .u64 0, .int .u64 0, .int .u64 0, .int .u64 0, .int .u64 0, .int .u64 0, .int .u64 0, .int .u64 0, .int .u64 0, .int .u64 0, .int .u64 0, .int .u64 0, .int .u64 0, .int .u64 0, .int .u64 0, .int .u64 0, .int .u64 0, .int .u64 0, .int .u64 0, .int .u64 0, .int .u64 0, .int .u64 0, .int .u64 0, .int .u64 0, .int .u64 0, .int .u64 0, .int .u64 0, .int .u64 0, .int .u64 0, .int .u64 0, .int .u64 0, .int .u64 0, .int .u64 0, .int .u64 0, .int .u64 0, .int .u64 0, .int .u64 0, .int .u64 0, .int .u64 0, .int .u64 0, .int .u64 0, .int .u64 0, .int .u64 0, .int .u64 0, .int .u64 0, .int .u64 0, .int .u64 0, .int .u64 0, .int .u64 0, .int .u64 0, .int .u64 0, .int .u64 0, .int .u64 0, .int .u64 0, .int .u64 0, .int .u64 0, .int .u64 0, .int .u64 0, .int .u64 0, .int .u64 0, .int .u64 0, .int .u64 0, .int .u64 0, .int .u64 0, .int .u64 0, .int .u64 0, .int .u64 0, .int .u64 0, .int .u64 0, .int .u64 0, .int .u64 0, .int .u64 0, .int .u64 0, .int .u64 0, .int .u64 0, .int .u64 0, .int .u64 0, .int .u64 0, .int .u64 0, .int .u64 0, .int .u64 0, .int .u64 0, .int .u64 0, .int .u64 0, .int .u64 0, .int .u64 0, .int .u64 0, .int .u64 0, .int .u64 0, .int .u64 0, .int .u64 0, .int .u64 0, .int .u64 0, .int .u64 0, .int .u64 0, .int .u64 0, .int .u64 0, .int .u64 0, .int .u64 0, .int .u64 0, .int .u64 0, .int .u64 0, .int .u64 0, .int .u64 0, .int .u64 0, .int .u64 0, .int .u64 0, .int .u64 0, .int .u64 0, .int .u64 0, .int .u64 0, .int .u64 0, .int .u64 0, .int .u64 0, .int .u64 0, .int .u64 0, .int .u64 0, .int .u64 0, .int .u64 0, .int .u64 0, .int .u64 0, .int .u64 0, .int .u64 0, .int .u64 0, .int .u64 0, .int .u64 0, .int .u64 0, .int .u64 0, .int .u64 0, .int .u64 0, .int .u64 0, .int .u64 0, .int .u64 0, .int .u64 0, .int .u64 0, .int .u64 0, .int .u64 0, .int .u64 0, .int .u64 0, .int .u64 0, .int .u64 0, .int .u64 0, .int .u64 0, .int .u64 0, .int .u64 0, .int .u64 0, .int .u64 0, .int .u64 0, .int .u64 0, .int .u64 0, .int .u64 0, .int .u64 0, .int .u64 0, .int .u64 0, .int .u64 0, .int .u64 0, .int .u64 0, .int .u64 0, .int .u64 0, .int .u64 0, .int .u64 0, .int .u64 0, .int .u64 0, .int .u64 0, .int .u64 0, .int .u64 0, .int .u64 0, .int .u64 0, .int .u64 0, .int .u64 0, .int .u64 0, .int .u64 0, .int .u64 0, .int .u64 0, .int .u64 0, .int .u64 0, .int .u64 0, .int .u64 0, .int .u64 0, .int .u64 0, .int .u64 0, .int .u64 0, .int .u64 0, .int .u64 0, .int .u64 0, .int .u64 0, .int .u64 0, .int .u64 0, .int .u64 0, .int .u64 0, .int .u64 0, .int .u64 0, .int .u64 0, .int .u64 0, .int .u64 0, .int .u64 0, .int .u64 0, .int .u64 0, .int .u64 0, .int .u64 0, .int .u64 0, .int .u64 0, .int .u64 0, .int .u64 0, .int .u64 0, .int .u64 0, .int .u64 0, .int .u64 0, .int .u64 0, .int .u64 0, .int .u64 0, .int .u64 0, .int .u64 0, .int .u64 0, .int .u64 0, .int .u64 0, .int .u64 0, .int .u64 0, .int .u64 0, .int .u64 0, .int .u64 0, .int .u64 0, .int .u64 0, .int .u64 0, .int .u64 0, .int .u64 0, .int .u64 0, .int .u64 0, .int .u64 0, .int .u64 0, .int .u64 0, .int .u64 0, .int .u64 0, .int .u64 0, .int .u64 0, .int .u64 0, .int .u64 0, .int .u64 0, .int .u64 0, .int .u64 0, .int .u64 0, .int .u64 0, .int .u64 0, .int .u64 0, .int .u64 0, .int .u64 0, .int .u64 0, .int .u64 0, .int .u64 0, .int .u64 0, .int .u64 0, .int .u64 0, .int .u64 0, .int .u64 0, .int .u64 0, .int .u64 0, .int .u64 0, .int .u64 0, .int .u64 0, .int .u64 0, .int .u64 0, .int .u64 0, .int .u64 0, .int .u64 0, .int .u64 0, .int .u64 0, .int .u64 0, .int .u64 0, .int .u64 0, .int .u64 0, .int .u64 0, .int .u64 0, .int .u64 0, .int .u64 0, .int .u64 0, .int .u64 0, .int .u64 0, .int .u64 0, .int .u64 0, .int .u64 0, .int .u64 0, .int .u64 0, .int .u64 0, .int .u64 0, .int .u64 0, .int .u64 0, .int .u64 0, .int .u64 0, .int .u64 0, .int .u64 0, .int .u64 0, .int .u64 0, .int .u64 0, .int .u64 0, .int .u64 0, .int .u64 0, .int .u64 0, .int .u64 0, .int .u64 0, .int .u64 0, .int .u64 0, .int .u64 0, .int .u64 0, .int .u64 0, .int .u64 0, .int .u64 0, .int .u64 0, .int .u64 0, .int .u64 0, .int .u64 0, .int .u64 0, .int .u64 0, .int .u64 0, .int .u64 0, .int .u64 0, .int .u64 0, .int .u64 0, .int .u64 0, .int .u64 0, .int .u64 0, .int .u64 0, .int .u64 0, .int .u64 0, .int .u64 0, .int .u64 0, .int .u64 0, .int .u64 0, .int .u64 0, .int .u64 0, .int .u64 0, .int .u64 0, .int .u64 0, .int .u64 0, .int .u64 0, .int .u64 0, .int .u64 0, .int .u64 0, .int .u64 0, .int .u64 0, .int .u64 0, .int .u64 0, .int .u64 0, .int .u64 0, .int .u64 0, .int .u64 0, .int .u64 0, .int .u64 0, .int .u64 0, .int .u64 0, .int .u64 0, .int .u64 0, .int .u64 0, .int .u64 0, .int .u64 0, .int .u64 0, .int .u64 0, .int .u64 0, .int .u64 0, .int .u64 0, .int .u64 0, .int .u64 0, .int .u64 0, .int .u64 0, .int .u64 0, .int .u64 0, .int .u64 0, .int .u64 0, .int .u64 0, .int .u64 0, .int .u64 0, .int .u64 0, .int .u64 0, .int .u64 0, .int .u64 0, .int .u64 0, .int .u64 0, .int .u64 0, .int .u64 0, .int .u64 0, .int .u64 0, .int .u64 0, .int .u64 0, .int .u64 0, .int .u64 0, .int .u64 0, .int .u64 0, .int .u64 0, .int .u64 0, .int .u64 0, .int .u64 0, .int .u64 0, .int .u64 0, .int .u64 0, .int .u64 0, .int .u64 0, .int .u64 0, .int .u64 0, .int .u64 0, .int .u64 0, .int .u64 0, .int .u64 0, .int .u64 0, .int .u64 0, .int .u64 0, .int .u64 0, .int .u64 0, .int .u64 0, .int .u64 0, .int .u64 0, .int .u64 0, .int .u64 0, .int .u64 0, .int .u64 0] []),
   ic 2 (.box (.t 1)),
   iv 0 (.mv (.t 2))])
 (.ret))
def F_poseidon_New : AFn := ⟨3, C_poseidon_New, [.tmp 0]⟩
def Ba_avouchref10zNew : AC := .seq (.seq (.reg [iv 13 (.mv (.t 4)),
     iv 14 (.bin .lss (.t 13) (.k (.int .i64 195)))])
   (.cond (.t 14)
    (.skip)
    (.exit 0)))
   (.seq (.blk 1
    (.seq (.reg [ir 18 (.ld 80 true (.t 1)),
      ir 19 (.call i_avouchref08zElement [.t 18]),
      iv 17 (.mv (.t 19)),
      iv 20 (.ext (.t 17) 0),
      iv 21 (.ext (.t 17) 1),
      ic 5 (.alloc (rep1 (.bool false) 80)),
      jc (.st 80 (.t 5) (.t 20)),
      iv 6 (.mv (.t 21))])
    (.seq (.reg [ir 22 (.ld 80 true (.t 5)),
      jc (.st 80 (.t 1) (.t 22))])
    (.reg [iv 23 (.fadr 0 (.t 3)),
      ir 24 (.ld 1 false (.t 23)),
      iv 25 (.mv (.t 6)),
      iv 26 (.slit 1 1 [.nsl] [(0, .t 25)]),
      ic 27 (.app 1 false (.t 24) (.t 26)),
      iv 28 (.fadr 0 (.t 3)),
      jc (.st 1 (.t 28) (.t 27))]))))
   (.reg [iv 15 (.mv (.t 4)),
     iv 16 (.bin .add (.t 15) (.k (.int .i64 1))),
     iv 4 (.mv (.t 16))]))
def C_avouchref10zNew : AC := .seq (.reg [ic 0 (.alloc [.nsl, .nsl])])
 (.seq (.reg [ir 8 (.call i_avouchref08zNew [.k (.int .i64 254), .k (.int .i64 3), .k (.int .i64 8), .k (.int .i64 57)]),
   iv 7 (.mv (.t 8)),
   iv 9 (.ext (.t 7) 0),
   iv 10 (.ext (.t 7) 1),
   ic 1 (.alloc (rep1 (.bool false) 80)),
   jc (.st 80 (.t 1) (.t 9)),
   iv 2 (.mv (.t 10))])
 (.seq (.reg [ir 11 (.call i_avouchref09zCauchy []),
   iv 12 (.build [.nsl, .nsl] [(1, 1, .t 11)]),
   ic 3 (.alloc [.nsl, .nsl]),
   jc (.st 2 (.t 3) (.t 12))])
 (.seq (.seq (.reg [iv 4 (.mv (.k (.int .i64 0)))])
 (.blk 0
  (.loop Ba_avouchref10zNew)))
 (.seq (.reg [ir 29 (.ld 2 true (.t 3)),
   jc (.st 2 (.t 0) (.t 29))])
 (.ret)))))
def F_avouchref10zNew : AFn := ⟨30, C_avouchref10zNew, [.cell 0 2 true]⟩
def C_poseidon_Permutation_Constants : AC := .seq (.reg [ic 4 (.alloc (rep1 (.int .u64 0) 12))])
 (.seq (.reg [iv 5 (.mv (.t 0)),
   iv 6 (.nck (.t 5)),
   iv 7 (.fadr 0 (.t 6)),
   iv 8 (.mv (.t 0)),
   iv 9 (.mkfn (.func i_poseidon_Permutation_fill) [.t 8] []),
   ic 10 (.call i_sync_Once_Do [.t 7, .t 9])])
 (.seq (.seq (.reg [iv 11 (.mv (.t 1)),
   iv 12 (.bin .lss (.t 11) (.k (.int .i64 0))),
   iv 13 (.mv (.t 12)),
   ⟨(some 14), .v (.mv (.t 1)), (some (13, false)), [], 0, 0⟩,
   ⟨(some 15), .v (.bin .geq (.t 14) (.k (.int .i64 65))), (some (13, false)), [], 0, 0⟩,
   iv 16 (.pick (.t 13) (.k (.bool true)) (.t 15))])
 (.cond (.t 16)
  (.seq (.reg [iv 17 (.build (rep1 (.int .u64 0) 12) []),
    jc (.st 12 (.t 4) (.t 17))])
  (.ret))
  (.skip)))
 (.seq (.reg [iv 18 (.mv (.t 0)),
   iv 19 (.mv (.t 1)),
   iv 20 (.nck (.t 18)),
   iv 21 (.fadr 3 (.t 20)),
   iv 22 (.iadr (some 65) 12 (.t 21) (.t 19)),
   ir 23 (.ld 12 true (.t 22)),
   jc (.st 12 (.t 4) (.t 23))])
 (.ret))))
def F_poseidon_Permutation_Constants : AFn := ⟨24, C_poseidon_Permutation_Constants, [.cell 4 12 true]⟩
def C_avouchlaw02zIs : AC := .seq (.reg [iv 2 (.boxv (.t 0)),
   iv 4 (.mv (.k (.bool false)))])
 (.seq (.reg [ir 6 (.ld 4 true (.t 2)),
   ir 7 (.call i_field_Element_Bytes [.t 6]),
   ic 5 (.alloc (rep1 (.int .u8 0) 32)),
   jc (.st 32 (.t 5) (.t 7))])
 (.seq (.draw [⟨(some 8), .v (.slice (.arr 32) 1 (.t 5) none none none), none, [5], 0, 0⟩,
   ⟨(some 9), .r (.b2s (.t 8)), none, [8], 0, 0⟩,
   ⟨(some 10), .v (.mv (.t 1)), none, [1], 0, 0⟩,
   ⟨(some 11), .r (.call i_avouchref02zBytes [.t 10]), none, [10], 0, 0⟩,
   ⟨(some 12), .r (.b2s (.t 11)), none, [11], 0, 0⟩,
   ⟨(some 13), .v (.bin .eql (.t 9) (.t 12)), none, [9, 12], 0, 0⟩,
   ⟨(some 4), .v (.mv (.t 13)), none, [13], 0, 0⟩])
 (.ret)))
def F_avouchlaw02zIs : AFn := ⟨14, C_avouchlaw02zIs, [.tmp 4]⟩
def C_avouchref10zConstant : AC := .seq (.reg [iv 3 (.boxv (.t 0)),
   iv 6 (.mv (.k (.nsl)))])
 (.seq (.seq (.reg [iv 7 (.mv (.t 1)),
   iv 8 (.bin .lss (.t 7) (.k (.int .i64 0))),
   iv 9 (.mv (.t 8)),
   ⟨(some 10), .v (.mv (.t 1)), (some (9, false)), [], 0, 0⟩,
   ⟨(some 11), .v (.bin .gtr (.t 10) (.k (.int .i64 64))), (some (9, false)), [], 0, 0⟩,
   iv 12 (.pick (.t 9) (.k (.bool true)) (.t 11))])
 (.cond (.t 12)
  (.seq (.reg [iv 6 (.mv (.k (.nsl)))])
  (.ret))
  (.skip)))
 (.seq (.reg [iv 13 (.fadr 0 (.t 3)),
   ir 14 (.ld 1 false (.t 13)),
   iv 15 (.mv (.t 1)),
   iv 16 (.bin .mul (.k (.int .i64 3)) (.t 15)),
   iv 17 (.mv (.t 2)),
   iv 18 (.bin .add (.t 16) (.t 17)),
   iv 19 (.iadr none 1 (.t 14) (.t 18)),
   ir 20 (.ld 1 false (.t 19)),
   iv 6 (.mv (.t 20))])
 (.ret)))
def F_avouchref10zConstant : AFn := ⟨21, C_avouchref10zConstant, [.tmp 6]⟩
def C_avouchlaw10zfew : AC := .seq (.reg [iv 1 (.boxv (.t 0)),
   iv 2 (.mv (.k (.bool false)))])
 (.seq (.reg [iv 3 (.iadr (some 3) 1 (.t 1) (.k (.int .i64 0))),
   ir 4 (.ld 1 false (.t 3)),
   iv 5 (.lenL (.t 4)),
   iv 6 (.bin .leq (.t 5) (.k (.int .i64 40))),
   iv 7 (.mv (.t 6)),
   ⟨(some 8), .v (.iadr (some 3) 1 (.t 1) (.k (.int .i64 1))), (some (7, true)), [], 0, 0⟩,
   ⟨(some 9), .r (.ld 1 false (.t 8)), (some (7, true)), [], 0, 0⟩,
   ⟨(some 10), .v (.lenL (.t 9)), (some (7, true)), [], 0, 0⟩,
   ⟨(some 11), .v (.bin .leq (.t 10) (.k (.int .i64 40))), (some (7, true)), [], 0, 0⟩,
   iv 12 (.pick (.t 7) (.t 11) (.k (.bool false))),
   iv 13 (.mv (.t 12)),
   ⟨(some 14), .v (.iadr (some 3) 1 (.t 1) (.k (.int .i64 2))), (some (13, true)), [], 0, 0⟩,
   ⟨(some 15), .r (.ld 1 false (.t 14)), (some (13, true)), [], 0, 0⟩,
   ⟨(some 16), .v (.lenL (.t 15)), (some (13, true)), [], 0, 0⟩,
   ⟨(some 17), .v (.bin .leq (.t 16) (.k (.int .i64 40))), (some (13, true)), [], 0, 0⟩,
   iv 18 (.pick (.t 13) (.t 17) (.k (.bool false))),
   iv 2 (.mv (.t 18))])
 (.ret))
def F_avouchlaw10zfew : AFn := ⟨19, C_avouchlaw10zfew, [.tmp 2]⟩
def Ba_avouchlaw10zOf : AC := .seq (.reg [iv 11 (.bin .lss (.t 10) (.k (.int .i64 3)))])
   (.seq (.cond (.t 11)
    (.skip)
    (.exit 0))
   (.seq (.blk 1
    (.seq (.reg [iv 12 (.mv (.t 10)),
      iv 13 (.idxA 3 1 false (.t 9) (.t 10)),
      iv 6 (.mv (.t 12)),
      iv 7 (.mv (.t 13))])
    (.seq (.reg [iv 14 (.mv (.t 6)),
      iv 15 (.mv (.t 7)),
      ir 16 (.call i_field_FromWide [.t 15]),
      iv 17 (.iadr (some 3) 4 (.t 4) (.t 14)),
      jc (.st 4 (.t 17) (.t 16))])
    (.reg [iv 18 (.mv (.t 5)),
      iv 19 (.mv (.t 7)),
      ir 20 (.call i_avouchref01zOfBytes [.t 19]),
      ir 21 (.call i_avouchref02zMod [.t 20]),
      iv 22 (.slit 1 1 [.nsl] [(0, .t 21)]),
      ic 23 (.app 1 false (.t 18) (.t 22)),
      iv 5 (.mv (.t 23))]))))
   (.reg [iv 24 (.bin .add (.t 10) (.k (.int .i64 1))),
     iv 10 (.mv (.t 24))])))
def C_avouchlaw10zOf : AC := .seq (.reg [iv 1 (.boxv (.t 0)),
   ic 2 (.alloc (rep1 (.int .u64 0) 12)),
   iv 3 (.mv (.k (.nsl)))])
 (.seq (.reg [ic 4 (.alloc (rep1 (.int .u64 0) 12))])
 (.seq (.reg [iv 8 (.slit 1 0 [.nsl] []),
   iv 5 (.mv (.t 8))])
 (.seq (.seq (.reg [ir 9 (.ld 3 true (.t 1)),
   iv 10 (.mv (.k (.int .i64 0)))])
 (.blk 0
  (.loop Ba_avouchlaw10zOf)))
 (.seq (.reg [ir 25 (.ld 12 true (.t 4)),
   iv 26 (.mv (.t 5)),
   jc (.st 12 (.t 2) (.t 25)),
   iv 3 (.mv (.t 26))])
 (.ret)))))
def F_avouchlaw10zOf : AFn := ⟨27, C_avouchlaw10zOf, [.cell 2 12 true, .tmp 3]⟩
def C_field_Element_Equal : AC := .seq (.reg [iv 2 (.boxv (.t 0)),
   iv 3 (.boxv (.t 1)),
   iv 4 (.mv (.k (.bool false)))])
 (.seq (.reg [ir 5 (.ld 4 true (.t 2)),
   ir 6 (.ld 4 true (.t 3)),
   iv 7 (.eq (.agg (rep1 .i 4)) false (.t 5) (.t 6)),
   iv 4 (.mv (.t 7))])
 (.ret))
def F_field_Element_Equal : AFn := ⟨8, C_field_Element_Equal, [.tmp 4]⟩
def Ba_poseidon_Permutation_Round : AC := .seq (.reg [iv 20 (.bin .lss (.t 19) (.k (.int .i64 3)))])
   (.seq (.cond (.t 20)
    (.skip)
    (.exit 0))
   (.seq (.blk 1
    (.seq (.reg [iv 21 (.mv (.t 19)),
      iv 9 (.mv (.t 21))])
    (.seq (.draw [⟨(some 22), .v (.mv (.t 9)), none, [9], 0, 0⟩,
      ⟨(some 23), .v (.mv (.t 9)), none, [9], 0, 0⟩,
      ⟨(some 24), .v (.iadr (some 3) 4 (.t 4) (.t 23)), none, [4, 23], 0, 0⟩,
      ⟨(some 25), .r (.ld 4 true (.t 24)), none, [24], 0, 0⟩,
      ⟨(some 26), .v (.mv (.t 9)), none, [9], 0, 0⟩,
      ⟨(some 27), .v (.iadr (some 3) 4 (.t 7) (.t 26)), none, [7, 26], 0, 0⟩,
      ⟨(some 28), .r (.ld 4 true (.t 27)), none, [27], 0, 0⟩,
      ⟨(some 29), .r (.call i_field_Element_Add [.t 25, .t 28]), none, [25, 28], 0, 0⟩,
      ⟨(some 30), .v (.iadr (some 3) 4 (.t 4) (.t 22)), none, [4, 22], 0, 0⟩,
      ⟨none, .c (.st 4 (.t 30) (.t 29)), none, [30, 29], 0, 0⟩])
    (.seq (.reg [iv 31 (.mv (.t 8)),
      iv 32 (.mv (.t 31)),
      ⟨(some 33), .v (.mv (.t 9)), (some (32, false)), [], 0, 0⟩,
      ⟨(some 34), .v (.bin .eql (.t 33) (.k (.int .i64 0))), (some (32, false)), [], 0, 0⟩,
      iv 35 (.pick (.t 32) (.k (.bool true)) (.t 34))])
    (.cond (.t 35)
     (.reg [iv 36 (.mv (.t 9)),
       iv 37 (.mv (.t 9)),
       iv 38 (.iadr (some 3) 4 (.t 4) (.t 37)),
       ir 39 (.ld 4 true (.t 38)),
       ir 40 (.call i_poseidon_Power [.t 39]),
       iv 41 (.iadr (some 3) 4 (.t 4) (.t 36)),
       jc (.st 4 (.t 41) (.t 40))])
     (.skip))))))
   (.reg [iv 42 (.bin .add (.t 19) (.k (.int .i64 1))),
     iv 19 (.mv (.t 42))])))
def C_poseidon_Permutation_Round : AC := .seq (.reg [ic 4 (.box (.t 1)),
   ic 6 (.alloc (rep1 (.int .u64 0) 12))])
 (.seq (.reg [iv 10 (.mv (.t 0)),
   iv 11 (.mv (.t 2)),
   ic 12 (.call i_poseidon_Permutation_Constants [.t 10, .t 11]),
   ic 7 (.alloc (rep1 (.int .u64 0) 12)),
   jc (.st 12 (.t 7) (.t 12))])
 (.seq (.reg [iv 13 (.mv (.t 2)),
   iv 14 (.bin .lss (.t 13) (.k (.int .i64 4))),
   iv 15 (.mv (.t 14)),
   ⟨(some 16), .v (.mv (.t 2)), (some (15, false)), [], 0, 0⟩,
   ⟨(some 17), .v (.bin .geq (.t 16) (.k (.int .i64 61))), (some (15, false)), [], 0, 0⟩,
   iv 18 (.pick (.t 15) (.k (.bool true)) (.t 17)),
   iv 8 (.mv (.t 18))])
 (.seq (.seq (.reg [iv 19 (.mv (.k (.int .i64 0)))])
 (.blk 0
  (.loop Ba_poseidon_Permutation_Round)))
 (.seq (.draw [⟨(some 43), .v (.mv (.t 0)), none, [0], 0, 0⟩,
   ⟨(some 44), .v (.nck (.t 43)), none, [43], 0, 0⟩,
   ⟨(some 45), .v (.fadr 783 (.t 44)), none, [44], 0, 0⟩,
   ⟨(some 46), .r (.ld 36 true (.t 45)), none, [45], 0, 0⟩,
   ⟨(some 47), .r (.ld 12 true (.t 4)), none, [4], 0, 0⟩,
   ⟨(some 48), .r (.call i_matrix_Matrix_Apply [.t 46, .t 47]), none, [46, 47], 0, 0⟩,
   ⟨none, .c (.st 12 (.t 6) (.t 48)), none, [6, 48], 0, 0⟩])
 (.ret)))))
def F_poseidon_Permutation_Round : AFn := ⟨49, C_poseidon_Permutation_Round, [.cell 6 12 true]⟩
def Ba_poseidon_Permutation_Permute : AC := .seq (.reg [iv 7 (.bin .lss (.t 6) (.k (.int .i64 65)))])
   (.seq (.cond (.t 7)
    (.skip)
    (.exit 0))
   (.seq (.blk 1
    (.seq (.reg [iv 8 (.mv (.t 6)),
      iv 5 (.mv (.t 8))])
    (.reg [iv 9 (.mv (.t 0)),
      ir 10 (.ld 12 true (.t 3)),
      iv 11 (.mv (.t 5)),
      ic 12 (.call i_poseidon_Permutation_Round [.t 9, .t 10, .t 11]),
      jc (.st 12 (.t 3) (.t 12))])))
   (.reg [iv 13 (.bin .add (.t 6) (.k (.int .i64 1))),
     iv 6 (.mv (.t 13))])))
def C_poseidon_Permutation_Permute : AC := .seq (.reg [ic 3 (.box (.t 1)),
   ic 4 (.alloc (rep1 (.int .u64 0) 12))])
 (.seq (.seq (.reg [iv 6 (.mv (.k (.int .i64 0)))])
 (.blk 0
  (.loop Ba_poseidon_Permutation_Permute)))
 (.seq (.reg [ir 14 (.ld 12 true (.t 3)),
   jc (.st 12 (.t 4) (.t 14))])
 (.ret)))
def F_poseidon_Permutation_Permute : AFn := ⟨15, C_poseidon_Permutation_Permute, [.cell 4 12 true]⟩
def C_field_FromWide : AC := .seq (.reg [ic 2 (.alloc (rep1 (.int .u64 0) 4))])
 (.seq (.reg [ir 6 (.call i_field_prime []),
   ic 3 (.alloc (rep1 (.int .u64 0) 4)),
   jc (.st 4 (.t 3) (.t 6))])
 (.seq (.reg [iv 8 (.slice (.arr 4) 1 (.t 3) none none none),
   ir 9 (.call i_limb_New [.t 8]),
   iv 7 (.mv (.t 9)),
   iv 10 (.ext (.t 7) 0),
   iv 11 (.ext (.t 7) 1),
   iv 4 (.mv (.t 10)),
   iv 5 (.mv (.t 11))])
 (.seq (.reg [iv 12 (.mv (.t 4)),
   iv 13 (.mv (.t 0)),
   ir 14 (.call i_limb_Words [.t 13]),
   ir 15 (.call i_limb_Modulus_Reduce [.t 12, .t 14]),
   iv 16 (.s2a 4 (.t 15)),
   ir 17 (.ld 4 true (.t 16)),
   ir 18 (.call i_field_enter [.t 17]),
   jc (.st 4 (.t 2) (.t 18))])
 (.ret))))
def F_field_FromWide : AFn := ⟨19, C_field_FromWide, [.cell 2 4 true]⟩
def C_poseidon_Power : AC := .seq (.reg [iv 1 (.boxv (.t 0)),
   ic 2 (.alloc (rep1 (.int .u64 0) 4))])
 (.seq (.draw [⟨(some 3), .r (.ld 4 true (.t 1)), none, [1], 0, 0⟩,
   ⟨(some 4), .r (.call i_field_Element_Square [.t 3]), none, [3], 0, 0⟩,
   ⟨(some 5), .r (.call i_field_Element_Square [.t 4]), none, [4], 0, 0⟩,
   ⟨(some 6), .r (.ld 4 true (.t 1)), none, [1], 0, 0⟩,
   ⟨(some 7), .r (.call i_field_Element_Mul [.t 5, .t 6]), none, [5, 6], 0, 0⟩,
   ⟨none, .c (.st 4 (.t 2) (.t 7)), none, [2, 7], 0, 0⟩])
 (.ret))
def F_poseidon_Power : AFn := ⟨8, C_poseidon_Power, [.cell 2 4 true]⟩
def Ba_field_Element_Exp : AC := .seq (.seq (.reg [iv 11 (.mv (.t 6)),
     iv 12 (.bin .geq (.t 11) (.k (.int .i64 0)))])
   (.cond (.t 12)
    (.skip)
    (.exit 0)))
   (.seq (.blk 1
    (.seq (.reg [ir 15 (.ld 4 true (.t 5)),
      ir 16 (.call i_field_Element_Square [.t 15]),
      jc (.st 4 (.t 5) (.t 16))])
    (.seq (.reg [iv 17 (.mv (.t 1)),
      iv 18 (.mv (.t 6)),
      iv 19 (.bin .quo (.t 18) (.k (.int .i64 64))),
      iv 20 (.iadr none 1 (.t 17) (.t 19)),
      ir 21 (.ld 1 false (.t 20)),
      iv 22 (.mv (.t 6)),
      iv 23 (.bin .rem (.t 22) (.k (.int .i64 64))),
      iv 24 (.bin .shr (.t 21) (.t 23)),
      iv 25 (.bin .and (.t 24) (.k (.int .u64 1))),
      iv 26 (.bin .eql (.t 25) (.k (.int .u64 1)))])
    (.cond (.t 26)
     (.reg [ir 27 (.ld 4 true (.t 5)),
       ir 28 (.ld 4 true (.t 2)),
       ir 29 (.call i_field_Element_Mul [.t 27, .t 28]),
       jc (.st 4 (.t 5) (.t 29))])
     (.skip)))))
   (.reg [iv 13 (.mv (.t 6)),
     iv 14 (.bin .sub (.t 13) (.k (.int .i64 1))),
     iv 6 (.mv (.t 14))]))
def C_field_Element_Exp : AC := .seq (.reg [iv 2 (.boxv (.t 0)),
   ic 4 (.alloc (rep1 (.int .u64 0) 4))])
 (.seq (.reg [ir 7 (.call i_field_FromUint64 [.k (.int .u64 1)]),
   ic 5 (.alloc (rep1 (.int .u64 0) 4)),
   jc (.st 4 (.t 5) (.t 7))])
 (.seq (.seq (.reg [iv 8 (.mv (.t 1)),
   ir 9 (.call i_limb_Bits [.t 8]),
   iv 10 (.bin .sub (.t 9) (.k (.int .i64 1))),
   iv 6 (.mv (.t 10))])
 (.blk 0
  (.loop Ba_field_Element_Exp)))
 (.seq (.reg [ir 30 (.ld 4 true (.t 5)),
   jc (.st 4 (.t 4) (.t 30))])
 (.ret))))
def F_field_Element_Exp : AFn := ⟨31, C_field_Element_Exp, [.cell 4 4 true]⟩
def C_field_Element_Add : AC := .seq (.reg [iv 2 (.boxv (.t 0)),
   iv 3 (.boxv (.t 1)),
   ic 4 (.alloc (rep1 (.int .u64 0) 4))])
 (.seq (.reg [iv 5 (.fadr 0 (.t 2)),
   ir 6 (.ld 4 true (.t 5)),
   iv 7 (.fadr 0 (.t 3)),
   ir 8 (.ld 4 true (.t 7)),
   ir 9 (.call i_field_plus [.t 6, .t 8]),
   ir 10 (.call i_field_below [.t 9]),
   iv 11 (.build (rep1 (.int .u64 0) 4) [(0, 4, .t 10)]),
   jc (.st 4 (.t 4) (.t 11))])
 (.ret))
def F_field_Element_Add : AFn := ⟨12, C_field_Element_Add, [.cell 4 4 true]⟩
def C_matrix_Cauchy : AC := .seq (.reg [ic 0 (.alloc (rep1 (.int .u64 0) 36))])
 (.seq (.reg [ir 1 (.call i_matrix_build [.k (.fn (.func i_matrix_Cauchy_1) [] [])]),
   jc (.st 36 (.t 0) (.t 1))])
 (.ret))
def F_matrix_Cauchy : AFn := ⟨2, C_matrix_Cauchy, [.cell 0 36 true]⟩
def C_matrix_Matrix_Apply : AC := .seq (.reg [iv 2 (.boxv (.t 0)),
   iv 3 (.boxv (.t 1)),
   ic 4 (.alloc (rep1 (.int .u64 0) 12))])
 (.seq (.draw [⟨(some 5), .v (.iadr (some 3) 12 (.t 2) (.k (.int .i64 0))), none, [2], 0, 0⟩,
   ⟨(some 6), .r (.ld 12 true (.t 5)), none, [5], 0, 0⟩,
   ⟨(some 7), .r (.ld 12 true (.t 3)), none, [3], 0, 0⟩,
   ⟨(some 8), .r (.call i_matrix_Vector_dot [.t 6, .t 7]), none, [6, 7], 0, 0⟩,
   ⟨(some 9), .v (.iadr (some 3) 12 (.t 2) (.k (.int .i64 1))), none, [2], 0, 0⟩,
   ⟨(some 10), .r (.ld 12 true (.t 9)), none, [9], 0, 0⟩,
   ⟨(some 11), .r (.ld 12 true (.t 3)), none, [3], 0, 0⟩,
   ⟨(some 12), .r (.call i_matrix_Vector_dot [.t 10, .t 11]), none, [10, 11], 0, 0⟩,
   ⟨(some 13), .v (.iadr (some 3) 12 (.t 2) (.k (.int .i64 2))), none, [2], 0, 0⟩,
   ⟨(some 14), .r (.ld 12 true (.t 13)), none, [13], 0, 0⟩,
   ⟨(some 15), .r (.ld 12 true (.t 3)), none, [3], 0, 0⟩,
   ⟨(some 16), .r (.call i_matrix_Vector_dot [.t 14, .t 15]), none, [14, 15], 0, 0⟩,
   ⟨(some 17), .v (.build (rep1 (.int .u64 0) 12) [(0, 4, .t 8), (4, 4, .t 12), (8, 4, .t 16)]), none, [8, 12, 16], 0, 0⟩,
   ⟨none, .c (.st 12 (.t 4) (.t 17)), none, [4, 17], 0, 0⟩])
 (.ret))
def F_matrix_Matrix_Apply : AFn := ⟨18, C_matrix_Matrix_Apply, [.cell 4 12 true]⟩
def C_field_Element_IsZero : AC := .seq (.reg [iv 1 (.boxv (.t 0)),
   iv 2 (.mv (.k (.bool false)))])
 (.seq (.reg [ir 3 (.ld 4 true (.t 1)),
   iv 4 (.build (rep1 (.int .u64 0) 4) []),
   iv 5 (.eq (.agg (rep1 .i 4)) false (.t 3) (.t 4)),
   iv 2 (.mv (.t 5))])
 (.ret))
def F_field_Element_IsZero : AFn := ⟨6, C_field_Element_IsZero, [.tmp 2]⟩
def C_field_FromUint64 : AC := .seq (.reg [ic 2 (.alloc (rep1 (.int .u64 0) 4))])
 (.seq (.reg [iv 3 (.mv (.t 0)),
   iv 4 (.build (rep1 (.int .u64 0) 4) [(0, 1, .t 3)]),
   ir 5 (.call i_field_enter [.t 4]),
   jc (.st 4 (.t 2) (.t 5))])
 (.ret))
def F_field_FromUint64 : AFn := ⟨6, C_field_FromUint64, [.cell 2 4 true]⟩
def Ba_avouchref08zNew : AC := .seq (.seq (.reg [iv 47 (.mv (.t 12)),
     iv 48 (.bin .lss (.t 47) (.k (.int .i64 80)))])
   (.cond (.t 48)
    (.skip)
    (.exit 0)))
   (.seq (.blk 1
    (.reg [iv 51 (.mv (.t 12)),
      iv 52 (.mv (.t 10)),
      iv 53 (.mv (.t 12)),
      iv 54 (.iadr none 1 (.t 52) (.t 53)),
      ir 55 (.ld 1 false (.t 54)),
      iv 56 (.iadr (some 80) 1 (.t 11) (.t 51)),
      jc (.st 1 (.t 56) (.t 55))]))
   (.reg [iv 49 (.mv (.t 12)),
     iv 50 (.bin .add (.t 49) (.k (.int .i64 1))),
     iv 12 (.mv (.t 50))]))
def Bb_avouchref08zNew : AC := .seq (.seq (.reg [iv 57 (.mv (.t 13)),
     iv 58 (.bin .lss (.t 57) (.k (.int .i64 160)))])
   (.cond (.t 58)
    (.skip)
    (.exit 2)))
   (.seq (.blk 3
    (.reg [ir 62 (.ld 80 true (.t 11)),
      ir 63 (.call i_avouchref08zTurn [.t 62]),
      iv 61 (.mv (.t 63)),
      iv 64 (.ext (.t 61) 0),
      iv 65 (.ext (.t 61) 1),
      jc (.st 80 (.t 11) (.t 64))]))
   (.reg [iv 59 (.mv (.t 13)),
     iv 60 (.bin .add (.t 59) (.k (.int .i64 1))),
     iv 13 (.mv (.t 60))]))
def C_avouchref08zNew : AC := .seq (.reg [ic 8 (.alloc (rep1 (.bool false) 80)),
   iv 9 (.mv (.k (.int .i64 0)))])
 (.seq (.seq (.reg [iv 14 (.mv (.t 0)),
   ir 15 (.call i_avouchref08zin [.t 14, .k (.int .i64 1), .k (.int .i64 4095)]),
   iv 16 (.un .not (.t 15)),
   iv 17 (.mv (.t 16)),
   ⟨(some 18), .v (.mv (.t 1)), (some (17, false)), [], 0, 0⟩,
   ⟨(some 19), .r (.call i_avouchref08zin [.t 18, .k (.int .i64 1), .k (.int .i64 4095)]), (some (17, false)), [], 0, 0⟩,
   ⟨(some 20), .v (.un .not (.t 19)), (some (17, false)), [], 0, 0⟩,
   iv 21 (.pick (.t 17) (.k (.bool true)) (.t 20)),
   iv 22 (.mv (.t 21)),
   ⟨(some 23), .v (.mv (.t 2)), (some (22, false)), [], 0, 0⟩,
   ⟨(some 24), .r (.call i_avouchref08zin [.t 23, .k (.int .i64 0), .k (.int .i64 1023)]), (some (22, false)), [], 0, 0⟩,
   ⟨(some 25), .v (.un .not (.t 24)), (some (22, false)), [], 0, 0⟩,
   iv 26 (.pick (.t 22) (.k (.bool true)) (.t 25)),
   iv 27 (.mv (.t 26)),
   ⟨(some 28), .v (.mv (.t 3)), (some (27, false)), [], 0, 0⟩,
   ⟨(some 29), .r (.call i_avouchref08zin [.t 28, .k (.int .i64 0), .k (.int .i64 1023)]), (some (27, false)), [], 0, 0⟩,
   ⟨(some 30), .v (.un .not (.t 29)), (some (27, false)), [], 0, 0⟩,
   iv 31 (.pick (.t 27) (.k (.bool true)) (.t 30))])
 (.cond (.t 31)
  (.seq (.reg [iv 32 (.build (rep1 (.bool false) 80) []),
    jc (.st 80 (.t 8) (.t 32)),
    iv 9 (.mv (.k (.int .i64 1)))])
  (.ret))
  (.skip)))
 (.seq (.reg [ic 33 (.call i_avouchref08zlay [.k (.nsl), .k (.int .i64 1), .k (.int .i64 2)]),
   ic 34 (.call i_avouchref08zlay [.t 33, .k (.int .i64 0), .k (.int .i64 4)]),
   iv 35 (.mv (.t 0)),
   ic 36 (.call i_avouchref08zlay [.t 34, .t 35, .k (.int .i64 12)]),
   iv 10 (.mv (.t 36))])
 (.seq (.reg [iv 37 (.mv (.t 10)),
   iv 38 (.mv (.t 1)),
   ic 39 (.call i_avouchref08zlay [.t 37, .t 38, .k (.int .i64 12)]),
   iv 40 (.mv (.t 2)),
   ic 41 (.call i_avouchref08zlay [.t 39, .t 40, .k (.int .i64 10)]),
   iv 42 (.mv (.t 3)),
   ic 43 (.call i_avouchref08zlay [.t 41, .t 42, .k (.int .i64 10)]),
   iv 10 (.mv (.t 43))])
 (.seq (.reg [iv 44 (.mv (.t 10)),
   ic 45 (.call i_avouchref08zlay [.t 44, .k (.int .i64 1073741823), .k (.int .i64 30)]),
   iv 10 (.mv (.t 45))])
 (.seq (.reg [iv 46 (.build (rep1 (.bool false) 80) []),
   ic 11 (.alloc (rep1 (.bool false) 80)),
   jc (.st 80 (.t 11) (.t 46))])
 (.seq (.seq (.reg [iv 12 (.mv (.k (.int .i64 0)))])
 (.blk 0
  (.loop Ba_avouchref08zNew)))
 (.seq (.seq (.reg [iv 13 (.mv (.k (.int .i64 0)))])
 (.blk 2
  (.loop Bb_avouchref08zNew)))
 (.seq (.reg [ir 66 (.ld 80 true (.t 11)),
   jc (.st 80 (.t 8) (.t 66)),
   iv 9 (.mv (.k (.int .i64 0)))])
 (.ret)))))))))
def F_avouchref08zNew : AFn := ⟨67, C_avouchref08zNew, [.cell 8 80 true, .tmp 9]⟩
def Ba_avouchref09zCauchy : AC := .seq (.seq (.reg [iv 11 (.mv (.t 4)),
        iv 12 (.bin .lss (.t 11) (.k (.int .i64 3)))])
      (.cond (.t 12)
       (.skip)
       (.exit 2)))
      (.seq (.blk 3
       (.reg [iv 15 (.mv (.t 3)),
         iv 16 (.mv (.t 2)),
         iv 17 (.mv (.t 4)),
         iv 18 (.bin .add (.t 16) (.t 17)),
         iv 19 (.bin .add (.t 18) (.k (.int .i64 3))),
         iv 20 (.i2i .u64 (.t 19)),
         iv 21 (.slit 1 1 [.int .u64 0] [(0, .t 20)]),
         ir 22 (.call i_avouchref02zInverse [.t 21]),
         iv 23 (.slit 1 1 [.nsl] [(0, .t 22)]),
         ic 24 (.app 1 false (.t 15) (.t 23)),
         iv 3 (.mv (.t 24))]))
      (.reg [iv 13 (.mv (.t 4)),
        iv 14 (.bin .add (.t 13) (.k (.int .i64 1))),
        iv 4 (.mv (.t 14))]))
def Bb_avouchref09zCauchy : AC := .seq (.seq (.reg [iv 6 (.mv (.t 2)),
     iv 7 (.bin .lss (.t 6) (.k (.int .i64 3)))])
   (.cond (.t 7)
    (.skip)
    (.exit 0)))
   (.seq (.blk 1
    (.seq (.reg [iv 10 (.slit 1 0 [.nsl] []),
      iv 3 (.mv (.t 10))])
    (.seq (.seq (.reg [iv 4 (.mv (.k (.int .i64 0)))])
    (.blk 2
     (.loop Ba_avouchref09zCauchy)))
    (.reg [iv 25 (.mv (.t 1)),
      iv 26 (.mv (.t 3)),
      iv 27 (.slit 1 1 [.nsl] [(0, .t 26)]),
      ic 28 (.app 1 false (.t 25) (.t 27)),
      iv 1 (.mv (.t 28))]))))
   (.reg [iv 8 (.mv (.t 2)),
     iv 9 (.bin .add (.t 8) (.k (.int .i64 1))),
     iv 2 (.mv (.t 9))]))
def C_avouchref09zCauchy : AC := .seq (.reg [iv 0 (.mv (.k (.nsl)))])
 (.seq (.reg [iv 5 (.slit 1 0 [.nsl] []),
   iv 1 (.mv (.t 5))])
 (.seq (.seq (.reg [iv 2 (.mv (.k (.int .i64 0)))])
 (.blk 0
  (.loop Bb_avouchref09zCauchy)))
 (.seq (.reg [iv 29 (.mv (.t 1)),
   iv 0 (.mv (.t 29))])
 (.ret))))
def F_avouchref09zCauchy : AFn := ⟨30, C_avouchref09zCauchy, [.tmp 0]⟩
def Ba_avouchref08zElement : AC := .seq (.seq (.reg [iv 9 (.mv (.t 5)),
        iv 10 (.bin .geq (.t 9) (.k (.int .i64 0)))])
      (.cond (.t 10)
       (.skip)
       (.exit 2)))
      (.seq (.blk 3
       (.seq (.reg [ir 14 (.ld 80 true (.t 1)),
         ir 15 (.call i_avouchref08zBit [.t 14]),
         iv 13 (.mv (.t 15)),
         iv 16 (.ext (.t 13) 0),
         iv 17 (.ext (.t 13) 1),
         ic 6 (.alloc (rep1 (.bool false) 80)),
         jc (.st 80 (.t 6) (.t 16)),
         iv 7 (.mv (.t 17))])
       (.seq (.reg [ir 18 (.ld 80 true (.t 6)),
         jc (.st 80 (.t 1) (.t 18))])
       (.seq (.reg [iv 19 (.mv (.t 4)),
         iv 20 (.mv (.t 5)),
         iv 21 (.bin .quo (.t 20) (.k (.int .i64 32))),
         iv 22 (.mv (.t 4)),
         iv 23 (.mv (.t 5)),
         iv 24 (.bin .quo (.t 23) (.k (.int .i64 32))),
         iv 25 (.iadr none 1 (.t 22) (.t 24)),
         ir 26 (.ld 1 false (.t 25)),
         iv 27 (.bin .mul (.t 26) (.k (.int .u64 2))),
         iv 28 (.iadr none 1 (.t 19) (.t 21)),
         jc (.st 1 (.t 28) (.t 27))])
       (.seq (.reg [iv 29 (.mv (.t 7))])
       (.cond (.t 29)
        (.reg [iv 30 (.mv (.t 4)),
          iv 31 (.mv (.t 5)),
          iv 32 (.bin .quo (.t 31) (.k (.int .i64 32))),
          iv 33 (.mv (.t 4)),
          iv 34 (.mv (.t 5)),
          iv 35 (.bin .quo (.t 34) (.k (.int .i64 32))),
          iv 36 (.iadr none 1 (.t 33) (.t 35)),
          ir 37 (.ld 1 false (.t 36)),
          iv 38 (.bin .add (.t 37) (.k (.int .u64 1))),
          iv 39 (.iadr none 1 (.t 30) (.t 32)),
          jc (.st 1 (.t 39) (.t 38))])
        (.skip)))))))
      (.reg [iv 11 (.mv (.t 5)),
        iv 12 (.bin .sub (.t 11) (.k (.int .i64 1))),
        iv 5 (.mv (.t 12))]))
def Bb_avouchref08zElement : AC := .blk 1
    (.seq (.reg [ic 8 (.mk 1 [.int .u64 0] (.k (.int .i64 8))),
      iv 4 (.mv (.t 8))])
    (.seq (.seq (.reg [iv 5 (.mv (.k (.int .i64 253)))])
    (.blk 2
     (.loop Ba_avouchref08zElement)))
    (.seq (.reg [iv 40 (.mv (.t 4)),
      ir 41 (.call i_avouchref02zP []),
      ir 42 (.call i_avouchref01zCmp [.t 40, .t 41]),
      iv 43 (.bin .lss (.t 42) (.k (.int .i64 0)))])
    (.cond (.t 43)
     (.seq (.draw [⟨(some 44), .r (.ld 80 true (.t 1)), none, [1], 0, 0⟩,
       ⟨(some 45), .v (.mv (.t 4)), none, [4], 0, 0⟩,
       ⟨(some 46), .r (.call i_avouchref01zTrim [.t 45]), none, [45], 0, 0⟩,
       ⟨none, .c (.st 80 (.t 2) (.t 44)), none, [2, 44], 0, 0⟩,
       ⟨(some 3), .v (.mv (.t 46)), none, [46], 0, 0⟩])
     (.ret))
     (.skip)))))
def C_avouchref08zElement : AC := .seq (.reg [ic 1 (.box (.t 0)),
   ic 2 (.alloc (rep1 (.bool false) 80)),
   iv 3 (.mv (.k (.nsl)))])
 (.blk 0
  (.loop Bb_avouchref08zElement))
def F_avouchref08zElement : AFn := ⟨47, C_avouchref08zElement, [.cell 2 80 true, .tmp 3]⟩
def Ba_poseidon_Permutation_fill : AC := .seq (.reg [iv 18 (.bin .lss (.t 17) (.k (.int .i64 3)))])
      (.seq (.cond (.t 18)
       (.skip)
       (.exit 2))
      (.seq (.blk 3
       (.seq (.reg [iv 19 (.mv (.t 17)),
         iv 5 (.mv (.t 19))])
       (.draw [⟨(some 20), .v (.mv (.t 0)), none, [0], 0, 0⟩,
         ⟨(some 21), .v (.mv (.t 4)), none, [4], 0, 0⟩,
         ⟨(some 22), .v (.mv (.t 5)), none, [5], 0, 0⟩,
         ⟨(some 23), .v (.mv (.t 2)), none, [2], 0, 0⟩,
         ⟨(some 24), .c (.call i_grain_Source_Element [.t 23]), none, [23], 0, 0⟩,
         ⟨(some 25), .v (.nck (.t 20)), none, [20], 0, 0⟩,
         ⟨(some 26), .v (.fadr 3 (.t 25)), none, [25], 0, 0⟩,
         ⟨(some 27), .v (.iadr (some 65) 12 (.t 26) (.t 21)), none, [26, 21], 0, 0⟩,
         ⟨(some 28), .v (.iadr (some 3) 4 (.t 27) (.t 22)), none, [27, 22], 0, 0⟩,
         ⟨none, .c (.st 4 (.t 28) (.t 24)), none, [28, 24], 0, 0⟩])))
      (.reg [iv 29 (.bin .add (.t 17) (.k (.int .i64 1))),
        iv 17 (.mv (.t 29))])))
def Bb_poseidon_Permutation_fill : AC := .seq (.reg [iv 15 (.bin .lss (.t 14) (.k (.int .i64 65)))])
   (.seq (.cond (.t 15)
    (.skip)
    (.exit 0))
   (.seq (.blk 1
    (.seq (.reg [iv 16 (.mv (.t 14)),
      iv 4 (.mv (.t 16))])
    (.seq (.reg [iv 17 (.mv (.k (.int .i64 0)))])
    (.blk 2
     (.loop Ba_poseidon_Permutation_fill)))))
   (.reg [iv 30 (.bin .add (.t 14) (.k (.int .i64 1))),
     iv 14 (.mv (.t 30))])))
def C_poseidon_Permutation_fill : AC := .seq (.reg [iv 6 (.mv (.t 0)),
   ir 7 (.call i_matrix_Cauchy []),
   iv 8 (.nck (.t 6)),
   iv 9 (.fadr 783 (.t 8)),
   jc (.st 36 (.t 9) (.t 7))])
 (.seq (.reg [ic 11 (.call i_grain_New [.k (.int .i64 254), .k (.int .i64 3), .k (.int .i64 8), .k (.int .i64 57)]),
   iv 10 (.mv (.t 11)),
   iv 12 (.ext (.t 10) 0),
   iv 13 (.ext (.t 10) 1),
   iv 2 (.mv (.t 12)),
   iv 3 (.mv (.t 13))])
 (.seq (.reg [iv 14 (.mv (.k (.int .i64 0)))])
 (.blk 0
  (.loop Bb_poseidon_Permutation_fill))))
def F_poseidon_Permutation_fill : AFn := ⟨31, C_poseidon_Permutation_fill, []⟩
def C_field_Element_Bytes : AC := .seq (.reg [iv 1 (.boxv (.t 0)),
   ic 2 (.alloc (rep1 (.int .u8 0) 32))])
 (.seq (.reg [ir 4 (.ld 4 true (.t 1)),
   ir 5 (.call i_field_Element_leave [.t 4]),
   ic 3 (.alloc (rep1 (.int .u64 0) 4)),
   jc (.st 4 (.t 3) (.t 5))])
 (.seq (.reg [iv 6 (.slice (.arr 4) 1 (.t 3) none none none),
   ir 7 (.call i_limb_Bytes [.t 6]),
   iv 8 (.s2a 32 (.t 7)),
   ir 9 (.ld 32 true (.t 8)),
   jc (.st 32 (.t 2) (.t 9))])
 (.ret)))
def F_field_Element_Bytes : AFn := ⟨10, C_field_Element_Bytes, [.cell 2 32 true]⟩
def C_avouchref02zBytes : AC := .seq (.reg [iv 2 (.mv (.k (.nsl)))])
 (.seq (.reg [iv 3 (.mv (.t 0)),
   ir 4 (.call i_avouchref01zWords [.t 3, .k (.int .i64 4)]),
   ir 5 (.call i_avouchref01zBytes [.t 4]),
   iv 2 (.mv (.t 5))])
 (.ret))
def F_avouchref02zBytes : AFn := ⟨6, C_avouchref02zBytes, [.tmp 2]⟩
def C_avouchref02zMod : AC := .seq (.reg [iv 2 (.mv (.k (.nsl)))])
 (.seq (.reg [iv 3 (.mv (.t 0)),
   ir 4 (.call i_avouchref02zP []),
   ir 5 (.call i_avouchref01zMod [.t 3, .t 4]),
   iv 2 (.mv (.t 5))])
 (.ret))
def F_avouchref02zMod : AFn := ⟨6, C_avouchref02zMod, [.tmp 2]⟩
def Ba_avouchref01zOfBytes : AC := .seq (.seq (.reg [iv 13 (.mv (.t 4)),
     iv 14 (.bin .geq (.t 13) (.k (.int .i64 0)))])
   (.cond (.t 14)
    (.skip)
    (.exit 0)))
   (.seq (.blk 1
    (.draw [⟨(some 17), .v (.mv (.t 3)), none, [3], 0, 0⟩,
      ⟨(some 18), .v (.mv (.t 4)), none, [4], 0, 0⟩,
      ⟨(some 19), .v (.bin .quo (.t 18) (.k (.int .i64 4))), none, [18], 0, 0⟩,
      ⟨(some 20), .v (.mv (.t 3)), none, [3], 0, 0⟩,
      ⟨(some 21), .v (.mv (.t 4)), none, [4], 0, 0⟩,
      ⟨(some 22), .v (.bin .quo (.t 21) (.k (.int .i64 4))), none, [21], 0, 0⟩,
      ⟨(some 23), .v (.iadr none 1 (.t 20) (.t 22)), none, [20, 22], 0, 0⟩,
      ⟨(some 24), .r (.ld 1 false (.t 23)), none, [23], 0, 0⟩,
      ⟨(some 25), .v (.bin .mul (.t 24) (.k (.int .u64 256))), none, [24], 0, 0⟩,
      ⟨(some 26), .v (.mv (.t 0)), none, [0], 0, 0⟩,
      ⟨(some 27), .v (.mv (.t 4)), none, [4], 0, 0⟩,
      ⟨(some 28), .v (.iadr none 1 (.t 26) (.t 27)), none, [26, 27], 0, 0⟩,
      ⟨(some 29), .r (.ld 1 false (.t 28)), none, [28], 0, 0⟩,
      ⟨(some 30), .v (.i2i .u64 (.t 29)), none, [29], 0, 0⟩,
      ⟨(some 31), .v (.bin .add (.t 25) (.t 30)), none, [25, 30], 0, 0⟩,
      ⟨(some 32), .v (.iadr none 1 (.t 17) (.t 19)), none, [17, 19], 0, 0⟩,
      ⟨none, .c (.st 1 (.t 32) (.t 31)), none, [32, 31], 0, 0⟩]))
   (.reg [iv 15 (.mv (.t 4)),
     iv 16 (.bin .sub (.t 15) (.k (.int .i64 1))),
     iv 4 (.mv (.t 16))]))
def C_avouchref01zOfBytes : AC := .seq (.reg [iv 2 (.mv (.k (.nsl)))])
 (.seq (.reg [iv 5 (.mv (.t 0)),
   iv 6 (.lenL (.t 5)),
   iv 7 (.bin .quo (.t 6) (.k (.int .i64 4))),
   iv 8 (.bin .add (.t 7) (.k (.int .i64 1))),
   ic 9 (.mk 1 [.int .u64 0] (.t 8)),
   iv 3 (.mv (.t 9))])
 (.seq (.seq (.reg [iv 10 (.mv (.t 0)),
   iv 11 (.lenL (.t 10)),
   iv 12 (.bin .sub (.t 11) (.k (.int .i64 1))),
   iv 4 (.mv (.t 12))])
 (.blk 0
  (.loop Ba_avouchref01zOfBytes)))
 (.seq (.reg [iv 33 (.mv (.t 3)),
   ir 34 (.call i_avouchref01zTrim [.t 33]),
   iv 2 (.mv (.t 34))])
 (.ret))))
def F_avouchref01zOfBytes : AFn := ⟨35, C_avouchref01zOfBytes, [.tmp 2]⟩
def C_field_prime : AC := .seq (.reg [ic 0 (.alloc (rep1 (.int .u64 0) 4))])
 (.seq (.reg [iv 1 (.build (rep1 (.int .u64 0) 4) [(0, 1, .k (.int .u64 4891460686036598785)), (1, 1, .k (.int .u64 2896914383306846353)), (2, 1, .k (.int .u64 13281191951274694749)), (3, 1, .k (.int .u64 3486998266802970665))]),
   jc (.st 4 (.t 0) (.t 1))])
 (.ret))
def F_field_prime : AFn := ⟨2, C_field_prime, [.cell 0 4 true]⟩
def Ba_limb_New : AC := .seq (.reg [iv 46 (.bin .lss (.t 45) (.k (.int .i64 6)))])
   (.seq (.cond (.t 46)
    (.skip)
    (.exit 0))
   (.seq (.blk 1
    (.reg [iv 47 (.mv (.t 5)),
      iv 48 (.mv (.t 0)),
      iv 49 (.iadr none 1 (.t 48) (.k (.int .i64 0))),
      ir 50 (.ld 1 false (.t 49)),
      iv 51 (.mv (.t 5)),
      iv 52 (.bin .mul (.t 50) (.t 51)),
      iv 53 (.bin .sub (.k (.int .u64 2)) (.t 52)),
      iv 54 (.bin .mul (.t 47) (.t 53)),
      iv 5 (.mv (.t 54))]))
   (.reg [iv 55 (.bin .add (.t 45) (.k (.int .i64 1))),
     iv 45 (.mv (.t 55))])))
def Bb_limb_New : AC := .seq (.reg [iv 76 (.bin .lss (.t 75) (.t 74))])
   (.seq (.cond (.t 76)
    (.skip)
    (.exit 2))
   (.seq (.blk 3
    (.reg [iv 77 (.mv (.t 4)),
      iv 78 (.mv (.t 4)),
      iv 79 (.mv (.t 4)),
      iv 80 (.nck (.t 79)),
      iv 81 (.fadr 2 (.t 80)),
      ir 82 (.ld 1 false (.t 81)),
      ir 83 (.call i_limb_Modulus_twice [.t 78, .t 82, .k (.int .u64 0)]),
      iv 84 (.nck (.t 77)),
      iv 85 (.fadr 2 (.t 84)),
      jc (.st 1 (.t 85) (.t 83))]))
   (.reg [iv 86 (.bin .add (.t 75) (.k (.int .i64 1))),
     iv 75 (.mv (.t 86))])))
def C_limb_New : AC := .seq (.reg [iv 2 (.mv (.k (.nilp))),
   iv 3 (.mv (.k (.int .i64 0)))])
 (.seq (.seq (.reg [iv 6 (.mv (.t 0)),
   iv 7 (.lenL (.t 6)),
   iv 8 (.bin .lss (.t 7) (.k (.int .i64 1))),
   iv 9 (.mv (.t 8)),
   ⟨(some 10), .v (.mv (.t 0)), (some (9, false)), [], 0, 0⟩,
   ⟨(some 11), .v (.lenL (.t 10)), (some (9, false)), [], 0, 0⟩,
   ⟨(some 12), .v (.bin .gtr (.t 11) (.k (.int .i64 16))), (some (9, false)), [], 0, 0⟩,
   iv 13 (.pick (.t 9) (.k (.bool true)) (.t 12)),
   iv 14 (.mv (.t 13)),
   ⟨(some 15), .v (.mv (.t 0)), (some (14, false)), [], 0, 0⟩,
   ⟨(some 16), .v (.iadr none 1 (.t 15) (.k (.int .i64 0))), (some (14, false)), [], 0, 0⟩,
   ⟨(some 17), .r (.ld 1 false (.t 16)), (some (14, false)), [], 0, 0⟩,
   ⟨(some 18), .v (.bin .and (.t 17) (.k (.int .u64 1))), (some (14, false)), [], 0, 0⟩,
   ⟨(some 19), .v (.bin .eql (.t 18) (.k (.int .u64 0))), (some (14, false)), [], 0, 0⟩,
   iv 20 (.pick (.t 14) (.k (.bool true)) (.t 19)),
   iv 21 (.mv (.t 20)),
   ⟨(some 22), .v (.mv (.t 0)), (some (21, false)), [], 0, 0⟩,
   ⟨(some 23), .v (.mv (.t 0)), (some (21, false)), [], 0, 0⟩,
   ⟨(some 24), .v (.lenL (.t 23)), (some (21, false)), [], 0, 0⟩,
   ⟨(some 25), .v (.bin .sub (.t 24) (.k (.int .i64 1))), (some (21, false)), [], 0, 0⟩,
   ⟨(some 26), .v (.iadr none 1 (.t 22) (.t 25)), (some (21, false)), [], 0, 0⟩,
   ⟨(some 27), .r (.ld 1 false (.t 26)), (some (21, false)), [], 0, 0⟩,
   ⟨(some 28), .v (.bin .eql (.t 27) (.k (.int .u64 0))), (some (21, false)), [], 0, 0⟩,
   iv 29 (.pick (.t 21) (.k (.bool true)) (.t 28)),
   iv 30 (.mv (.t 29)),
   ⟨(some 31), .v (.mv (.t 0)), (some (30, false)), [], 0, 0⟩,
   ⟨(some 32), .v (.lenL (.t 31)), (some (30, false)), [], 0, 0⟩,
   ⟨(some 33), .v (.bin .eql (.t 32) (.k (.int .i64 1))), (some (30, false)), [], 0, 0⟩,
   ⟨(some 34), .v (.mv (.t 33)), (some (30, false)), [], 0, 0⟩,
   ⟨(some 35), .v (.mv (.t 0)), (some (34, true)), [], 0, 0⟩,
   ⟨(some 36), .v (.iadr none 1 (.t 35) (.k (.int .i64 0))), (some (34, true)), [], 0, 0⟩,
   ⟨(some 37), .r (.ld 1 false (.t 36)), (some (34, true)), [], 0, 0⟩,
   ⟨(some 38), .v (.bin .eql (.t 37) (.k (.int .u64 1))), (some (34, true)), [], 0, 0⟩,
   ⟨(some 39), .v (.pick (.t 34) (.t 38) (.k (.bool false))), (some (30, false)), [], 0, 0⟩,
   iv 40 (.pick (.t 30) (.k (.bool true)) (.t 39))])
 (.cond (.t 40)
  (.seq (.reg [iv 2 (.mv (.k (.nilp))),
    iv 3 (.mv (.k (.int .i64 1)))])
  (.ret))
  (.skip)))
 (.seq (.reg [iv 41 (.mv (.t 0)),
   ir 42 (.call i_slices_Cloneuint64zuint64 [.t 41]),
   iv 43 (.build [.nsl, .int .u64 0, .nsl] [(0, 1, .t 42)]),
   ic 44 (.box (.t 43)),
   iv 4 (.mv (.t 44))])
 (.seq (.reg [iv 5 (.mv (.k (.int .u64 1)))])
 (.seq (.seq (.reg [iv 45 (.mv (.k (.int .i64 0)))])
 (.blk 0
  (.loop Ba_limb_New)))
 (.seq (.reg [iv 56 (.mv (.t 4)),
   iv 57 (.mv (.t 5)),
   iv 58 (.un .neg (.t 57)),
   iv 59 (.nck (.t 56)),
   iv 60 (.fadr 1 (.t 59)),
   jc (.st 1 (.t 60) (.t 58))])
 (.seq (.reg [iv 61 (.mv (.t 4)),
   iv 62 (.mv (.t 0)),
   iv 63 (.lenL (.t 62)),
   ic 64 (.mk 1 [.int .u64 0] (.t 63)),
   iv 65 (.nck (.t 61)),
   iv 66 (.fadr 2 (.t 65)),
   jc (.st 1 (.t 66) (.t 64))])
 (.seq (.reg [iv 67 (.mv (.t 4)),
   iv 68 (.nck (.t 67)),
   iv 69 (.fadr 2 (.t 68)),
   ir 70 (.ld 1 false (.t 69)),
   iv 71 (.iadr none 1 (.t 70) (.k (.int .i64 0))),
   jc (.st 1 (.t 71) (.k (.int .u64 1)))])
 (.seq (.seq (.reg [iv 72 (.mv (.t 0)),
   iv 73 (.lenL (.t 72)),
   iv 74 (.bin .mul (.k (.int .i64 128)) (.t 73)),
   iv 75 (.mv (.k (.int .i64 0)))])
 (.blk 2
  (.loop Bb_limb_New)))
 (.seq (.reg [iv 87 (.mv (.t 4)),
   iv 2 (.mv (.t 87)),
   iv 3 (.mv (.k (.int .i64 0)))])
 (.ret))))))))))
def F_limb_New : AFn := ⟨88, C_limb_New, [.tmp 2, .tmp 3]⟩
def Ba_field_enter : AC := .seq (.reg [iv 6 (.bin .lss (.t 5) (.k (.int .i64 512)))])
   (.seq (.cond (.t 6)
    (.skip)
    (.exit 0))
   (.seq (.blk 1
    (.reg [ir 7 (.ld 4 true (.t 3)),
      ir 8 (.ld 4 true (.t 3)),
      ir 9 (.call i_field_plus [.t 7, .t 8]),
      ir 10 (.call i_field_below [.t 9]),
      jc (.st 4 (.t 3) (.t 10))]))
   (.reg [iv 11 (.bin .add (.t 5) (.k (.int .i64 1))),
     iv 5 (.mv (.t 11))])))
def C_field_enter : AC := .seq (.reg [iv 1 (.boxv (.t 0)),
   ic 2 (.alloc (rep1 (.int .u64 0) 4))])
 (.seq (.reg [iv 4 (.build (rep1 (.int .u64 0) 4) [(0, 1, .k (.int .u64 1))]),
   ic 3 (.alloc (rep1 (.int .u64 0) 4)),
   jc (.st 4 (.t 3) (.t 4))])
 (.seq (.seq (.reg [iv 5 (.mv (.k (.int .i64 0)))])
 (.blk 0
  (.loop Ba_field_enter)))
 (.seq (.reg [ir 12 (.ld 4 true (.t 1)),
   ir 13 (.ld 4 true (.t 3)),
   ir 14 (.call i_field_product [.t 12, .t 13]),
   iv 15 (.build (rep1 (.int .u64 0) 4) [(0, 4, .t 14)]),
   jc (.st 4 (.t 2) (.t 15))])
 (.ret))))
def F_field_enter : AFn := ⟨16, C_field_enter, [.cell 2 4 true]⟩
def Ba_limb_Modulus_Reduce : AC := .seq (.seq (.reg [iv 16 (.mv (.t 6)),
     iv 17 (.bin .geq (.t 16) (.k (.int .i64 0)))])
   (.cond (.t 17)
    (.skip)
    (.exit 0)))
   (.seq (.blk 1
    (.reg [iv 20 (.mv (.t 0)),
      iv 21 (.mv (.t 5)),
      iv 22 (.mv (.t 1)),
      iv 23 (.mv (.t 6)),
      iv 24 (.bin .quo (.t 23) (.k (.int .i64 64))),
      iv 25 (.iadr none 1 (.t 22) (.t 24)),
      ir 26 (.ld 1 false (.t 25)),
      iv 27 (.mv (.t 6)),
      iv 28 (.bin .rem (.t 27) (.k (.int .i64 64))),
      iv 29 (.bin .shr (.t 26) (.t 28)),
      iv 30 (.bin .and (.t 29) (.k (.int .u64 1))),
      ir 31 (.call i_limb_Modulus_twice [.t 20, .t 21, .t 30]),
      iv 5 (.mv (.t 31))]))
   (.reg [iv 18 (.mv (.t 6)),
     iv 19 (.bin .sub (.t 18) (.k (.int .i64 1))),
     iv 6 (.mv (.t 19))]))
def C_limb_Modulus_Reduce : AC := .seq (.reg [iv 4 (.mv (.k (.nsl)))])
 (.seq (.reg [iv 7 (.mv (.t 0)),
   iv 8 (.nck (.t 7)),
   iv 9 (.fadr 0 (.t 8)),
   ir 10 (.ld 1 false (.t 9)),
   iv 11 (.lenL (.t 10)),
   ic 12 (.mk 1 [.int .u64 0] (.t 11)),
   iv 5 (.mv (.t 12))])
 (.seq (.seq (.reg [iv 13 (.mv (.t 1)),
   ir 14 (.call i_limb_Bits [.t 13]),
   iv 15 (.bin .sub (.t 14) (.k (.int .i64 1))),
   iv 6 (.mv (.t 15))])
 (.blk 0
  (.loop Ba_limb_Modulus_Reduce)))
 (.seq (.reg [iv 32 (.mv (.t 5)),
   iv 4 (.mv (.t 32))])
 (.ret))))
def F_limb_Modulus_Reduce : AFn := ⟨33, C_limb_Modulus_Reduce, [.tmp 4]⟩
def Ba_limb_Words : AC := .seq (.reg [iv 14 (.bin .lss (.t 13) (.t 12))])
   (.seq (.cond (.t 14)
    (.skip)
    (.exit 0))
   (.seq (.blk 1
    (.seq (.reg [iv 15 (.mv (.t 13)),
      iv 16 (.iadr none 1 (.t 11) (.t 13)),
      ir 17 (.ld 1 false (.t 16)),
      iv 4 (.mv (.t 15)),
      iv 5 (.mv (.t 17))])
    (.draw [⟨(some 18), .v (.mv (.t 3)), none, [3], 0, 0⟩,
      ⟨(some 19), .v (.mv (.t 4)), none, [4], 0, 0⟩,
      ⟨(some 20), .v (.bin .quo (.t 19) (.k (.int .i64 8))), none, [19], 0, 0⟩,
      ⟨(some 21), .v (.iadr none 1 (.t 18) (.t 20)), none, [18, 20], 0, 0⟩,
      ⟨(some 22), .r (.ld 1 false (.t 21)), none, [21], 0, 0⟩,
      ⟨(some 23), .v (.mv (.t 5)), none, [5], 0, 0⟩,
      ⟨(some 24), .v (.i2i .u64 (.t 23)), none, [23], 0, 0⟩,
      ⟨(some 25), .v (.mv (.t 4)), none, [4], 0, 0⟩,
      ⟨(some 26), .v (.bin .rem (.t 25) (.k (.int .i64 8))), none, [25], 0, 0⟩,
      ⟨(some 27), .v (.bin .mul (.k (.int .i64 8)) (.t 26)), none, [26], 0, 0⟩,
      ⟨(some 28), .v (.bin .shl (.t 24) (.t 27)), none, [24, 27], 0, 0⟩,
      ⟨(some 29), .v (.bin .or (.t 22) (.t 28)), none, [22, 28], 0, 0⟩,
      ⟨(some 30), .v (.iadr none 1 (.t 18) (.t 20)), none, [18, 20], 0, 0⟩,
      ⟨none, .c (.st 1 (.t 30) (.t 29)), none, [30, 29], 0, 0⟩])))
   (.reg [iv 31 (.bin .add (.t 13) (.k (.int .i64 1))),
     iv 13 (.mv (.t 31))])))
def C_limb_Words : AC := .seq (.reg [iv 2 (.mv (.k (.nsl)))])
 (.seq (.reg [iv 6 (.mv (.t 0)),
   iv 7 (.lenL (.t 6)),
   iv 8 (.bin .add (.t 7) (.k (.int .i64 7))),
   iv 9 (.bin .quo (.t 8) (.k (.int .i64 8))),
   ic 10 (.mk 1 [.int .u64 0] (.t 9)),
   iv 3 (.mv (.t 10))])
 (.seq (.seq (.reg [iv 11 (.mv (.t 0)),
   iv 12 (.lenL (.t 11)),
   iv 13 (.mv (.k (.int .i64 0)))])
 (.blk 0
  (.loop Ba_limb_Words)))
 (.seq (.reg [iv 32 (.mv (.t 3)),
   iv 2 (.mv (.t 32))])
 (.ret))))
def F_limb_Words : AFn := ⟨33, C_limb_Words, [.tmp 2]⟩
def C_field_Element_Square : AC := .seq (.reg [iv 1 (.boxv (.t 0)),
   ic 2 (.alloc (rep1 (.int .u64 0) 4))])
 (.seq (.reg [ir 3 (.ld 4 true (.t 1)),
   ir 4 (.ld 4 true (.t 1)),
   ir 5 (.call i_field_Element_Mul [.t 3, .t 4]),
   jc (.st 4 (.t 2) (.t 5))])
 (.ret))
def F_field_Element_Square : AFn := ⟨6, C_field_Element_Square, [.cell 2 4 true]⟩
def C_field_Element_Mul : AC := .seq (.reg [iv 2 (.boxv (.t 0)),
   iv 3 (.boxv (.t 1)),
   ic 4 (.alloc (rep1 (.int .u64 0) 4))])
 (.seq (.reg [iv 5 (.fadr 0 (.t 2)),
   ir 6 (.ld 4 true (.t 5)),
   iv 7 (.fadr 0 (.t 3)),
   ir 8 (.ld 4 true (.t 7)),
   ir 9 (.call i_field_product [.t 6, .t 8]),
   iv 10 (.build (rep1 (.int .u64 0) 4) [(0, 4, .t 9)]),
   jc (.st 4 (.t 4) (.t 10))])
 (.ret))
def F_field_Element_Mul : AFn := ⟨11, C_field_Element_Mul, [.cell 4 4 true]⟩
def Ba_limb_Bits : AC := .seq (.seq (.reg [iv 7 (.mv (.t 3)),
     iv 8 (.bin .geq (.t 7) (.k (.int .i64 0)))])
   (.cond (.t 8)
    (.skip)
    (.exit 0)))
   (.seq (.blk 1
    (.seq (.reg [iv 11 (.mv (.t 0)),
      iv 12 (.mv (.t 3)),
      iv 13 (.iadr none 1 (.t 11) (.t 12)),
      ir 14 (.ld 1 false (.t 13)),
      iv 15 (.bin .neq (.t 14) (.k (.int .u64 0)))])
    (.cond (.t 15)
     (.seq (.reg [iv 16 (.mv (.t 3)),
       iv 17 (.bin .mul (.k (.int .i64 64)) (.t 16)),
       iv 18 (.mv (.t 0)),
       iv 19 (.mv (.t 3)),
       iv 20 (.iadr none 1 (.t 18) (.t 19)),
       ir 21 (.ld 1 false (.t 20)),
       ir 22 (.call i_math_bits_Len64 [.t 21]),
       iv 23 (.bin .add (.t 17) (.t 22)),
       iv 2 (.mv (.t 23))])
     (.ret))
     (.skip))))
   (.reg [iv 9 (.mv (.t 3)),
     iv 10 (.bin .sub (.t 9) (.k (.int .i64 1))),
     iv 3 (.mv (.t 10))]))
def C_limb_Bits : AC := .seq (.reg [iv 2 (.mv (.k (.int .i64 0)))])
 (.seq (.seq (.reg [iv 4 (.mv (.t 0)),
   iv 5 (.lenL (.t 4)),
   iv 6 (.bin .sub (.t 5) (.k (.int .i64 1))),
   iv 3 (.mv (.t 6))])
 (.blk 0
  (.loop Ba_limb_Bits)))
 (.seq (.reg [iv 2 (.mv (.k (.int .i64 0)))])
 (.ret)))
def F_limb_Bits : AFn := ⟨24, C_limb_Bits, [.tmp 2]⟩
def C_field_below : AC := .seq (.reg [iv 1 (.boxv (.t 0)),
   ic 2 (.alloc (rep1 (.int .u64 0) 4))])
 (.seq (.seq (.draw [⟨(some 6), .r (.ld 4 true (.t 1)), none, [1], 0, 1⟩,
   ⟨(some 7), .r (.call i_field_prime []), none, [], 0, 1⟩,
   ⟨(some 8), .r (.call i_field_borrow [.t 6, .t 7]), none, [6, 7], 0, 1⟩,
   ⟨(some 5), .v (.mv (.t 8)), none, [8], 0, 0⟩,
   ⟨(some 9), .v (.ext (.t 5) 0), none, [5], 0, 0⟩,
   ⟨(some 10), .v (.ext (.t 5) 1), none, [5], 0, 0⟩,
   ic 3 (.alloc (rep1 (.int .u64 0) 4)),
   ⟨none, .c (.st 4 (.t 3) (.t 9)), none, [3, 9], 0, 0⟩,
   ⟨(some 4), .v (.mv (.t 10)), none, [10], 0, 0⟩])
 (.seq (.reg [iv 11 (.mv (.t 4)),
   iv 12 (.bin .eql (.t 11) (.k (.int .u64 0)))])
 (.cond (.t 12)
  (.seq (.reg [ir 13 (.ld 4 true (.t 3)),
    jc (.st 4 (.t 2) (.t 13))])
  (.ret))
  (.skip))))
 (.seq (.reg [ir 14 (.ld 4 true (.t 1)),
   jc (.st 4 (.t 2) (.t 14))])
 (.ret)))
def F_field_below : AFn := ⟨15, C_field_below, [.cell 2 4 true]⟩
def Ba_field_plus : AC := .seq (.reg [iv 8 (.bin .lss (.t 7) (.k (.int .i64 4)))])
   (.seq (.cond (.t 8)
    (.skip)
    (.exit 0))
   (.seq (.blk 1
    (.seq (.reg [iv 9 (.mv (.t 7)),
      iv 6 (.mv (.t 9))])
    (.draw [⟨(some 11), .v (.mv (.t 6)), none, [6], 0, 0⟩,
      ⟨(some 12), .v (.mv (.t 6)), none, [6], 0, 0⟩,
      ⟨(some 13), .v (.iadr (some 4) 1 (.t 2) (.t 12)), none, [2, 12], 0, 0⟩,
      ⟨(some 14), .r (.ld 1 false (.t 13)), none, [13], 0, 0⟩,
      ⟨(some 15), .v (.mv (.t 6)), none, [6], 0, 0⟩,
      ⟨(some 16), .v (.iadr (some 4) 1 (.t 3) (.t 15)), none, [3, 15], 0, 0⟩,
      ⟨(some 17), .r (.ld 1 false (.t 16)), none, [16], 0, 0⟩,
      ⟨(some 18), .v (.mv (.t 5)), none, [5], 0, 0⟩,
      ⟨(some 19), .c (.call i_math_bits_Add64 [.t 14, .t 17, .t 18]), none, [14, 17, 18], 0, 0⟩,
      ⟨(some 10), .v (.mv (.t 19)), none, [19], 0, 0⟩,
      ⟨(some 20), .v (.ext (.t 10) 0), none, [10], 0, 0⟩,
      ⟨(some 21), .v (.ext (.t 10) 1), none, [10], 0, 0⟩,
      ⟨(some 22), .v (.iadr (some 4) 1 (.t 4) (.t 11)), none, [4, 11], 0, 0⟩,
      ⟨none, .c (.st 1 (.t 22) (.t 20)), none, [22, 20], 0, 0⟩,
      ⟨(some 5), .v (.mv (.t 21)), none, [21], 0, 0⟩])))
   (.reg [iv 23 (.bin .add (.t 7) (.k (.int .i64 1))),
     iv 7 (.mv (.t 23))])))
def C_field_plus : AC := .seq (.reg [iv 2 (.boxv (.t 0)),
   iv 3 (.boxv (.t 1)),
   ic 4 (.alloc (rep1 (.int .u64 0) 4))])
 (.seq (.reg [iv 5 (.mv (.k (.int .u64 0)))])
 (.seq (.seq (.reg [iv 7 (.mv (.k (.int .i64 0)))])
 (.blk 0
  (.loop Ba_field_plus)))
 (.seq (.reg [ir 24 (.ld 4 true (.t 4)),
   jc (.st 4 (.t 4) (.t 24))])
 (.ret))))
def F_field_plus : AFn := ⟨25, C_field_plus, [.cell 4 4 true]⟩
def Ba_matrix_build : AC := .seq (.reg [iv 9 (.bin .lss (.t 8) (.k (.int .i64 3)))])
      (.seq (.cond (.t 9)
       (.skip)
       (.exit 2))
      (.seq (.blk 3
       (.seq (.reg [iv 10 (.mv (.t 8)),
         iv 4 (.mv (.t 10))])
       (.draw [⟨(some 11), .v (.mv (.t 3)), none, [3], 0, 0⟩,
         ⟨(some 12), .v (.mv (.t 4)), none, [4], 0, 0⟩,
         ⟨(some 13), .v (.mv (.t 0)), none, [0], 0, 0⟩,
         ⟨(some 14), .v (.mv (.t 3)), none, [3], 0, 0⟩,
         ⟨(some 15), .v (.mv (.t 4)), none, [4], 0, 0⟩,
         ⟨(some 16), .c (.callv (.t 13) [.t 14, .t 15]), none, [13, 14, 15], 0, 0⟩,
         ⟨(some 17), .v (.iadr (some 3) 12 (.t 2) (.t 11)), none, [2, 11], 0, 0⟩,
         ⟨(some 18), .v (.iadr (some 3) 4 (.t 17) (.t 12)), none, [17, 12], 0, 0⟩,
         ⟨none, .c (.st 4 (.t 18) (.t 16)), none, [18, 16], 0, 0⟩])))
      (.reg [iv 19 (.bin .add (.t 8) (.k (.int .i64 1))),
        iv 8 (.mv (.t 19))])))
def Bb_matrix_build : AC := .seq (.reg [iv 6 (.bin .lss (.t 5) (.k (.int .i64 3)))])
   (.seq (.cond (.t 6)
    (.skip)
    (.exit 0))
   (.seq (.blk 1
    (.seq (.reg [iv 7 (.mv (.t 5)),
      iv 3 (.mv (.t 7))])
    (.seq (.reg [iv 8 (.mv (.k (.int .i64 0)))])
    (.blk 2
     (.loop Ba_matrix_build)))))
   (.reg [iv 20 (.bin .add (.t 5) (.k (.int .i64 1))),
     iv 5 (.mv (.t 20))])))
def C_matrix_build : AC := .seq (.reg [ic 2 (.alloc (rep1 (.int .u64 0) 36))])
 (.seq (.seq (.reg [iv 5 (.mv (.k (.int .i64 0)))])
 (.blk 0
  (.loop Bb_matrix_build)))
 (.seq (.reg [ir 21 (.ld 36 true (.t 2)),
   jc (.st 36 (.t 2) (.t 21))])
 (.ret)))
def F_matrix_build : AFn := ⟨22, C_matrix_build, [.cell 2 36 true]⟩
def C_matrix_Cauchy_1 : AC := .seq (.reg [ic 4 (.alloc (rep1 (.int .u64 0) 4))])
 (.seq (.reg [iv 5 (.mv (.t 0)),
   iv 6 (.mv (.t 1)),
   iv 7 (.bin .add (.t 5) (.t 6)),
   iv 8 (.bin .add (.t 7) (.k (.int .i64 3))),
   iv 9 (.i2i .u64 (.t 8)),
   ir 10 (.call i_field_FromUint64 [.t 9]),
   ir 11 (.call i_field_Element_Inverse [.t 10]),
   jc (.st 4 (.t 4) (.t 11))])
 (.ret))
def F_matrix_Cauchy_1 : AFn := ⟨12, C_matrix_Cauchy_1, [.cell 4 4 true]⟩
def C_field_Element_Inverse : AC := .seq (.reg [iv 1 (.boxv (.t 0)),
   ic 2 (.alloc (rep1 (.int .u64 0) 4))])
 (.seq (.reg [ir 4 (.call i_field_prime []),
   ic 3 (.alloc (rep1 (.int .u64 0) 4)),
   jc (.st 4 (.t 3) (.t 4))])
 (.seq (.reg [iv 5 (.iadr (some 4) 1 (.t 3) (.k (.int .i64 0))),
   ir 6 (.ld 1 false (.t 5)),
   iv 7 (.bin .sub (.t 6) (.k (.int .u64 2))),
   iv 8 (.iadr (some 4) 1 (.t 3) (.k (.int .i64 0))),
   jc (.st 1 (.t 8) (.t 7))])
 (.seq (.draw [⟨(some 9), .r (.ld 4 true (.t 1)), none, [1], 0, 0⟩,
   ⟨(some 10), .v (.slice (.arr 4) 1 (.t 3) none none none), none, [3], 0, 0⟩,
   ⟨(some 11), .r (.call i_field_Element_Exp [.t 9, .t 10]), none, [9, 10], 0, 0⟩,
   ⟨none, .c (.st 4 (.t 2) (.t 11)), none, [2, 11], 0, 0⟩])
 (.ret))))
def F_field_Element_Inverse : AFn := ⟨12, C_field_Element_Inverse, [.cell 2 4 true]⟩
def C_matrix_Vector_dot : AC := .seq (.reg [iv 2 (.boxv (.t 0)),
   iv 3 (.boxv (.t 1)),
   ic 4 (.alloc (rep1 (.int .u64 0) 4))])
 (.seq (.draw [⟨(some 5), .v (.iadr (some 3) 4 (.t 2) (.k (.int .i64 0))), none, [2], 0, 0⟩,
   ⟨(some 6), .r (.ld 4 true (.t 5)), none, [5], 0, 0⟩,
   ⟨(some 7), .v (.iadr (some 3) 4 (.t 3) (.k (.int .i64 0))), none, [3], 0, 0⟩,
   ⟨(some 8), .r (.ld 4 true (.t 7)), none, [7], 0, 0⟩,
   ⟨(some 9), .r (.call i_field_Element_Mul [.t 6, .t 8]), none, [6, 8], 0, 0⟩,
   ⟨(some 10), .v (.iadr (some 3) 4 (.t 2) (.k (.int .i64 1))), none, [2], 0, 0⟩,
   ⟨(some 11), .r (.ld 4 true (.t 10)), none, [10], 0, 0⟩,
   ⟨(some 12), .v (.iadr (some 3) 4 (.t 3) (.k (.int .i64 1))), none, [3], 0, 0⟩,
   ⟨(some 13), .r (.ld 4 true (.t 12)), none, [12], 0, 0⟩,
   ⟨(some 14), .r (.call i_field_Element_Mul [.t 11, .t 13]), none, [11, 13], 0, 0⟩,
   ⟨(some 15), .v (.iadr (some 3) 4 (.t 2) (.k (.int .i64 2))), none, [2], 0, 0⟩,
   ⟨(some 16), .r (.ld 4 true (.t 15)), none, [15], 0, 0⟩,
   ⟨(some 17), .v (.iadr (some 3) 4 (.t 3) (.k (.int .i64 2))), none, [3], 0, 0⟩,
   ⟨(some 18), .r (.ld 4 true (.t 17)), none, [17], 0, 0⟩,
   ⟨(some 19), .r (.call i_field_Element_Mul [.t 16, .t 18]), none, [16, 18], 0, 0⟩,
   ⟨(some 20), .v (.slit 4 3 (rep1 (.int .u64 0) 4) [(0, .t 9), (1, .t 14), (2, .t 19)]), none, [9, 14, 19], 0, 0⟩,
   ⟨(some 21), .r (.call i_field_Sum [.t 20]), none, [20], 0, 0⟩,
   ⟨none, .c (.st 4 (.t 4) (.t 21)), none, [4, 21], 0, 0⟩])
 (.ret))
def F_matrix_Vector_dot : AFn := ⟨22, C_matrix_Vector_dot, [.cell 4 4 true]⟩
def C_avouchref08zin : AC := .seq (.reg [iv 6 (.mv (.k (.bool false)))])
 (.seq (.reg [iv 7 (.mv (.t 0)),
   iv 8 (.mv (.t 1)),
   iv 9 (.bin .geq (.t 7) (.t 8)),
   iv 10 (.mv (.t 9)),
   ⟨(some 11), .v (.mv (.t 0)), (some (10, true)), [], 0, 0⟩,
   ⟨(some 12), .v (.mv (.t 2)), (some (10, true)), [], 0, 0⟩,
   ⟨(some 13), .v (.bin .leq (.t 11) (.t 12)), (some (10, true)), [], 0, 0⟩,
   iv 14 (.pick (.t 10) (.t 13) (.k (.bool false))),
   iv 6 (.mv (.t 14))])
 (.ret))
def F_avouchref08zin : AFn := ⟨15, C_avouchref08zin, [.tmp 6]⟩
def Ba_avouchref08zlay : AC := .seq (.seq (.reg [iv 17 (.mv (.t 9)),
        iv 18 (.mv (.t 7)),
        iv 19 (.bin .lss (.t 17) (.t 18))])
      (.cond (.t 19)
       (.skip)
       (.exit 2)))
      (.seq (.blk 3
       (.reg [iv 22 (.mv (.t 8)),
         iv 23 (.bin .quo (.t 22) (.k (.int .i64 2))),
         iv 8 (.mv (.t 23))]))
      (.reg [iv 20 (.mv (.t 9)),
        iv 21 (.bin .add (.t 20) (.k (.int .i64 1))),
        iv 9 (.mv (.t 21))]))
def Bb_avouchref08zlay : AC := .seq (.seq (.reg [iv 12 (.mv (.t 7)),
     iv 13 (.bin .geq (.t 12) (.k (.int .i64 0)))])
   (.cond (.t 13)
    (.skip)
    (.exit 0)))
   (.seq (.blk 1
    (.seq (.reg [iv 16 (.mv (.t 1)),
      iv 8 (.mv (.t 16))])
    (.seq (.seq (.reg [iv 9 (.mv (.k (.int .i64 0)))])
    (.blk 2
     (.loop Ba_avouchref08zlay)))
    (.reg [iv 24 (.mv (.t 0)),
      iv 25 (.mv (.t 8)),
      iv 26 (.bin .rem (.t 25) (.k (.int .i64 2))),
      iv 27 (.bin .eql (.t 26) (.k (.int .i64 1))),
      iv 28 (.slit 1 1 [.bool false] [(0, .t 27)]),
      ic 29 (.app 1 false (.t 24) (.t 28)),
      iv 0 (.mv (.t 29))]))))
   (.reg [iv 14 (.mv (.t 7)),
     iv 15 (.bin .sub (.t 14) (.k (.int .i64 1))),
     iv 7 (.mv (.t 15))]))
def C_avouchref08zlay : AC := .seq (.reg [iv 6 (.mv (.k (.nsl)))])
 (.seq (.seq (.reg [iv 10 (.mv (.t 2)),
   iv 11 (.bin .sub (.t 10) (.k (.int .i64 1))),
   iv 7 (.mv (.t 11))])
 (.blk 0
  (.loop Bb_avouchref08zlay)))
 (.seq (.reg [iv 30 (.mv (.t 0)),
   iv 6 (.mv (.t 30))])
 (.ret)))
def F_avouchref08zlay : AFn := ⟨31, C_avouchref08zlay, [.tmp 6]⟩
def Ba_avouchref08zTurn : AC := .seq (.reg [iv 11 (.bin .lss (.t 10) (.t 9))])
   (.seq (.cond (.t 11)
    (.skip)
    (.exit 0))
   (.seq (.blk 1
    (.seq (.reg [iv 12 (.iadr none 1 (.t 8) (.t 10)),
      ir 13 (.ld 1 false (.t 12)),
      iv 6 (.mv (.t 13))])
    (.seq (.reg [iv 14 (.mv (.t 6)),
      iv 15 (.iadr (some 80) 1 (.t 1) (.t 14)),
      ir 16 (.ld 1 false (.t 15))])
    (.cond (.t 16)
     (.reg [iv 17 (.mv (.t 4)),
       iv 18 (.bin .add (.t 17) (.k (.int .i64 1))),
       iv 4 (.mv (.t 18))])
     (.skip)))))
   (.reg [iv 19 (.bin .add (.t 10) (.k (.int .i64 1))),
     iv 10 (.mv (.t 19))])))
def Bb_avouchref08zTurn : AC := .seq (.seq (.reg [iv 20 (.mv (.t 7)),
     iv 21 (.bin .lss (.t 20) (.k (.int .i64 79)))])
   (.cond (.t 21)
    (.skip)
    (.exit 2)))
   (.seq (.blk 3
    (.reg [iv 24 (.mv (.t 7)),
      iv 25 (.mv (.t 7)),
      iv 26 (.bin .add (.t 25) (.k (.int .i64 1))),
      iv 27 (.iadr (some 80) 1 (.t 1) (.t 26)),
      ir 28 (.ld 1 false (.t 27)),
      iv 29 (.iadr (some 80) 1 (.t 1) (.t 24)),
      jc (.st 1 (.t 29) (.t 28))]))
   (.reg [iv 22 (.mv (.t 7)),
     iv 23 (.bin .add (.t 22) (.k (.int .i64 1))),
     iv 7 (.mv (.t 23))]))
def C_avouchref08zTurn : AC := .seq (.reg [ic 1 (.box (.t 0)),
   ic 2 (.alloc (rep1 (.bool false) 80)),
   iv 3 (.mv (.k (.bool false)))])
 (.seq (.reg [iv 4 (.mv (.k (.int .i64 0)))])
 (.seq (.seq (.reg [iv 8 (.slit 1 6 [.int .i64 0] [(0, .k (.int .i64 62)), (1, .k (.int .i64 51)), (2, .k (.int .i64 38)), (3, .k (.int .i64 23)), (4, .k (.int .i64 13)), (5, .k (.int .i64 0))]),
   iv 9 (.lenL (.t 8)),
   iv 10 (.mv (.k (.int .i64 0)))])
 (.blk 0
  (.loop Ba_avouchref08zTurn)))
 (.seq (.seq (.reg [iv 7 (.mv (.k (.int .i64 0)))])
 (.blk 2
  (.loop Bb_avouchref08zTurn)))
 (.seq (.reg [iv 30 (.mv (.t 4)),
   iv 31 (.bin .rem (.t 30) (.k (.int .i64 2))),
   iv 32 (.bin .eql (.t 31) (.k (.int .i64 1))),
   iv 33 (.iadr (some 80) 1 (.t 1) (.k (.int .i64 79))),
   jc (.st 1 (.t 33) (.t 32))])
 (.seq (.reg [ir 34 (.ld 80 true (.t 1)),
   iv 35 (.mv (.t 4)),
   iv 36 (.bin .rem (.t 35) (.k (.int .i64 2))),
   iv 37 (.bin .eql (.t 36) (.k (.int .i64 1))),
   jc (.st 80 (.t 2) (.t 34)),
   iv 3 (.mv (.t 37))])
 (.ret))))))
def F_avouchref08zTurn : AFn := ⟨38, C_avouchref08zTurn, [.cell 2 80 true, .tmp 3]⟩
def C_avouchref02zInverse : AC := .seq (.reg [iv 2 (.mv (.k (.nsl)))])
 (.seq (.reg [iv 3 (.mv (.t 0)),
   ir 4 (.call i_avouchref02zP []),
   iv 5 (.slit 1 1 [.int .u64 0] [(0, .k (.int .u64 2))]),
   ir 6 (.call i_avouchref01zSub [.t 4, .t 5]),
   ir 7 (.call i_avouchref02zExp [.t 3, .t 6]),
   iv 2 (.mv (.t 7))])
 (.ret))
def F_avouchref02zInverse : AFn := ⟨8, C_avouchref02zInverse, [.tmp 2]⟩
def Ba_avouchref08zBit : AC := .blk 1
    (.seq (.reg [ir 9 (.ld 80 true (.t 1)),
      ir 10 (.call i_avouchref08zTurn [.t 9]),
      iv 8 (.mv (.t 10)),
      iv 11 (.ext (.t 8) 0),
      iv 12 (.ext (.t 8) 1),
      ic 4 (.alloc (rep1 (.bool false) 80)),
      jc (.st 80 (.t 4) (.t 11)),
      iv 5 (.mv (.t 12))])
    (.seq (.reg [ir 14 (.ld 80 true (.t 4)),
      ir 15 (.call i_avouchref08zTurn [.t 14]),
      iv 13 (.mv (.t 15)),
      iv 16 (.ext (.t 13) 0),
      iv 17 (.ext (.t 13) 1),
      ic 6 (.alloc (rep1 (.bool false) 80)),
      jc (.st 80 (.t 6) (.t 16)),
      iv 7 (.mv (.t 17))])
    (.seq (.reg [ir 18 (.ld 80 true (.t 6)),
      jc (.st 80 (.t 1) (.t 18))])
    (.seq (.reg [iv 19 (.mv (.t 5))])
    (.cond (.t 19)
     (.seq (.reg [ir 20 (.ld 80 true (.t 1)),
       iv 21 (.mv (.t 7)),
       jc (.st 80 (.t 2) (.t 20)),
       iv 3 (.mv (.t 21))])
     (.ret))
     (.skip))))))
def C_avouchref08zBit : AC := .seq (.reg [ic 1 (.box (.t 0)),
   ic 2 (.alloc (rep1 (.bool false) 80)),
   iv 3 (.mv (.k (.bool false)))])
 (.blk 0
  (.loop Ba_avouchref08zBit))
def F_avouchref08zBit : AFn := ⟨22, C_avouchref08zBit, [.cell 2 80 true, .tmp 3]⟩
def Ba_avouchref01zCmp : AC := .seq (.seq (.reg [iv 11 (.mv (.t 5)),
     iv 12 (.bin .geq (.t 11) (.k (.int .i64 0)))])
   (.cond (.t 12)
    (.skip)
    (.exit 0)))
   (.seq (.blk 1
    (.seq (.seq (.reg [iv 15 (.mv (.t 0)),
      iv 16 (.mv (.t 5)),
      ir 17 (.call i_avouchref01zget [.t 15, .t 16]),
      iv 18 (.mv (.t 1)),
      iv 19 (.mv (.t 5)),
      ir 20 (.call i_avouchref01zget [.t 18, .t 19]),
      iv 21 (.bin .lss (.t 17) (.t 20))])
    (.cond (.t 21)
     (.seq (.reg [iv 4 (.mv (.k (.int .i64 (-1))))])
     (.ret))
     (.skip)))
    (.seq (.reg [iv 22 (.mv (.t 0)),
      iv 23 (.mv (.t 5)),
      ir 24 (.call i_avouchref01zget [.t 22, .t 23]),
      iv 25 (.mv (.t 1)),
      iv 26 (.mv (.t 5)),
      ir 27 (.call i_avouchref01zget [.t 25, .t 26]),
      iv 28 (.bin .gtr (.t 24) (.t 27))])
    (.cond (.t 28)
     (.seq (.reg [iv 4 (.mv (.k (.int .i64 1)))])
     (.ret))
     (.skip)))))
   (.reg [iv 13 (.mv (.t 5)),
     iv 14 (.bin .sub (.t 13) (.k (.int .i64 1))),
     iv 5 (.mv (.t 14))]))
def C_avouchref01zCmp : AC := .seq (.reg [iv 4 (.mv (.k (.int .i64 0)))])
 (.seq (.seq (.reg [iv 6 (.mv (.t 0)),
   iv 7 (.lenL (.t 6)),
   iv 8 (.mv (.t 1)),
   iv 9 (.lenL (.t 8)),
   iv 10 (.bin .add (.t 7) (.t 9)),
   iv 5 (.mv (.t 10))])
 (.blk 0
  (.loop Ba_avouchref01zCmp)))
 (.seq (.reg [iv 4 (.mv (.k (.int .i64 0)))])
 (.ret)))
def F_avouchref01zCmp : AFn := ⟨29, C_avouchref01zCmp, [.tmp 4]⟩
def C_avouchref02zP : AC := .seq (.reg [iv 0 (.mv (.k (.nsl)))])
 (.seq (.reg [iv 1 (.slit 1 8 [.int .u64 0] [(0, .k (.int .u64 4026531841)), (1, .k (.int .u64 1138881939)), (2, .k (.int .u64 2042196113)), (3, .k (.int .u64 674490440)), (4, .k (.int .u64 2172737629)), (5, .k (.int .u64 3092268470)), (6, .k (.int .u64 3778125865)), (7, .k (.int .u64 811880050))]),
   iv 0 (.mv (.t 1))])
 (.ret))
def F_avouchref02zP : AFn := ⟨2, C_avouchref02zP, [.tmp 0]⟩
def Ba_avouchref01zTrim : AC := .seq (.seq (.reg [iv 6 (.mv (.t 3)),
     iv 7 (.bin .gtr (.t 6) (.k (.int .i64 0))),
     iv 8 (.mv (.t 7)),
     ⟨(some 9), .v (.mv (.t 0)), (some (8, true)), [], 0, 0⟩,
     ⟨(some 10), .v (.mv (.t 3)), (some (8, true)), [], 0, 0⟩,
     ⟨(some 11), .v (.bin .sub (.t 10) (.k (.int .i64 1))), (some (8, true)), [], 0, 0⟩,
     ⟨(some 12), .v (.iadr none 1 (.t 9) (.t 11)), (some (8, true)), [], 0, 0⟩,
     ⟨(some 13), .r (.ld 1 false (.t 12)), (some (8, true)), [], 0, 0⟩,
     ⟨(some 14), .v (.bin .eql (.t 13) (.k (.int .u64 0))), (some (8, true)), [], 0, 0⟩,
     iv 15 (.pick (.t 8) (.t 14) (.k (.bool false)))])
   (.cond (.t 15)
    (.skip)
    (.exit 0)))
   (.blk 1
    (.reg [iv 16 (.mv (.t 3)),
      iv 17 (.bin .sub (.t 16) (.k (.int .i64 1))),
      iv 3 (.mv (.t 17))]))
def C_avouchref01zTrim : AC := .seq (.reg [iv 2 (.mv (.k (.nsl)))])
 (.seq (.reg [iv 4 (.mv (.t 0)),
   iv 5 (.lenL (.t 4)),
   iv 3 (.mv (.t 5))])
 (.seq (.blk 0
  (.loop Ba_avouchref01zTrim))
 (.seq (.reg [iv 18 (.mv (.t 0)),
   iv 19 (.mv (.t 3)),
   iv 20 (.slice .slc 1 (.t 18) none (some (.t 19)) none),
   iv 2 (.mv (.t 20))])
 (.ret))))
def F_avouchref01zTrim : AFn := ⟨21, C_avouchref01zTrim, [.tmp 2]⟩
def Ba_grain_New : AC := .seq (.reg [iv 65 (.bin .lss (.t 64) (.k (.int .i64 160)))])
   (.seq (.cond (.t 65)
    (.skip)
    (.exit 0))
   (.seq (.blk 1
    (.reg [ir 66 (.ld 1 false (.t 10)),
      ic 67 (.call i_grain_Source_turn [.t 66])]))
   (.reg [iv 68 (.bin .add (.t 64) (.k (.int .i64 1))),
     iv 64 (.mv (.t 68))])))
def C_grain_New : AC := .seq (.reg [iv 8 (.mv (.k (.nilp))),
   iv 9 (.mv (.k (.int .i64 0)))])
 (.seq (.seq (.reg [iv 13 (.mv (.t 0)),
   iv 14 (.bin .lss (.t 13) (.k (.int .i64 1))),
   iv 15 (.mv (.t 14)),
   ⟨(some 16), .v (.mv (.t 0)), (some (15, false)), [], 0, 0⟩,
   ⟨(some 17), .v (.bin .gtr (.t 16) (.k (.int .i64 4095))), (some (15, false)), [], 0, 0⟩,
   iv 18 (.pick (.t 15) (.k (.bool true)) (.t 17)),
   iv 19 (.mv (.t 18)),
   ⟨(some 20), .v (.mv (.t 1)), (some (19, false)), [], 0, 0⟩,
   ⟨(some 21), .v (.bin .lss (.t 20) (.k (.int .i64 1))), (some (19, false)), [], 0, 0⟩,
   iv 22 (.pick (.t 19) (.k (.bool true)) (.t 21)),
   iv 23 (.mv (.t 22)),
   ⟨(some 24), .v (.mv (.t 1)), (some (23, false)), [], 0, 0⟩,
   ⟨(some 25), .v (.bin .gtr (.t 24) (.k (.int .i64 4095))), (some (23, false)), [], 0, 0⟩,
   iv 26 (.pick (.t 23) (.k (.bool true)) (.t 25)),
   iv 27 (.mv (.t 26)),
   ⟨(some 28), .v (.mv (.t 2)), (some (27, false)), [], 0, 0⟩,
   ⟨(some 29), .v (.bin .lss (.t 28) (.k (.int .i64 0))), (some (27, false)), [], 0, 0⟩,
   iv 30 (.pick (.t 27) (.k (.bool true)) (.t 29)),
   iv 31 (.mv (.t 30)),
   ⟨(some 32), .v (.mv (.t 2)), (some (31, false)), [], 0, 0⟩,
   ⟨(some 33), .v (.bin .gtr (.t 32) (.k (.int .i64 1023))), (some (31, false)), [], 0, 0⟩,
   iv 34 (.pick (.t 31) (.k (.bool true)) (.t 33)),
   iv 35 (.mv (.t 34)),
   ⟨(some 36), .v (.mv (.t 3)), (some (35, false)), [], 0, 0⟩,
   ⟨(some 37), .v (.bin .lss (.t 36) (.k (.int .i64 0))), (some (35, false)), [], 0, 0⟩,
   iv 38 (.pick (.t 35) (.k (.bool true)) (.t 37)),
   iv 39 (.mv (.t 38)),
   ⟨(some 40), .v (.mv (.t 3)), (some (39, false)), [], 0, 0⟩,
   ⟨(some 41), .v (.bin .gtr (.t 40) (.k (.int .i64 1023))), (some (39, false)), [], 0, 0⟩,
   iv 42 (.pick (.t 39) (.k (.bool true)) (.t 41))])
 (.cond (.t 42)
  (.seq (.reg [iv 8 (.mv (.k (.nilp))),
    iv 9 (.mv (.k (.int .i64 1)))])
  (.ret))
  (.skip)))
 (.seq (.reg [iv 43 (.build [.bool false, .bool false, .bool false, .bool false, .bool false, .bool false, .bool false, .bool false, .bool false, .bool false, .bool false, .bool false, .bool false, .bool false, .bool false, .bool false, .bool false, .bool false, .bool false, .bool false, .bool false, .bool false, .bool false, .bool false, .bool false, .bool false, .bool false, .bool false, .bool false, .bool false, .bool false, .bool false, .bool false, .bool false, .bool false, .bool false, .bool false, .bool false, .bool false, .bool false, .bool false, .bool false, .bool false, .bool false, .bool false, .bool false, .bool false, .bool false, .bool false, .bool false, .bool false, .bool false, .bool false, .bool false, .bool false, .bool false, .bool false, .bool false, .bool false, .bool false, .bool false, .bool false, .bool false, .bool false, .bool false, .bool false, .bool false, .bool false, .bool false, .bool false, .bool false, .bool false, .bool false, .bool false, .bool false, .bool false, .bool false, .bool false, .bool false, .bool false, .int .i64 0] []),
   ic 44 (.box (.t 43)),
   ic 10 (.alloc [.nilp]),
   jc (.st 1 (.t 10) (.t 44))])
 (.seq (.reg [ic 11 (.alloc [.int .i64 0]),
   jc (.st 1 (.t 11) (.k (.int .i64 0)))])
 (.seq (.reg [iv 45 (.mkfn (.func i_grain_New_1) [] [.t 10, .t 11]),
   iv 12 (.mv (.t 45))])
 (.seq (.reg [iv 46 (.mv (.t 12)),
   ic 47 (.callv (.t 46) [.k (.int .i64 1), .k (.int .i64 2)])])
 (.seq (.reg [iv 48 (.mv (.t 12)),
   ic 49 (.callv (.t 48) [.k (.int .i64 0), .k (.int .i64 4)])])
 (.seq (.reg [iv 50 (.mv (.t 12)),
   iv 51 (.mv (.t 0)),
   ic 52 (.callv (.t 50) [.t 51, .k (.int .i64 12)])])
 (.seq (.reg [iv 53 (.mv (.t 12)),
   iv 54 (.mv (.t 1)),
   ic 55 (.callv (.t 53) [.t 54, .k (.int .i64 12)])])
 (.seq (.reg [iv 56 (.mv (.t 12)),
   iv 57 (.mv (.t 2)),
   ic 58 (.callv (.t 56) [.t 57, .k (.int .i64 10)])])
 (.seq (.reg [iv 59 (.mv (.t 12)),
   iv 60 (.mv (.t 3)),
   ic 61 (.callv (.t 59) [.t 60, .k (.int .i64 10)])])
 (.seq (.reg [iv 62 (.mv (.t 12)),
   ic 63 (.callv (.t 62) [.k (.int .i64 1073741823), .k (.int .i64 30)])])
 (.seq (.seq (.reg [iv 64 (.mv (.k (.int .i64 0)))])
 (.blk 0
  (.loop Ba_grain_New)))
 (.seq (.reg [ir 69 (.ld 1 false (.t 10)),
   iv 8 (.mv (.t 69)),
   iv 9 (.mv (.k (.int .i64 0)))])
 (.ret))))))))))))))
def F_grain_New : AFn := ⟨70, C_grain_New, [.tmp 8, .tmp 9]⟩
def Ba_grain_Source_Element : AC := .seq (.seq (.reg [iv 7 (.mv (.t 4)),
        iv 8 (.bin .geq (.t 7) (.k (.int .i64 0)))])
      (.cond (.t 8)
       (.skip)
       (.exit 2)))
      (.seq (.blk 3
       (.seq (.reg [iv 11 (.mv (.t 0)),
         ic 12 (.call i_grain_Source_Bit [.t 11])])
       (.cond (.t 12)
        (.draw [⟨(some 13), .v (.mv (.t 4)), none, [4], 0, 0⟩,
          ⟨(some 14), .v (.bin .quo (.t 13) (.k (.int .i64 8))), none, [13], 0, 0⟩,
          ⟨(some 15), .v (.iadr (some 32) 1 (.t 3) (.t 14)), none, [3, 14], 0, 0⟩,
          ⟨(some 16), .r (.ld 1 false (.t 15)), none, [15], 0, 0⟩,
          ⟨(some 17), .v (.mv (.t 4)), none, [4], 0, 0⟩,
          ⟨(some 18), .v (.bin .rem (.t 17) (.k (.int .i64 8))), none, [17], 0, 0⟩,
          ⟨(some 19), .v (.bin .shl (.k (.int .u8 1)) (.t 18)), none, [18], 0, 0⟩,
          ⟨(some 20), .v (.bin .or (.t 16) (.t 19)), none, [16, 19], 0, 0⟩,
          ⟨(some 21), .v (.iadr (some 32) 1 (.t 3) (.t 14)), none, [3, 14], 0, 0⟩,
          ⟨none, .c (.st 1 (.t 21) (.t 20)), none, [21, 20], 0, 0⟩])
        (.skip))))
      (.reg [iv 9 (.mv (.t 4)),
        iv 10 (.bin .sub (.t 9) (.k (.int .i64 1))),
        iv 4 (.mv (.t 10))]))
def Bb_grain_Source_Element : AC := .blk 1
    (.seq (.reg [ic 3 (.alloc (rep1 (.int .u8 0) 32))])
    (.seq (.seq (.reg [iv 4 (.mv (.k (.int .i64 253)))])
    (.blk 2
     (.loop Ba_grain_Source_Element)))
    (.seq (.reg [iv 23 (.slice (.arr 32) 1 (.t 3) none none none),
      ir 24 (.call i_field_FromBytes [.t 23]),
      iv 22 (.mv (.t 24)),
      iv 25 (.ext (.t 22) 0),
      iv 26 (.ext (.t 22) 1),
      ic 5 (.alloc (rep1 (.int .u64 0) 4)),
      jc (.st 4 (.t 5) (.t 25)),
      iv 6 (.mv (.t 26))])
    (.seq (.reg [iv 27 (.mv (.t 6)),
      iv 28 (.bin .eql (.t 27) (.k (.int .i64 0)))])
    (.cond (.t 28)
     (.seq (.reg [ir 29 (.ld 4 true (.t 5)),
       jc (.st 4 (.t 2) (.t 29))])
     (.ret))
     (.skip))))))
def C_grain_Source_Element : AC := .seq (.reg [ic 2 (.alloc (rep1 (.int .u64 0) 4))])
 (.blk 0
  (.loop Bb_grain_Source_Element))
def F_grain_Source_Element : AFn := ⟨30, C_grain_Source_Element, [.cell 2 4 true]⟩
def C_field_Element_leave : AC := .seq (.reg [iv 1 (.boxv (.t 0)),
   ic 2 (.alloc (rep1 (.int .u64 0) 4))])
 (.seq (.reg [iv 3 (.fadr 0 (.t 1)),
   ir 4 (.ld 4 true (.t 3)),
   iv 5 (.build (rep1 (.int .u64 0) 4) [(0, 1, .k (.int .u64 1))]),
   ir 6 (.call i_field_product [.t 4, .t 5]),
   jc (.st 4 (.t 2) (.t 6))])
 (.ret))
def F_field_Element_leave : AFn := ⟨7, C_field_Element_leave, [.cell 2 4 true]⟩
def Ba_limb_Bytes : AC := .seq (.reg [iv 13 (.bin .lss (.t 12) (.k (.int .i64 8)))])
      (.seq (.cond (.t 13)
       (.skip)
       (.exit 2))
      (.seq (.blk 3
       (.seq (.reg [iv 14 (.mv (.t 3)),
         iv 15 (.mv (.t 5)),
         iv 16 (.i2i .u8 (.t 15)),
         iv 17 (.slit 1 1 [.int .u8 0] [(0, .t 16)]),
         ic 18 (.app 1 false (.t 14) (.t 17)),
         iv 3 (.mv (.t 18))])
       (.reg [iv 19 (.mv (.t 5)),
         iv 20 (.bin .shr (.t 19) (.k (.int .u64 8))),
         iv 5 (.mv (.t 20))])))
      (.reg [iv 21 (.bin .add (.t 12) (.k (.int .i64 1))),
        iv 12 (.mv (.t 21))])))
def Bb_limb_Bytes : AC := .seq (.reg [iv 9 (.bin .lss (.t 8) (.t 7))])
   (.seq (.cond (.t 9)
    (.skip)
    (.exit 0))
   (.seq (.blk 1
    (.seq (.reg [iv 10 (.iadr none 1 (.t 6) (.t 8)),
      ir 11 (.ld 1 false (.t 10)),
      iv 5 (.mv (.t 11))])
    (.seq (.reg [iv 12 (.mv (.k (.int .i64 0)))])
    (.blk 2
     (.loop Ba_limb_Bytes)))))
   (.reg [iv 22 (.bin .add (.t 8) (.k (.int .i64 1))),
     iv 8 (.mv (.t 22))])))
def C_limb_Bytes : AC := .seq (.reg [iv 2 (.mv (.k (.nsl)))])
 (.seq (.reg [iv 3 (.mv (.k (.nsl)))])
 (.seq (.seq (.reg [iv 6 (.mv (.t 0)),
   iv 7 (.lenL (.t 6)),
   iv 8 (.mv (.k (.int .i64 0)))])
 (.blk 0
  (.loop Bb_limb_Bytes)))
 (.seq (.reg [iv 23 (.mv (.t 3)),
   iv 2 (.mv (.t 23))])
 (.ret))))
def F_limb_Bytes : AFn := ⟨24, C_limb_Bytes, [.tmp 2]⟩
def Ba_avouchref01zBytes : AC := .seq (.seq (.reg [iv 18 (.mv (.t 6)),
        iv 19 (.bin .lss (.t 18) (.k (.int .i64 8)))])
      (.cond (.t 19)
       (.skip)
       (.exit 2)))
      (.seq (.blk 3
       (.seq (.reg [iv 22 (.mv (.t 3)),
         iv 23 (.mv (.t 5)),
         iv 24 (.bin .rem (.t 23) (.k (.int .u64 256))),
         iv 25 (.i2i .u8 (.t 24)),
         iv 26 (.slit 1 1 [.int .u8 0] [(0, .t 25)]),
         ic 27 (.app 1 false (.t 22) (.t 26)),
         iv 3 (.mv (.t 27))])
       (.reg [iv 28 (.mv (.t 5)),
         iv 29 (.bin .quo (.t 28) (.k (.int .u64 256))),
         iv 5 (.mv (.t 29))])))
      (.reg [iv 20 (.mv (.t 6)),
        iv 21 (.bin .add (.t 20) (.k (.int .i64 1))),
        iv 6 (.mv (.t 21))]))
def Bb_avouchref01zBytes : AC := .seq (.seq (.reg [iv 8 (.mv (.t 4)),
     iv 9 (.mv (.t 0)),
     iv 10 (.lenL (.t 9)),
     iv 11 (.bin .lss (.t 8) (.t 10))])
   (.cond (.t 11)
    (.skip)
    (.exit 0)))
   (.seq (.blk 1
    (.seq (.reg [iv 14 (.mv (.t 0)),
      iv 15 (.mv (.t 4)),
      iv 16 (.iadr none 1 (.t 14) (.t 15)),
      ir 17 (.ld 1 false (.t 16)),
      iv 5 (.mv (.t 17))])
    (.seq (.reg [iv 6 (.mv (.k (.int .i64 0)))])
    (.blk 2
     (.loop Ba_avouchref01zBytes)))))
   (.reg [iv 12 (.mv (.t 4)),
     iv 13 (.bin .add (.t 12) (.k (.int .i64 1))),
     iv 4 (.mv (.t 13))]))
def C_avouchref01zBytes : AC := .seq (.reg [iv 2 (.mv (.k (.nsl)))])
 (.seq (.reg [iv 7 (.slit 1 0 [.int .u8 0] []),
   iv 3 (.mv (.t 7))])
 (.seq (.seq (.reg [iv 4 (.mv (.k (.int .i64 0)))])
 (.blk 0
  (.loop Bb_avouchref01zBytes)))
 (.seq (.reg [iv 30 (.mv (.t 3)),
   iv 2 (.mv (.t 30))])
 (.ret))))
def F_avouchref01zBytes : AFn := ⟨31, C_avouchref01zBytes, [.tmp 2]⟩
def Ba_avouchref01zWords : AC := .seq (.seq (.reg [iv 9 (.mv (.t 6)),
     iv 10 (.mv (.t 1)),
     iv 11 (.bin .lss (.t 9) (.t 10))])
   (.cond (.t 11)
    (.skip)
    (.exit 0)))
   (.seq (.blk 1
    (.reg [iv 14 (.mv (.t 5)),
      iv 15 (.mv (.t 0)),
      iv 16 (.mv (.t 6)),
      iv 17 (.bin .mul (.k (.int .i64 2)) (.t 16)),
      ir 18 (.call i_avouchref01zget [.t 15, .t 17]),
      iv 19 (.mv (.t 0)),
      iv 20 (.mv (.t 6)),
      iv 21 (.bin .mul (.k (.int .i64 2)) (.t 20)),
      iv 22 (.bin .add (.t 21) (.k (.int .i64 1))),
      ir 23 (.call i_avouchref01zget [.t 19, .t 22]),
      iv 24 (.bin .mul (.t 23) (.k (.int .u64 4294967296))),
      iv 25 (.bin .add (.t 18) (.t 24)),
      iv 26 (.slit 1 1 [.int .u64 0] [(0, .t 25)]),
      ic 27 (.app 1 false (.t 14) (.t 26)),
      iv 5 (.mv (.t 27))]))
   (.reg [iv 12 (.mv (.t 6)),
     iv 13 (.bin .add (.t 12) (.k (.int .i64 1))),
     iv 6 (.mv (.t 13))]))
def C_avouchref01zWords : AC := .seq (.reg [iv 4 (.mv (.k (.nsl)))])
 (.seq (.reg [iv 7 (.mv (.t 1)),
   ic 8 (.mkc 1 [.int .u64 0] (.k (.int .i64 0)) (.t 7)),
   iv 5 (.mv (.t 8))])
 (.seq (.seq (.reg [iv 6 (.mv (.k (.int .i64 0)))])
 (.blk 0
  (.loop Ba_avouchref01zWords)))
 (.seq (.reg [iv 28 (.mv (.t 5)),
   iv 4 (.mv (.t 28))])
 (.ret))))
def F_avouchref01zWords : AFn := ⟨29, C_avouchref01zWords, [.tmp 4]⟩
def Ba_avouchref01zMod : AC := .seq (.seq (.reg [iv 13 (.mv (.t 6)),
     iv 14 (.bin .lss (.t 13) (.k (.int .i64 9)))])
   (.cond (.t 14)
    (.skip)
    (.exit 0)))
   (.seq (.blk 1
    (.reg [iv 17 (.mv (.t 6)),
      iv 18 (.mv (.t 1)),
      iv 19 (.mv (.t 6)),
      ir 20 (.call i_avouchref01zShift [.t 18, .t 19]),
      iv 21 (.iadr (some 9) 1 (.t 5) (.t 17)),
      jc (.st 1 (.t 21) (.t 20))]))
   (.reg [iv 15 (.mv (.t 6)),
     iv 16 (.bin .add (.t 15) (.k (.int .i64 1))),
     iv 6 (.mv (.t 16))]))
def Bb_avouchref01zMod : AC := .seq (.seq (.reg [iv 36 (.mv (.t 10)),
        iv 37 (.mv (.t 8)),
        iv 38 (.bin .rem (.t 37) (.k (.int .i64 4))),
        iv 39 (.bin .lss (.t 36) (.t 38))])
      (.cond (.t 39)
       (.skip)
       (.exit 4)))
      (.seq (.blk 5
       (.reg [iv 42 (.mv (.t 9)),
         iv 43 (.bin .quo (.t 42) (.k (.int .u64 256))),
         iv 9 (.mv (.t 43))]))
      (.reg [iv 40 (.mv (.t 10)),
        iv 41 (.bin .add (.t 40) (.k (.int .i64 1))),
        iv 10 (.mv (.t 41))]))
def Bc_avouchref01zMod : AC := .seq (.seq (.reg [iv 52 (.mv (.t 11)),
        iv 53 (.bin .geq (.t 52) (.k (.int .i64 0)))])
      (.cond (.t 53)
       (.skip)
       (.exit 6)))
      (.seq (.blk 7
       (.seq (.reg [iv 56 (.mv (.t 7)),
         iv 57 (.mv (.t 11)),
         iv 58 (.iadr (some 9) 1 (.t 5) (.t 57)),
         ir 59 (.ld 1 false (.t 58)),
         ir 60 (.call i_avouchref01zCmp [.t 56, .t 59]),
         iv 61 (.bin .geq (.t 60) (.k (.int .i64 0)))])
       (.cond (.t 61)
        (.reg [iv 62 (.mv (.t 7)),
          iv 63 (.mv (.t 11)),
          iv 64 (.iadr (some 9) 1 (.t 5) (.t 63)),
          ir 65 (.ld 1 false (.t 64)),
          ir 66 (.call i_avouchref01zSub [.t 62, .t 65]),
          iv 7 (.mv (.t 66))])
        (.skip))))
      (.reg [iv 54 (.mv (.t 11)),
        iv 55 (.bin .sub (.t 54) (.k (.int .i64 1))),
        iv 11 (.mv (.t 55))]))
def Bd_avouchref01zMod : AC := .seq (.seq (.reg [iv 27 (.mv (.t 8)),
     iv 28 (.bin .geq (.t 27) (.k (.int .i64 0)))])
   (.cond (.t 28)
    (.skip)
    (.exit 2)))
   (.seq (.blk 3
    (.seq (.reg [iv 31 (.mv (.t 0)),
      iv 32 (.mv (.t 8)),
      iv 33 (.bin .quo (.t 32) (.k (.int .i64 4))),
      iv 34 (.iadr none 1 (.t 31) (.t 33)),
      ir 35 (.ld 1 false (.t 34)),
      iv 9 (.mv (.t 35))])
    (.seq (.seq (.reg [iv 10 (.mv (.k (.int .i64 0)))])
    (.blk 4
     (.loop Bb_avouchref01zMod)))
    (.seq (.reg [iv 44 (.mv (.t 7)),
      iv 45 (.slit 1 1 [.int .u64 0] [(0, .k (.int .u64 256))]),
      ir 46 (.call i_avouchref01zMul [.t 44, .t 45]),
      iv 47 (.mv (.t 9)),
      iv 48 (.bin .rem (.t 47) (.k (.int .u64 256))),
      iv 49 (.slit 1 1 [.int .u64 0] [(0, .t 48)]),
      ir 50 (.call i_avouchref01zTrim [.t 49]),
      ir 51 (.call i_avouchref01zAdd [.t 46, .t 50]),
      iv 7 (.mv (.t 51))])
    (.seq (.reg [iv 11 (.mv (.k (.int .i64 8)))])
    (.blk 6
     (.loop Bc_avouchref01zMod)))))))
   (.reg [iv 29 (.mv (.t 8)),
     iv 30 (.bin .sub (.t 29) (.k (.int .i64 1))),
     iv 8 (.mv (.t 30))]))
def C_avouchref01zMod : AC := .seq (.reg [iv 4 (.mv (.k (.nsl)))])
 (.seq (.reg [iv 12 (.build (rep1 (.nsl) 9) []),
   ic 5 (.alloc (rep1 (.nsl) 9)),
   jc (.st 9 (.t 5) (.t 12))])
 (.seq (.seq (.reg [iv 6 (.mv (.k (.int .i64 0)))])
 (.blk 0
  (.loop Ba_avouchref01zMod)))
 (.seq (.reg [iv 22 (.slit 1 0 [.int .u64 0] []),
   iv 7 (.mv (.t 22))])
 (.seq (.seq (.reg [iv 23 (.mv (.t 0)),
   iv 24 (.lenL (.t 23)),
   iv 25 (.bin .mul (.t 24) (.k (.int .i64 4))),
   iv 26 (.bin .sub (.t 25) (.k (.int .i64 1))),
   iv 8 (.mv (.t 26))])
 (.blk 2
  (.loop Bd_avouchref01zMod)))
 (.seq (.reg [iv 67 (.mv (.t 7)),
   iv 4 (.mv (.t 67))])
 (.ret))))))
def F_avouchref01zMod : AFn := ⟨68, C_avouchref01zMod, [.tmp 4]⟩
def C_slices_Cloneuint64zuint64 : AC := .seq (.reg [iv 2 (.mv (.k (.nsl)))])
 (.seq (.seq (.reg [iv 3 (.mv (.t 0)),
   iv 4 (.eq .slc false (.t 3) (.k (.nsl)))])
 (.cond (.t 4)
  (.seq (.reg [iv 2 (.mv (.k (.nsl)))])
  (.ret))
  (.skip)))
 (.seq (.reg [iv 5 (.slit 1 0 [.int .u64 0] []),
   iv 6 (.mv (.t 0)),
   ic 7 (.app 1 false (.t 5) (.t 6)),
   iv 2 (.mv (.t 7))])
 (.ret)))
def F_slices_Cloneuint64zuint64 : AFn := ⟨8, C_slices_Cloneuint64zuint64, [.tmp 2]⟩
def Ba_limb_Modulus_twice : AC := .seq (.reg [iv 16 (.bin .lss (.t 15) (.t 14))])
   (.seq (.cond (.t 16)
    (.skip)
    (.exit 0))
   (.seq (.blk 1
    (.seq (.reg [iv 17 (.mv (.t 15)),
      iv 18 (.iadr none 1 (.t 13) (.t 15)),
      ir 19 (.ld 1 false (.t 18)),
      iv 8 (.mv (.t 17)),
      iv 9 (.mv (.t 19))])
    (.seq (.reg [iv 20 (.mv (.t 7)),
      iv 21 (.mv (.t 8)),
      iv 22 (.mv (.t 9)),
      iv 23 (.bin .shl (.t 22) (.k (.int .u64 1))),
      iv 24 (.mv (.t 2)),
      iv 25 (.bin .or (.t 23) (.t 24)),
      iv 26 (.iadr none 1 (.t 20) (.t 21)),
      jc (.st 1 (.t 26) (.t 25))])
    (.reg [iv 27 (.mv (.t 9)),
      iv 28 (.bin .shr (.t 27) (.k (.int .u64 63))),
      iv 2 (.mv (.t 28))]))))
   (.reg [iv 29 (.bin .add (.t 15) (.k (.int .i64 1))),
     iv 15 (.mv (.t 29))])))
def C_limb_Modulus_twice : AC := .seq (.reg [iv 6 (.mv (.k (.nsl)))])
 (.seq (.reg [iv 10 (.mv (.t 1)),
   iv 11 (.lenL (.t 10)),
   ic 12 (.mk 1 [.int .u64 0] (.t 11)),
   iv 7 (.mv (.t 12))])
 (.seq (.seq (.reg [iv 13 (.mv (.t 1)),
   iv 14 (.lenL (.t 13)),
   iv 15 (.mv (.k (.int .i64 0)))])
 (.blk 0
  (.loop Ba_limb_Modulus_twice)))
 (.seq (.reg [iv 30 (.mv (.t 0)),
   iv 31 (.mv (.t 7)),
   iv 32 (.mv (.t 2)),
   ir 33 (.call i_limb_Modulus_less [.t 30, .t 31, .t 32]),
   iv 6 (.mv (.t 33))])
 (.ret))))
def F_limb_Modulus_twice : AFn := ⟨34, C_limb_Modulus_twice, [.tmp 6]⟩
def Ba_field_product : AC := .seq (.reg [iv 23 (.bin .lss (.t 22) (.k (.int .i64 4)))])
      (.seq (.cond (.t 23)
       (.skip)
       (.exit 2))
      (.seq (.blk 3
       (.seq (.reg [iv 24 (.mv (.t 22)),
         iv 25 (.idxA 4 1 false (.t 21) (.t 22)),
         iv 11 (.mv (.t 24)),
         iv 12 (.mv (.t 25))])
       (.reg [iv 27 (.mv (.t 11)),
         iv 28 (.mv (.t 11)),
         iv 29 (.iadr (some 5) 1 (.t 7) (.t 28)),
         ir 30 (.ld 1 false (.t 29)),
         iv 31 (.mv (.t 9)),
         iv 32 (.mv (.t 12)),
         iv 33 (.mv (.t 10)),
         ir 34 (.call i_field_line [.t 30, .t 31, .t 32, .t 33]),
         iv 26 (.mv (.t 34)),
         iv 35 (.ext (.t 26) 0),
         iv 36 (.ext (.t 26) 1),
         iv 37 (.iadr (some 5) 1 (.t 7) (.t 27)),
         jc (.st 1 (.t 37) (.t 35)),
         iv 10 (.mv (.t 36))])))
      (.reg [iv 38 (.bin .add (.t 22) (.k (.int .i64 1))),
        iv 22 (.mv (.t 38))])))
def Bb_field_product : AC := .seq (.seq (.reg [iv 57 (.mv (.t 14)),
        iv 58 (.bin .lss (.t 57) (.k (.int .i64 4)))])
      (.cond (.t 58)
       (.skip)
       (.exit 4)))
      (.seq (.blk 5
       (.draw [⟨(some 62), .v (.mv (.t 14)), none, [14], 0, 0⟩,
         ⟨(some 63), .v (.bin .sub (.t 62) (.k (.int .i64 1))), none, [62], 0, 0⟩,
         ⟨(some 64), .v (.mv (.t 14)), none, [14], 0, 0⟩,
         ⟨(some 65), .v (.iadr (some 5) 1 (.t 7) (.t 64)), none, [7, 64], 0, 0⟩,
         ⟨(some 66), .r (.ld 1 false (.t 65)), none, [65], 0, 0⟩,
         ⟨(some 67), .v (.mv (.t 13)), none, [13], 0, 0⟩,
         ⟨(some 68), .v (.mv (.t 14)), none, [14], 0, 0⟩,
         ⟨(some 69), .v (.iadr (some 4) 1 (.t 5) (.t 68)), none, [5, 68], 0, 0⟩,
         ⟨(some 70), .r (.ld 1 false (.t 69)), none, [69], 0, 0⟩,
         ⟨(some 71), .v (.mv (.t 10)), none, [10], 0, 0⟩,
         ⟨(some 72), .r (.call i_field_line [.t 66, .t 67, .t 70, .t 71]), none, [66, 67, 70, 71], 0, 0⟩,
         ⟨(some 61), .v (.mv (.t 72)), none, [72], 0, 0⟩,
         ⟨(some 73), .v (.ext (.t 61) 0), none, [61], 0, 0⟩,
         ⟨(some 74), .v (.ext (.t 61) 1), none, [61], 0, 0⟩,
         ⟨(some 75), .v (.iadr (some 5) 1 (.t 7) (.t 63)), none, [7, 63], 0, 0⟩,
         ⟨none, .c (.st 1 (.t 75) (.t 73)), none, [75, 73], 0, 0⟩,
         ⟨(some 10), .v (.mv (.t 74)), none, [74], 0, 0⟩]))
      (.reg [iv 59 (.mv (.t 14)),
        iv 60 (.bin .add (.t 59) (.k (.int .i64 1))),
        iv 14 (.mv (.t 60))]))
def Bc_field_product : AC := .seq (.reg [iv 19 (.bin .lss (.t 18) (.k (.int .i64 4)))])
   (.seq (.cond (.t 19)
    (.skip)
    (.exit 0))
   (.seq (.blk 1
    (.seq (.reg [iv 20 (.idxA 4 1 false (.t 17) (.t 18)),
      iv 9 (.mv (.t 20))])
    (.seq (.reg [iv 10 (.mv (.k (.int .u64 0)))])
    (.seq (.seq (.reg [ir 21 (.ld 4 true (.t 3)),
      iv 22 (.mv (.k (.int .i64 0)))])
    (.blk 2
     (.loop Ba_field_product)))
    (.seq (.reg [iv 39 (.iadr (some 5) 1 (.t 7) (.k (.int .i64 4))),
      ir 40 (.ld 1 false (.t 39)),
      iv 41 (.mv (.t 10)),
      iv 42 (.bin .add (.t 40) (.t 41)),
      iv 43 (.iadr (some 5) 1 (.t 7) (.k (.int .i64 4))),
      jc (.st 1 (.t 43) (.t 42))])
    (.seq (.reg [iv 44 (.iadr (some 5) 1 (.t 7) (.k (.int .i64 0))),
      ir 45 (.ld 1 false (.t 44)),
      iv 46 (.mv (.t 6)),
      iv 47 (.bin .mul (.t 45) (.t 46)),
      iv 13 (.mv (.t 47))])
    (.seq (.reg [iv 49 (.iadr (some 5) 1 (.t 7) (.k (.int .i64 0))),
      ir 50 (.ld 1 false (.t 49)),
      iv 51 (.mv (.t 13)),
      iv 52 (.iadr (some 4) 1 (.t 5) (.k (.int .i64 0))),
      ir 53 (.ld 1 false (.t 52)),
      ir 54 (.call i_field_line [.t 50, .t 51, .t 53, .k (.int .u64 0)]),
      iv 48 (.mv (.t 54)),
      iv 55 (.ext (.t 48) 0),
      iv 56 (.ext (.t 48) 1),
      iv 10 (.mv (.t 56))])
    (.seq (.seq (.reg [iv 14 (.mv (.k (.int .i64 1)))])
    (.blk 4
     (.loop Bb_field_product)))
    (.seq (.reg [iv 77 (.iadr (some 5) 1 (.t 7) (.k (.int .i64 4))),
      ir 78 (.ld 1 false (.t 77)),
      iv 79 (.mv (.t 10)),
      ic 80 (.call i_math_bits_Add64 [.t 78, .t 79, .k (.int .u64 0)]),
      iv 76 (.mv (.t 80)),
      iv 81 (.ext (.t 76) 0),
      iv 82 (.ext (.t 76) 1),
      iv 83 (.iadr (some 5) 1 (.t 7) (.k (.int .i64 3))),
      jc (.st 1 (.t 83) (.t 81)),
      iv 10 (.mv (.t 82))])
    (.reg [iv 84 (.mv (.t 10)),
      iv 85 (.iadr (some 5) 1 (.t 7) (.k (.int .i64 4))),
      jc (.st 1 (.t 85) (.t 84))]))))))))))
   (.reg [iv 86 (.bin .add (.t 18) (.k (.int .i64 1))),
     iv 18 (.mv (.t 86))])))
def C_field_product : AC := .seq (.reg [iv 2 (.boxv (.t 0)),
   iv 3 (.boxv (.t 1)),
   ic 4 (.alloc (rep1 (.int .u64 0) 4))])
 (.seq (.reg [ir 15 (.call i_field_prime []),
   ir 16 (.call i_field_inverse []),
   ic 5 (.alloc (rep1 (.int .u64 0) 4)),
   jc (.st 4 (.t 5) (.t 15)),
   iv 6 (.mv (.t 16))])
 (.seq (.reg [ic 7 (.alloc (rep1 (.int .u64 0) 5))])
 (.seq (.seq (.reg [ir 17 (.ld 4 true (.t 2)),
   iv 18 (.mv (.k (.int .i64 0)))])
 (.blk 0
  (.loop Bc_field_product)))
 (.seq (.reg [iv 87 (.slice (.arr 5) 1 (.t 7) none (some (.k (.int .i64 4))) none),
   iv 88 (.s2a 4 (.t 87)),
   ir 89 (.ld 4 true (.t 88)),
   ir 90 (.call i_field_below [.t 89]),
   jc (.st 4 (.t 4) (.t 90))])
 (.ret)))))
def F_field_product : AFn := ⟨91, C_field_product, [.cell 4 4 true]⟩
def C_math_bits_Len64 : AC := .seq (.reg [iv 2 (.mv (.k (.int .i64 0)))])
 (.seq (.seq (.reg [iv 3 (.mv (.t 0)),
   iv 4 (.bin .geq (.t 3) (.k (.int .u64 4294967296)))])
 (.cond (.t 4)
  (.seq (.reg [iv 5 (.mv (.t 0)),
    iv 6 (.bin .shr (.t 5) (.k (.int .u64 32))),
    iv 0 (.mv (.t 6))])
  (.reg [iv 2 (.mv (.k (.int .i64 32)))]))
  (.skip)))
 (.seq (.seq (.reg [iv 7 (.mv (.t 0)),
   iv 8 (.bin .geq (.t 7) (.k (.int .u64 65536)))])
 (.cond (.t 8)
  (.seq (.reg [iv 9 (.mv (.t 0)),
    iv 10 (.bin .shr (.t 9) (.k (.int .u64 16))),
    iv 0 (.mv (.t 10))])
  (.reg [iv 11 (.mv (.t 2)),
    iv 12 (.bin .add (.t 11) (.k (.int .i64 16))),
    iv 2 (.mv (.t 12))]))
  (.skip)))
 (.seq (.seq (.reg [iv 13 (.mv (.t 0)),
   iv 14 (.bin .geq (.t 13) (.k (.int .u64 256)))])
 (.cond (.t 14)
  (.seq (.reg [iv 15 (.mv (.t 0)),
    iv 16 (.bin .shr (.t 15) (.k (.int .u64 8))),
    iv 0 (.mv (.t 16))])
  (.reg [iv 17 (.mv (.t 2)),
    iv 18 (.bin .add (.t 17) (.k (.int .i64 8))),
    iv 2 (.mv (.t 18))]))
  (.skip)))
 (.seq (.reg [iv 19 (.mv (.t 2)),
   iv 20 (.mv (.t 0)),
   iv 21 (.i2i .u8 (.t 20)),
   iv 22 (.idxS (.k (.str txt_0)) (.t 21)),
   iv 23 (.i2i .i64 (.t 22)),
   iv 24 (.bin .add (.t 19) (.t 23)),
   iv 2 (.mv (.t 24))])
 (.ret)))))
def F_math_bits_Len64 : AFn := ⟨25, C_math_bits_Len64, [.tmp 2]⟩
def Ba_field_borrow : AC := .seq (.reg [iv 8 (.bin .lss (.t 7) (.k (.int .i64 4)))])
   (.seq (.cond (.t 8)
    (.skip)
    (.exit 0))
   (.seq (.blk 1
    (.seq (.reg [iv 9 (.mv (.t 7)),
      iv 6 (.mv (.t 9))])
    (.draw [⟨(some 11), .v (.mv (.t 6)), none, [6], 0, 0⟩,
      ⟨(some 12), .v (.mv (.t 6)), none, [6], 0, 0⟩,
      ⟨(some 13), .v (.iadr (some 4) 1 (.t 2) (.t 12)), none, [2, 12], 0, 0⟩,
      ⟨(some 14), .r (.ld 1 false (.t 13)), none, [13], 0, 0⟩,
      ⟨(some 15), .v (.mv (.t 6)), none, [6], 0, 0⟩,
      ⟨(some 16), .v (.iadr (some 4) 1 (.t 3) (.t 15)), none, [3, 15], 0, 0⟩,
      ⟨(some 17), .r (.ld 1 false (.t 16)), none, [16], 0, 0⟩,
      ⟨(some 18), .v (.mv (.t 5)), none, [5], 0, 0⟩,
      ⟨(some 19), .c (.call i_math_bits_Sub64 [.t 14, .t 17, .t 18]), none, [14, 17, 18], 0, 0⟩,
      ⟨(some 10), .v (.mv (.t 19)), none, [19], 0, 0⟩,
      ⟨(some 20), .v (.ext (.t 10) 0), none, [10], 0, 0⟩,
      ⟨(some 21), .v (.ext (.t 10) 1), none, [10], 0, 0⟩,
      ⟨(some 22), .v (.iadr (some 4) 1 (.t 4) (.t 11)), none, [4, 11], 0, 0⟩,
      ⟨none, .c (.st 1 (.t 22) (.t 20)), none, [22, 20], 0, 0⟩,
      ⟨(some 5), .v (.mv (.t 21)), none, [21], 0, 0⟩])))
   (.reg [iv 23 (.bin .add (.t 7) (.k (.int .i64 1))),
     iv 7 (.mv (.t 23))])))
def C_field_borrow : AC := .seq (.reg [iv 2 (.boxv (.t 0)),
   iv 3 (.boxv (.t 1)),
   ic 4 (.alloc (rep1 (.int .u64 0) 4)),
   iv 5 (.mv (.k (.int .u64 0)))])
 (.seq (.seq (.reg [iv 7 (.mv (.k (.int .i64 0)))])
 (.blk 0
  (.loop Ba_field_borrow)))
 (.seq (.reg [ir 24 (.ld 4 true (.t 4)),
   iv 25 (.mv (.t 5)),
   jc (.st 4 (.t 4) (.t 24)),
   iv 5 (.mv (.t 25))])
 (.ret)))
def F_field_borrow : AFn := ⟨26, C_field_borrow, [.cell 4 4 true, .tmp 5]⟩
def Ba_field_Sum : AC := .seq (.reg [iv 9 (.bin .lss (.t 8) (.t 7))])
   (.seq (.cond (.t 9)
    (.skip)
    (.exit 0))
   (.seq (.blk 1
    (.seq (.reg [iv 10 (.iadr none 4 (.t 6) (.t 8)),
      ir 11 (.ld 4 true (.t 10)),
      ic 5 (.alloc (rep1 (.int .u64 0) 4)),
      jc (.st 4 (.t 5) (.t 11))])
    (.reg [ir 12 (.ld 4 true (.t 3)),
      ir 13 (.ld 4 true (.t 5)),
      ir 14 (.call i_field_Element_Add [.t 12, .t 13]),
      jc (.st 4 (.t 3) (.t 14))])))
   (.reg [iv 15 (.bin .add (.t 8) (.k (.int .i64 1))),
     iv 8 (.mv (.t 15))])))
def C_field_Sum : AC := .seq (.reg [ic 2 (.alloc (rep1 (.int .u64 0) 4))])
 (.seq (.reg [ic 3 (.alloc (rep1 (.int .u64 0) 4))])
 (.seq (.seq (.reg [iv 6 (.mv (.t 0)),
   iv 7 (.lenL (.t 6)),
   iv 8 (.mv (.k (.int .i64 0)))])
 (.blk 0
  (.loop Ba_field_Sum)))
 (.seq (.reg [ir 16 (.ld 4 true (.t 3)),
   jc (.st 4 (.t 2) (.t 16))])
 (.ret))))
def F_field_Sum : AFn := ⟨17, C_field_Sum, [.cell 2 4 true]⟩
def Ba_avouchref02zExp : AC := .seq (.seq (.reg [iv 11 (.mv (.t 6)),
     iv 12 (.bin .geq (.t 11) (.k (.int .i64 0)))])
   (.cond (.t 12)
    (.skip)
    (.exit 0)))
   (.seq (.blk 1
    (.seq (.reg [iv 15 (.mv (.t 5)),
      iv 16 (.mv (.t 5)),
      ir 17 (.call i_avouchref02zMul [.t 15, .t 16]),
      iv 5 (.mv (.t 17))])
    (.seq (.reg [iv 18 (.mv (.t 1)),
      iv 19 (.mv (.t 6)),
      ir 20 (.call i_avouchref01zBit [.t 18, .t 19]),
      iv 21 (.bin .eql (.t 20) (.k (.int .u64 1)))])
    (.cond (.t 21)
     (.reg [iv 22 (.mv (.t 5)),
       iv 23 (.mv (.t 0)),
       ir 24 (.call i_avouchref02zMul [.t 22, .t 23]),
       iv 5 (.mv (.t 24))])
     (.skip)))))
   (.reg [iv 13 (.mv (.t 6)),
     iv 14 (.bin .sub (.t 13) (.k (.int .i64 1))),
     iv 6 (.mv (.t 14))]))
def C_avouchref02zExp : AC := .seq (.reg [iv 4 (.mv (.k (.nsl)))])
 (.seq (.reg [iv 7 (.slit 1 1 [.int .u64 0] [(0, .k (.int .u64 1))]),
   iv 5 (.mv (.t 7))])
 (.seq (.seq (.reg [iv 8 (.mv (.t 1)),
   ir 9 (.call i_avouchref01zBits [.t 8]),
   iv 10 (.bin .sub (.t 9) (.k (.int .i64 1))),
   iv 6 (.mv (.t 10))])
 (.blk 0
  (.loop Ba_avouchref02zExp)))
 (.seq (.reg [iv 25 (.mv (.t 5)),
   iv 4 (.mv (.t 25))])
 (.ret))))
def F_avouchref02zExp : AFn := ⟨26, C_avouchref02zExp, [.tmp 4]⟩
def Ba_avouchref01zSub : AC := .seq (.seq (.reg [iv 12 (.mv (.t 7)),
     iv 13 (.mv (.t 0)),
     iv 14 (.lenL (.t 13)),
     iv 15 (.bin .lss (.t 12) (.t 14))])
   (.cond (.t 15)
    (.skip)
    (.exit 0)))
   (.seq (.blk 1
    (.seq (.draw [⟨(some 18), .v (.mv (.t 0)), none, [0], 0, 0⟩,
      ⟨(some 19), .v (.mv (.t 7)), none, [7], 0, 0⟩,
      ⟨(some 20), .v (.iadr none 1 (.t 18) (.t 19)), none, [18, 19], 0, 0⟩,
      ⟨(some 21), .r (.ld 1 false (.t 20)), none, [20], 0, 0⟩,
      ⟨(some 22), .v (.bin .add (.k (.int .u64 4294967296)) (.t 21)), none, [21], 0, 0⟩,
      ⟨(some 23), .v (.mv (.t 1)), none, [1], 0, 0⟩,
      ⟨(some 24), .v (.mv (.t 7)), none, [7], 0, 0⟩,
      ⟨(some 25), .r (.call i_avouchref01zget [.t 23, .t 24]), none, [23, 24], 0, 0⟩,
      ⟨(some 26), .v (.bin .sub (.t 22) (.t 25)), none, [22, 25], 0, 0⟩,
      ⟨(some 27), .v (.mv (.t 6)), none, [6], 0, 0⟩,
      ⟨(some 28), .v (.bin .sub (.t 26) (.t 27)), none, [26, 27], 0, 0⟩,
      ⟨(some 8), .v (.mv (.t 28)), none, [28], 0, 0⟩])
    (.seq (.reg [iv 29 (.mv (.t 5)),
      iv 30 (.mv (.t 8)),
      iv 31 (.bin .rem (.t 30) (.k (.int .u64 4294967296))),
      iv 32 (.slit 1 1 [.int .u64 0] [(0, .t 31)]),
      ic 33 (.app 1 false (.t 29) (.t 32)),
      iv 5 (.mv (.t 33))])
    (.reg [iv 34 (.mv (.t 8)),
      iv 35 (.bin .quo (.t 34) (.k (.int .u64 4294967296))),
      iv 36 (.bin .sub (.k (.int .u64 1)) (.t 35)),
      iv 6 (.mv (.t 36))]))))
   (.reg [iv 16 (.mv (.t 7)),
     iv 17 (.bin .add (.t 16) (.k (.int .i64 1))),
     iv 7 (.mv (.t 17))]))
def C_avouchref01zSub : AC := .seq (.reg [iv 4 (.mv (.k (.nsl)))])
 (.seq (.reg [iv 9 (.mv (.t 0)),
   iv 10 (.lenL (.t 9)),
   ic 11 (.mkc 1 [.int .u64 0] (.k (.int .i64 0)) (.t 10)),
   iv 5 (.mv (.t 11))])
 (.seq (.reg [iv 6 (.mv (.k (.int .u64 0)))])
 (.seq (.seq (.reg [iv 7 (.mv (.k (.int .i64 0)))])
 (.blk 0
  (.loop Ba_avouchref01zSub)))
 (.seq (.reg [iv 37 (.mv (.t 5)),
   ir 38 (.call i_avouchref01zTrim [.t 37]),
   iv 4 (.mv (.t 38))])
 (.ret)))))
def F_avouchref01zSub : AFn := ⟨39, C_avouchref01zSub, [.tmp 4]⟩
def C_avouchref01zget : AC := .seq (.reg [iv 4 (.mv (.k (.int .u64 0)))])
 (.seq (.seq (.reg [iv 5 (.mv (.t 1)),
   iv 6 (.mv (.t 0)),
   iv 7 (.lenL (.t 6)),
   iv 8 (.bin .lss (.t 5) (.t 7))])
 (.cond (.t 8)
  (.seq (.reg [iv 9 (.mv (.t 0)),
    iv 10 (.mv (.t 1)),
    iv 11 (.iadr none 1 (.t 9) (.t 10)),
    ir 12 (.ld 1 false (.t 11)),
    iv 4 (.mv (.t 12))])
  (.ret))
  (.skip)))
 (.seq (.reg [iv 4 (.mv (.k (.int .u64 0)))])
 (.ret)))
def F_avouchref01zget : AFn := ⟨13, C_avouchref01zget, [.tmp 4]⟩
def Ba_grain_New_1 : AC := .seq (.seq (.reg [iv 9 (.mv (.t 6)),
     iv 10 (.bin .geq (.t 9) (.k (.int .i64 0)))])
   (.cond (.t 10)
    (.skip)
    (.exit 0)))
   (.seq (.blk 1
    (.seq (.draw [⟨(some 13), .r (.ld 1 false (.t 2)), none, [2], 0, 0⟩,
      ⟨(some 14), .r (.ld 1 false (.t 3)), none, [3], 0, 0⟩,
      ⟨(some 15), .v (.mv (.t 0)), none, [0], 0, 0⟩,
      ⟨(some 16), .v (.mv (.t 6)), none, [6], 0, 0⟩,
      ⟨(some 17), .v (.bin .shr (.t 15) (.t 16)), none, [15, 16], 0, 0⟩,
      ⟨(some 18), .v (.bin .and (.t 17) (.k (.int .i64 1))), none, [17], 0, 0⟩,
      ⟨(some 19), .v (.bin .eql (.t 18) (.k (.int .i64 1))), none, [18], 0, 0⟩,
      ⟨(some 20), .v (.nck (.t 13)), none, [13], 0, 0⟩,
      ⟨(some 21), .v (.fadr 0 (.t 20)), none, [20], 0, 0⟩,
      ⟨(some 22), .v (.iadr (some 80) 1 (.t 21) (.t 14)), none, [21, 14], 0, 0⟩,
      ⟨none, .c (.st 1 (.t 22) (.t 19)), none, [22, 19], 0, 0⟩])
    (.reg [ir 23 (.ld 1 false (.t 3)),
      iv 24 (.bin .add (.t 23) (.k (.int .i64 1))),
      jc (.st 1 (.t 3) (.t 24))])))
   (.reg [iv 11 (.mv (.t 6)),
     iv 12 (.bin .sub (.t 11) (.k (.int .i64 1))),
     iv 6 (.mv (.t 12))]))
def C_grain_New_1 : AC := .seq (.reg [iv 7 (.mv (.t 1)),
   iv 8 (.bin .sub (.t 7) (.k (.int .i64 1))),
   iv 6 (.mv (.t 8))])
 (.blk 0
  (.loop Ba_grain_New_1))
def F_grain_New_1 : AFn := ⟨25, C_grain_New_1, []⟩
def Ba_grain_Source_turn : AC := .seq (.reg [iv 18 (.bin .lss (.t 17) (.t 16))])
   (.seq (.cond (.t 18)
    (.skip)
    (.exit 0))
   (.seq (.blk 1
    (.seq (.reg [iv 19 (.iadr none 1 (.t 15) (.t 17)),
      ir 20 (.ld 1 false (.t 19)),
      iv 5 (.mv (.t 20))])
    (.draw [⟨(some 21), .v (.mv (.t 3)), none, [3], 0, 0⟩,
      ⟨(some 22), .v (.mv (.t 0)), none, [0], 0, 0⟩,
      ⟨(some 23), .v (.mv (.t 0)), none, [0], 0, 0⟩,
      ⟨(some 24), .v (.nck (.t 23)), none, [23], 0, 0⟩,
      ⟨(some 25), .v (.fadr 80 (.t 24)), none, [24], 0, 0⟩,
      ⟨(some 26), .r (.ld 1 false (.t 25)), none, [25], 0, 0⟩,
      ⟨(some 27), .v (.mv (.t 5)), none, [5], 0, 0⟩,
      ⟨(some 28), .v (.bin .add (.t 26) (.t 27)), none, [26, 27], 0, 0⟩,
      ⟨(some 29), .v (.bin .rem (.t 28) (.k (.int .i64 80))), none, [28], 0, 0⟩,
      ⟨(some 30), .v (.nck (.t 22)), none, [22], 0, 0⟩,
      ⟨(some 31), .v (.fadr 0 (.t 30)), none, [30], 0, 0⟩,
      ⟨(some 32), .v (.iadr (some 80) 1 (.t 31) (.t 29)), none, [31, 29], 0, 0⟩,
      ⟨(some 33), .r (.ld 1 false (.t 32)), none, [32], 0, 0⟩,
      ⟨(some 34), .v (.eq .bool true (.t 21) (.t 33)), none, [21, 33], 0, 0⟩,
      ⟨(some 3), .v (.mv (.t 34)), none, [34], 0, 0⟩])))
   (.reg [iv 35 (.bin .add (.t 17) (.k (.int .i64 1))),
     iv 17 (.mv (.t 35))])))
def C_grain_Source_turn : AC := .seq (.reg [iv 2 (.mv (.k (.bool false)))])
 (.seq (.draw [⟨(some 6), .v (.mv (.t 0)), none, [0], 0, 0⟩,
   ⟨(some 7), .v (.mv (.t 0)), none, [0], 0, 0⟩,
   ⟨(some 8), .v (.nck (.t 7)), none, [7], 0, 0⟩,
   ⟨(some 9), .v (.fadr 80 (.t 8)), none, [8], 0, 0⟩,
   ⟨(some 10), .r (.ld 1 false (.t 9)), none, [9], 0, 0⟩,
   ⟨(some 11), .v (.nck (.t 6)), none, [6], 0, 0⟩,
   ⟨(some 12), .v (.fadr 0 (.t 11)), none, [11], 0, 0⟩,
   ⟨(some 13), .v (.iadr (some 80) 1 (.t 12) (.t 10)), none, [12, 10], 0, 0⟩,
   ⟨(some 14), .r (.ld 1 false (.t 13)), none, [13], 0, 0⟩,
   ⟨(some 3), .v (.mv (.t 14)), none, [14], 0, 0⟩])
 (.seq (.seq (.reg [iv 15 (.slit 1 5 [.int .i64 0] [(0, .k (.int .i64 13)), (1, .k (.int .i64 23)), (2, .k (.int .i64 38)), (3, .k (.int .i64 51)), (4, .k (.int .i64 62))]),
   iv 16 (.lenL (.t 15)),
   iv 17 (.mv (.k (.int .i64 0)))])
 (.blk 0
  (.loop Ba_grain_Source_turn)))
 (.seq (.draw [⟨(some 36), .v (.mv (.t 0)), none, [0], 0, 0⟩,
   ⟨(some 37), .v (.mv (.t 0)), none, [0], 0, 0⟩,
   ⟨(some 38), .v (.nck (.t 37)), none, [37], 0, 0⟩,
   ⟨(some 39), .v (.fadr 80 (.t 38)), none, [38], 0, 0⟩,
   ⟨(some 40), .r (.ld 1 false (.t 39)), none, [39], 0, 0⟩,
   ⟨(some 41), .v (.mv (.t 3)), none, [3], 0, 0⟩,
   ⟨(some 42), .v (.nck (.t 36)), none, [36], 0, 0⟩,
   ⟨(some 43), .v (.fadr 0 (.t 42)), none, [42], 0, 0⟩,
   ⟨(some 44), .v (.iadr (some 80) 1 (.t 43) (.t 40)), none, [43, 40], 0, 0⟩,
   ⟨none, .c (.st 1 (.t 44) (.t 41)), none, [44, 41], 0, 0⟩])
 (.seq (.reg [iv 45 (.mv (.t 0)),
   iv 46 (.mv (.t 0)),
   iv 47 (.nck (.t 46)),
   iv 48 (.fadr 80 (.t 47)),
   ir 49 (.ld 1 false (.t 48)),
   iv 50 (.bin .add (.t 49) (.k (.int .i64 1))),
   iv 51 (.bin .rem (.t 50) (.k (.int .i64 80))),
   iv 52 (.nck (.t 45)),
   iv 53 (.fadr 80 (.t 52)),
   jc (.st 1 (.t 53) (.t 51))])
 (.seq (.reg [iv 54 (.mv (.t 3)),
   iv 2 (.mv (.t 54))])
 (.ret))))))
def F_grain_Source_turn : AFn := ⟨55, C_grain_Source_turn, [.tmp 2]⟩
def C_grain_Source_Bit : AC := .seq (.reg [iv 2 (.mv (.k (.bool false)))])
 (.scope
  (.seq (.label 0)
  (.seq (.reg [iv 5 (.mv (.t 0)),
    ic 6 (.call i_grain_Source_turn [.t 5]),
    iv 7 (.mv (.t 0)),
    ic 8 (.call i_grain_Source_turn [.t 7]),
    iv 3 (.mv (.t 6)),
    iv 4 (.mv (.t 8))])
  (.seq (.seq (.reg [iv 9 (.mv (.t 3)),
    iv 10 (.un .not (.t 9))])
  (.cond (.t 10)
   (.goto 0)
   (.skip)))
  (.seq (.reg [iv 11 (.mv (.t 4)),
    iv 2 (.mv (.t 11))])
  (.ret))))))
def F_grain_Source_Bit : AFn := ⟨12, C_grain_Source_Bit, [.tmp 2]⟩
def C_field_FromBytes : AC := .seq (.reg [ic 2 (.alloc (rep1 (.int .u64 0) 4)),
   iv 3 (.mv (.k (.int .i64 0)))])
 (.seq (.seq (.reg [iv 7 (.mv (.t 0)),
   iv 8 (.lenL (.t 7)),
   iv 9 (.bin .neq (.t 8) (.k (.int .i64 32)))])
 (.cond (.t 9)
  (.seq (.reg [iv 10 (.build (rep1 (.int .u64 0) 4) []),
    jc (.st 4 (.t 2) (.t 10)),
    iv 3 (.mv (.k (.int .i64 1)))])
  (.ret))
  (.skip)))
 (.seq (.reg [iv 11 (.mv (.t 0)),
   ir 12 (.call i_limb_Words [.t 11]),
   iv 13 (.s2a 4 (.t 12)),
   ir 14 (.ld 4 true (.t 13)),
   ic 4 (.alloc (rep1 (.int .u64 0) 4)),
   jc (.st 4 (.t 4) (.t 14))])
 (.seq (.seq (.draw [⟨(some 16), .r (.ld 4 true (.t 4)), none, [4], 0, 1⟩,
   ⟨(some 17), .r (.call i_field_prime []), none, [], 0, 1⟩,
   ⟨(some 18), .r (.call i_field_borrow [.t 16, .t 17]), none, [16, 17], 0, 1⟩,
   ⟨(some 15), .v (.mv (.t 18)), none, [18], 0, 0⟩,
   ⟨(some 19), .v (.ext (.t 15) 0), none, [15], 0, 0⟩,
   ⟨(some 20), .v (.ext (.t 15) 1), none, [15], 0, 0⟩,
   ic 5 (.alloc (rep1 (.int .u64 0) 4)),
   ⟨none, .c (.st 4 (.t 5) (.t 19)), none, [5, 19], 0, 0⟩,
   ⟨(some 6), .v (.mv (.t 20)), none, [20], 0, 0⟩])
 (.seq (.reg [iv 21 (.mv (.t 6)),
   iv 22 (.bin .eql (.t 21) (.k (.int .u64 0)))])
 (.cond (.t 22)
  (.seq (.reg [iv 23 (.build (rep1 (.int .u64 0) 4) []),
    jc (.st 4 (.t 2) (.t 23)),
    iv 3 (.mv (.k (.int .i64 4)))])
  (.ret))
  (.skip))))
 (.seq (.reg [ir 24 (.ld 4 true (.t 4)),
   ir 25 (.call i_field_enter [.t 24]),
   jc (.st 4 (.t 2) (.t 25)),
   iv 3 (.mv (.k (.int .i64 0)))])
 (.ret)))))
def F_field_FromBytes : AFn := ⟨26, C_field_FromBytes, [.cell 2 4 true, .tmp 3]⟩
def Ba_avouchref01zShift : AC := .seq (.seq (.reg [iv 7 (.mv (.t 6)),
     iv 8 (.mv (.t 1)),
     iv 9 (.bin .lss (.t 7) (.t 8))])
   (.cond (.t 9)
    (.skip)
    (.exit 0)))
   (.seq (.blk 1
    (.reg [iv 12 (.mv (.t 5)),
      iv 13 (.bin .mul (.t 12) (.k (.int .u64 2))),
      iv 5 (.mv (.t 13))]))
   (.reg [iv 10 (.mv (.t 6)),
     iv 11 (.bin .add (.t 10) (.k (.int .i64 1))),
     iv 6 (.mv (.t 11))]))
def C_avouchref01zShift : AC := .seq (.reg [iv 4 (.mv (.k (.nsl)))])
 (.seq (.reg [iv 5 (.mv (.k (.int .u64 1)))])
 (.seq (.seq (.reg [iv 6 (.mv (.k (.int .i64 0)))])
 (.blk 0
  (.loop Ba_avouchref01zShift)))
 (.seq (.reg [iv 14 (.mv (.t 0)),
   iv 15 (.mv (.t 5)),
   iv 16 (.slit 1 1 [.int .u64 0] [(0, .t 15)]),
   ir 17 (.call i_avouchref01zMul [.t 14, .t 16]),
   iv 4 (.mv (.t 17))])
 (.ret))))
def F_avouchref01zShift : AFn := ⟨18, C_avouchref01zShift, [.tmp 4]⟩
def Ba_avouchref01zAdd : AC := .seq (.seq (.reg [iv 21 (.mv (.t 8)),
     iv 22 (.mv (.t 5)),
     iv 23 (.bin .leq (.t 21) (.t 22))])
   (.cond (.t 23)
    (.skip)
    (.exit 0)))
   (.seq (.blk 1
    (.seq (.reg [iv 26 (.mv (.t 0)),
      iv 27 (.mv (.t 8)),
      ir 28 (.call i_avouchref01zget [.t 26, .t 27]),
      iv 29 (.mv (.t 1)),
      iv 30 (.mv (.t 8)),
      ir 31 (.call i_avouchref01zget [.t 29, .t 30]),
      iv 32 (.bin .add (.t 28) (.t 31)),
      iv 33 (.mv (.t 7)),
      iv 34 (.bin .add (.t 32) (.t 33)),
      iv 9 (.mv (.t 34))])
    (.seq (.reg [iv 35 (.mv (.t 6)),
      iv 36 (.mv (.t 9)),
      iv 37 (.bin .rem (.t 36) (.k (.int .u64 4294967296))),
      iv 38 (.slit 1 1 [.int .u64 0] [(0, .t 37)]),
      ic 39 (.app 1 false (.t 35) (.t 38)),
      iv 6 (.mv (.t 39))])
    (.reg [iv 40 (.mv (.t 9)),
      iv 41 (.bin .quo (.t 40) (.k (.int .u64 4294967296))),
      iv 7 (.mv (.t 41))]))))
   (.reg [iv 24 (.mv (.t 8)),
     iv 25 (.bin .add (.t 24) (.k (.int .i64 1))),
     iv 8 (.mv (.t 25))]))
def C_avouchref01zAdd : AC := .seq (.reg [iv 4 (.mv (.k (.nsl)))])
 (.seq (.reg [iv 10 (.mv (.t 0)),
   iv 11 (.lenL (.t 10)),
   iv 5 (.mv (.t 11))])
 (.seq (.seq (.reg [iv 12 (.mv (.t 1)),
   iv 13 (.lenL (.t 12)),
   iv 14 (.mv (.t 5)),
   iv 15 (.bin .gtr (.t 13) (.t 14))])
 (.cond (.t 15)
  (.reg [iv 16 (.mv (.t 1)),
    iv 17 (.lenL (.t 16)),
    iv 5 (.mv (.t 17))])
  (.skip)))
 (.seq (.reg [iv 18 (.mv (.t 5)),
   iv 19 (.bin .add (.t 18) (.k (.int .i64 1))),
   ic 20 (.mkc 1 [.int .u64 0] (.k (.int .i64 0)) (.t 19)),
   iv 6 (.mv (.t 20))])
 (.seq (.reg [iv 7 (.mv (.k (.int .u64 0)))])
 (.seq (.seq (.reg [iv 8 (.mv (.k (.int .i64 0)))])
 (.blk 0
  (.loop Ba_avouchref01zAdd)))
 (.seq (.reg [iv 42 (.mv (.t 6)),
   ir 43 (.call i_avouchref01zTrim [.t 42]),
   iv 4 (.mv (.t 43))])
 (.ret)))))))
def F_avouchref01zAdd : AFn := ⟨44, C_avouchref01zAdd, [.tmp 4]⟩
def Ba_avouchref01zMul : AC := .seq (.seq (.reg [iv 23 (.mv (.t 8)),
        iv 24 (.mv (.t 1)),
        iv 25 (.lenL (.t 24)),
        iv 26 (.bin .lss (.t 23) (.t 25))])
      (.cond (.t 26)
       (.skip)
       (.exit 2)))
      (.seq (.blk 3
       (.seq (.draw [⟨(some 29), .v (.mv (.t 5)), none, [5], 0, 0⟩,
         ⟨(some 30), .v (.mv (.t 6)), none, [6], 0, 0⟩,
         ⟨(some 31), .v (.mv (.t 8)), none, [8], 0, 0⟩,
         ⟨(some 32), .v (.bin .add (.t 30) (.t 31)), none, [30, 31], 0, 0⟩,
         ⟨(some 33), .v (.iadr none 1 (.t 29) (.t 32)), none, [29, 32], 0, 0⟩,
         ⟨(some 34), .r (.ld 1 false (.t 33)), none, [33], 0, 0⟩,
         ⟨(some 35), .v (.mv (.t 0)), none, [0], 0, 0⟩,
         ⟨(some 36), .v (.mv (.t 6)), none, [6], 0, 0⟩,
         ⟨(some 37), .v (.iadr none 1 (.t 35) (.t 36)), none, [35, 36], 0, 0⟩,
         ⟨(some 38), .r (.ld 1 false (.t 37)), none, [37], 0, 0⟩,
         ⟨(some 39), .v (.mv (.t 1)), none, [1], 0, 0⟩,
         ⟨(some 40), .v (.mv (.t 8)), none, [8], 0, 0⟩,
         ⟨(some 41), .v (.iadr none 1 (.t 39) (.t 40)), none, [39, 40], 0, 0⟩,
         ⟨(some 42), .r (.ld 1 false (.t 41)), none, [41], 0, 0⟩,
         ⟨(some 43), .v (.bin .mul (.t 38) (.t 42)), none, [38, 42], 0, 0⟩,
         ⟨(some 44), .v (.bin .add (.t 34) (.t 43)), none, [34, 43], 0, 0⟩,
         ⟨(some 45), .v (.mv (.t 7)), none, [7], 0, 0⟩,
         ⟨(some 46), .v (.bin .add (.t 44) (.t 45)), none, [44, 45], 0, 0⟩,
         ⟨(some 9), .v (.mv (.t 46)), none, [46], 0, 0⟩])
       (.seq (.reg [iv 47 (.mv (.t 5)),
         iv 48 (.mv (.t 6)),
         iv 49 (.mv (.t 8)),
         iv 50 (.bin .add (.t 48) (.t 49)),
         iv 51 (.mv (.t 9)),
         iv 52 (.bin .rem (.t 51) (.k (.int .u64 4294967296))),
         iv 53 (.iadr none 1 (.t 47) (.t 50)),
         jc (.st 1 (.t 53) (.t 52))])
       (.reg [iv 54 (.mv (.t 9)),
         iv 55 (.bin .quo (.t 54) (.k (.int .u64 4294967296))),
         iv 7 (.mv (.t 55))]))))
      (.reg [iv 27 (.mv (.t 8)),
        iv 28 (.bin .add (.t 27) (.k (.int .i64 1))),
        iv 8 (.mv (.t 28))]))
def Bb_avouchref01zMul : AC := .seq (.seq (.reg [iv 17 (.mv (.t 6)),
     iv 18 (.mv (.t 0)),
     iv 19 (.lenL (.t 18)),
     iv 20 (.bin .lss (.t 17) (.t 19))])
   (.cond (.t 20)
    (.skip)
    (.exit 0)))
   (.seq (.blk 1
    (.seq (.reg [iv 7 (.mv (.k (.int .u64 0)))])
    (.seq (.seq (.reg [iv 8 (.mv (.k (.int .i64 0)))])
    (.blk 2
     (.loop Ba_avouchref01zMul)))
    (.reg [iv 56 (.mv (.t 5)),
      iv 57 (.mv (.t 6)),
      iv 58 (.mv (.t 1)),
      iv 59 (.lenL (.t 58)),
      iv 60 (.bin .add (.t 57) (.t 59)),
      iv 61 (.mv (.t 7)),
      iv 62 (.iadr none 1 (.t 56) (.t 60)),
      jc (.st 1 (.t 62) (.t 61))]))))
   (.reg [iv 21 (.mv (.t 6)),
     iv 22 (.bin .add (.t 21) (.k (.int .i64 1))),
     iv 6 (.mv (.t 22))]))
def C_avouchref01zMul : AC := .seq (.reg [iv 4 (.mv (.k (.nsl)))])
 (.seq (.reg [iv 10 (.mv (.t 0)),
   iv 11 (.lenL (.t 10)),
   iv 12 (.mv (.t 1)),
   iv 13 (.lenL (.t 12)),
   iv 14 (.bin .add (.t 11) (.t 13)),
   iv 15 (.bin .add (.t 14) (.k (.int .i64 1))),
   ic 16 (.mk 1 [.int .u64 0] (.t 15)),
   iv 5 (.mv (.t 16))])
 (.seq (.seq (.reg [iv 6 (.mv (.k (.int .i64 0)))])
 (.blk 0
  (.loop Bb_avouchref01zMul)))
 (.seq (.reg [iv 63 (.mv (.t 5)),
   ir 64 (.call i_avouchref01zTrim [.t 63]),
   iv 4 (.mv (.t 64))])
 (.ret))))
def F_avouchref01zMul : AFn := ⟨65, C_avouchref01zMul, [.tmp 4]⟩
def C_limb_Modulus_less : AC := .seq (.reg [iv 6 (.mv (.k (.nsl)))])
 (.seq (.seq (.reg [iv 9 (.mv (.t 2)),
   iv 10 (.bin .eql (.t 9) (.k (.int .u64 0))),
   iv 11 (.mv (.t 10)),
   ⟨(some 12), .v (.mv (.t 1)), (some (11, true)), [], 0, 0⟩,
   ⟨(some 13), .v (.mv (.t 0)), (some (11, true)), [], 0, 0⟩,
   ⟨(some 14), .v (.nck (.t 13)), (some (11, true)), [], 0, 0⟩,
   ⟨(some 15), .v (.fadr 0 (.t 14)), (some (11, true)), [], 0, 0⟩,
   ⟨(some 16), .r (.ld 1 false (.t 15)), (some (11, true)), [], 0, 0⟩,
   ⟨(some 17), .r (.call i_limb_Cmp [.t 12, .t 16]), (some (11, true)), [], 0, 0⟩,
   ⟨(some 18), .v (.bin .lss (.t 17) (.k (.int .i64 0))), (some (11, true)), [], 0, 0⟩,
   iv 19 (.pick (.t 11) (.t 18) (.k (.bool false)))])
 (.cond (.t 19)
  (.seq (.reg [iv 20 (.mv (.t 1)),
    iv 6 (.mv (.t 20))])
  (.ret))
  (.skip)))
 (.seq (.reg [iv 22 (.mv (.t 1)),
   iv 23 (.mv (.t 0)),
   iv 24 (.nck (.t 23)),
   iv 25 (.fadr 0 (.t 24)),
   ir 26 (.ld 1 false (.t 25)),
   ir 27 (.call i_limb_Sub [.t 22, .t 26]),
   iv 21 (.mv (.t 27)),
   iv 28 (.ext (.t 21) 0),
   iv 29 (.ext (.t 21) 1),
   iv 7 (.mv (.t 28)),
   iv 8 (.mv (.t 29))])
 (.seq (.reg [iv 30 (.mv (.t 7)),
   iv 6 (.mv (.t 30))])
 (.ret))))
def F_limb_Modulus_less : AFn := ⟨31, C_limb_Modulus_less, [.tmp 6]⟩
def Ba_field_inverse : AC := .seq (.reg [iv 6 (.bin .lss (.t 5) (.k (.int .i64 6)))])
   (.seq (.cond (.t 6)
    (.skip)
    (.exit 0))
   (.seq (.blk 1
    (.reg [iv 7 (.mv (.t 2)),
      iv 8 (.mv (.t 1)),
      iv 9 (.mv (.t 2)),
      iv 10 (.bin .mul (.t 8) (.t 9)),
      iv 11 (.bin .sub (.k (.int .u64 2)) (.t 10)),
      iv 12 (.bin .mul (.t 7) (.t 11)),
      iv 2 (.mv (.t 12))]))
   (.reg [iv 13 (.bin .add (.t 5) (.k (.int .i64 1))),
     iv 5 (.mv (.t 13))])))
def C_field_inverse : AC := .seq (.reg [iv 0 (.mv (.k (.int .u64 0)))])
 (.seq (.reg [ir 3 (.call i_field_prime []),
   iv 4 (.idxA 4 1 false (.t 3) (.k (.int .i64 0))),
   iv 1 (.mv (.t 4)),
   iv 2 (.mv (.k (.int .u64 1)))])
 (.seq (.seq (.reg [iv 5 (.mv (.k (.int .i64 0)))])
 (.blk 0
  (.loop Ba_field_inverse)))
 (.seq (.reg [iv 14 (.mv (.t 2)),
   iv 15 (.un .neg (.t 14)),
   iv 0 (.mv (.t 15))])
 (.ret))))
def F_field_inverse : AFn := ⟨16, C_field_inverse, [.tmp 0]⟩
def C_field_line : AC := .seq (.reg [iv 8 (.mv (.k (.int .u64 0))),
   iv 9 (.mv (.k (.int .u64 0)))])
 (.seq (.reg [iv 14 (.mv (.t 1)),
   iv 15 (.mv (.t 2)),
   ir 16 (.call i_math_bits_Mul64 [.t 14, .t 15]),
   iv 13 (.mv (.t 16)),
   iv 17 (.ext (.t 13) 0),
   iv 18 (.ext (.t 13) 1),
   iv 10 (.mv (.t 17)),
   iv 11 (.mv (.t 18))])
 (.seq (.reg [iv 20 (.mv (.t 11)),
   iv 21 (.mv (.t 0)),
   ic 22 (.call i_math_bits_Add64 [.t 20, .t 21, .k (.int .u64 0)]),
   iv 19 (.mv (.t 22)),
   iv 23 (.ext (.t 19) 0),
   iv 24 (.ext (.t 19) 1),
   iv 11 (.mv (.t 23)),
   iv 12 (.mv (.t 24))])
 (.seq (.reg [iv 25 (.mv (.t 10)),
   iv 26 (.mv (.t 12)),
   iv 27 (.bin .add (.t 25) (.t 26)),
   iv 10 (.mv (.t 27))])
 (.seq (.reg [iv 29 (.mv (.t 11)),
   iv 30 (.mv (.t 3)),
   ic 31 (.call i_math_bits_Add64 [.t 29, .t 30, .k (.int .u64 0)]),
   iv 28 (.mv (.t 31)),
   iv 32 (.ext (.t 28) 0),
   iv 33 (.ext (.t 28) 1),
   iv 11 (.mv (.t 32)),
   iv 12 (.mv (.t 33))])
 (.seq (.reg [iv 34 (.mv (.t 11)),
   iv 35 (.mv (.t 10)),
   iv 36 (.mv (.t 12)),
   iv 37 (.bin .add (.t 35) (.t 36)),
   iv 8 (.mv (.t 34)),
   iv 9 (.mv (.t 37))])
 (.ret))))))
def F_field_line : AFn := ⟨38, C_field_line, [.tmp 8, .tmp 9]⟩
def Ba_avouchref01zBits : AC := .seq (.seq (.reg [iv 10 (.mv (.t 3)),
     iv 11 (.bin .geq (.t 10) (.k (.int .i64 0)))])
   (.cond (.t 11)
    (.skip)
    (.exit 0)))
   (.seq (.blk 1
    (.seq (.reg [iv 14 (.mv (.t 0)),
      iv 15 (.mv (.t 3)),
      ir 16 (.call i_avouchref01zBit [.t 14, .t 15]),
      iv 17 (.bin .eql (.t 16) (.k (.int .u64 1)))])
    (.cond (.t 17)
     (.seq (.reg [iv 18 (.mv (.t 3)),
       iv 19 (.bin .add (.t 18) (.k (.int .i64 1))),
       iv 2 (.mv (.t 19))])
     (.ret))
     (.skip))))
   (.reg [iv 12 (.mv (.t 3)),
     iv 13 (.bin .sub (.t 12) (.k (.int .i64 1))),
     iv 3 (.mv (.t 13))]))
def C_avouchref01zBits : AC := .seq (.reg [iv 2 (.mv (.k (.int .i64 0)))])
 (.seq (.reg [iv 4 (.mv (.t 0)),
   ir 5 (.call i_avouchref01zTrim [.t 4]),
   iv 0 (.mv (.t 5))])
 (.seq (.seq (.reg [iv 6 (.mv (.t 0)),
   iv 7 (.lenL (.t 6)),
   iv 8 (.bin .mul (.k (.int .i64 32)) (.t 7)),
   iv 9 (.bin .sub (.t 8) (.k (.int .i64 1))),
   iv 3 (.mv (.t 9))])
 (.blk 0
  (.loop Ba_avouchref01zBits)))
 (.seq (.reg [iv 2 (.mv (.k (.int .i64 0)))])
 (.ret))))
def F_avouchref01zBits : AFn := ⟨20, C_avouchref01zBits, [.tmp 2]⟩
def Ba_avouchref02zMul : AC := .seq (.seq (.reg [iv 15 (.mv (.t 6)),
     iv 16 (.bin .lss (.t 15) (.k (.int .i64 9)))])
   (.cond (.t 16)
    (.skip)
    (.exit 0)))
   (.seq (.blk 1
    (.reg [iv 19 (.mv (.t 6)),
      iv 20 (.build (rep1 (.int .u64 0) 9) []),
      iv 21 (.mv (.t 6)),
      iv 22 (.bin .sub (.t 21) (.k (.int .i64 1))),
      iv 23 (.iadr (some 9) 9 (.t 5) (.t 22)),
      ir 24 (.ld 9 true (.t 23)),
      ir 25 (.call i_avouchref02zmore [.t 20, .t 24, .k (.int .u64 2)]),
      iv 26 (.iadr (some 9) 9 (.t 5) (.t 19)),
      jc (.st 9 (.t 26) (.t 25))]))
   (.reg [iv 17 (.mv (.t 6)),
     iv 18 (.bin .add (.t 17) (.k (.int .i64 1))),
     iv 6 (.mv (.t 18))]))
def Bb_avouchref02zMul : AC := .seq (.seq (.reg [iv 45 (.mv (.t 11)),
        iv 46 (.bin .geq (.t 45) (.k (.int .i64 0)))])
      (.cond (.t 46)
       (.skip)
       (.exit 4)))
      (.seq (.blk 5
       (.seq (.draw [⟨(some 49), .r (.ld 9 true (.t 8)), none, [8], 0, 0⟩,
         ⟨(some 50), .v (.mv (.t 11)), none, [11], 0, 0⟩,
         ⟨(some 51), .v (.iadr (some 9) 9 (.t 5) (.t 50)), none, [5, 50], 0, 0⟩,
         ⟨(some 52), .r (.ld 9 true (.t 51)), none, [51], 0, 0⟩,
         ⟨(some 53), .r (.call i_avouchref02zreaches [.t 49, .t 52]), none, [49, 52], 0, 0⟩])
       (.cond (.t 53)
        (.draw [⟨(some 54), .r (.ld 9 true (.t 8)), none, [8], 0, 0⟩,
          ⟨(some 55), .v (.mv (.t 11)), none, [11], 0, 0⟩,
          ⟨(some 56), .v (.iadr (some 9) 9 (.t 5) (.t 55)), none, [5, 55], 0, 0⟩,
          ⟨(some 57), .r (.ld 9 true (.t 56)), none, [56], 0, 0⟩,
          ⟨(some 58), .r (.call i_avouchref02zminus [.t 54, .t 57]), none, [54, 57], 0, 0⟩,
          ⟨none, .c (.st 9 (.t 8) (.t 58)), none, [8, 58], 0, 0⟩])
        (.skip))))
      (.reg [iv 47 (.mv (.t 11)),
        iv 48 (.bin .sub (.t 47) (.k (.int .i64 1))),
        iv 11 (.mv (.t 48))]))
def Bc_avouchref02zMul : AC := .seq (.seq (.reg [iv 33 (.mv (.t 10)),
     iv 34 (.bin .geq (.t 33) (.k (.int .i64 0)))])
   (.cond (.t 34)
    (.skip)
    (.exit 2)))
   (.seq (.blk 3
    (.seq (.draw [⟨(some 37), .r (.ld 9 true (.t 8)), none, [8], 0, 0⟩,
      ⟨(some 38), .r (.ld 9 true (.t 9)), none, [9], 0, 0⟩,
      ⟨(some 39), .v (.mv (.t 7)), none, [7], 0, 0⟩,
      ⟨(some 40), .v (.mv (.t 10)), none, [10], 0, 0⟩,
      ⟨(some 41), .v (.iadr none 1 (.t 39) (.t 40)), none, [39, 40], 0, 0⟩,
      ⟨(some 42), .r (.ld 1 false (.t 41)), none, [41], 0, 0⟩,
      ⟨(some 43), .v (.i2i .u64 (.t 42)), none, [42], 0, 0⟩,
      ⟨(some 44), .r (.call i_avouchref02zmore [.t 37, .t 38, .t 43]), none, [37, 38, 43], 0, 0⟩,
      ⟨none, .c (.st 9 (.t 8) (.t 44)), none, [8, 44], 0, 0⟩])
    (.seq (.reg [iv 11 (.mv (.k (.int .i64 8)))])
    (.blk 4
     (.loop Bb_avouchref02zMul)))))
   (.reg [iv 35 (.mv (.t 10)),
     iv 36 (.bin .sub (.t 35) (.k (.int .i64 1))),
     iv 10 (.mv (.t 36))]))
def C_avouchref02zMul : AC := .seq (.reg [iv 4 (.mv (.k (.nsl)))])
 (.seq (.reg [ir 12 (.call i_avouchref02zP []),
   ir 13 (.call i_avouchref02zrowOf [.t 12]),
   iv 14 (.build (rep1 (.int .u64 0) 81) [(0, 9, .t 13)]),
   ic 5 (.alloc (rep1 (.int .u64 0) 81)),
   jc (.st 81 (.t 5) (.t 14))])
 (.seq (.seq (.reg [iv 6 (.mv (.k (.int .i64 1)))])
 (.blk 0
  (.loop Ba_avouchref02zMul)))
 (.seq (.reg [iv 27 (.mv (.t 0)),
   ir 28 (.call i_avouchref01zWords [.t 27, .k (.int .i64 4)]),
   ir 29 (.call i_avouchref01zBytes [.t 28]),
   iv 7 (.mv (.t 29))])
 (.seq (.reg [iv 30 (.build (rep1 (.int .u64 0) 9) []),
   ic 8 (.alloc (rep1 (.int .u64 0) 9)),
   jc (.st 9 (.t 8) (.t 30))])
 (.seq (.reg [iv 31 (.mv (.t 1)),
   ir 32 (.call i_avouchref02zrowOf [.t 31]),
   ic 9 (.alloc (rep1 (.int .u64 0) 9)),
   jc (.st 9 (.t 9) (.t 32))])
 (.seq (.seq (.reg [iv 10 (.mv (.k (.int .i64 31)))])
 (.blk 2
  (.loop Bc_avouchref02zMul)))
 (.seq (.reg [iv 59 (.slit 1 0 [.int .u64 0] []),
   iv 60 (.slice (.arr 9) 1 (.t 8) none none none),
   ic 61 (.app 1 false (.t 59) (.t 60)),
   ir 62 (.call i_avouchref01zTrim [.t 61]),
   iv 4 (.mv (.t 62))])
 (.ret))))))))
def F_avouchref02zMul : AFn := ⟨63, C_avouchref02zMul, [.tmp 4]⟩
def Ba_avouchref01zBit : AC := .seq (.seq (.reg [iv 11 (.mv (.t 6)),
     iv 12 (.mv (.t 1)),
     iv 13 (.bin .rem (.t 12) (.k (.int .i64 32))),
     iv 14 (.bin .lss (.t 11) (.t 13))])
   (.cond (.t 14)
    (.skip)
    (.exit 0)))
   (.seq (.blk 1
    (.reg [iv 17 (.mv (.t 5)),
      iv 18 (.bin .quo (.t 17) (.k (.int .u64 2))),
      iv 5 (.mv (.t 18))]))
   (.reg [iv 15 (.mv (.t 6)),
     iv 16 (.bin .add (.t 15) (.k (.int .i64 1))),
     iv 6 (.mv (.t 16))]))
def C_avouchref01zBit : AC := .seq (.reg [iv 4 (.mv (.k (.int .u64 0)))])
 (.seq (.reg [iv 7 (.mv (.t 0)),
   iv 8 (.mv (.t 1)),
   iv 9 (.bin .quo (.t 8) (.k (.int .i64 32))),
   ir 10 (.call i_avouchref01zget [.t 7, .t 9]),
   iv 5 (.mv (.t 10))])
 (.seq (.seq (.reg [iv 6 (.mv (.k (.int .i64 0)))])
 (.blk 0
  (.loop Ba_avouchref01zBit)))
 (.seq (.reg [iv 19 (.mv (.t 5)),
   iv 20 (.bin .rem (.t 19) (.k (.int .u64 2))),
   iv 4 (.mv (.t 20))])
 (.ret))))
def F_avouchref01zBit : AFn := ⟨21, C_avouchref01zBit, [.tmp 4]⟩
def Ba_limb_Cmp : AC := .seq (.seq (.reg [iv 13 (.mv (.t 5)),
     iv 14 (.bin .geq (.t 13) (.k (.int .i64 0)))])
   (.cond (.t 14)
    (.skip)
    (.exit 0)))
   (.seq (.blk 1
    (.seq (.reg [iv 17 (.mv (.t 0)),
      iv 18 (.mv (.t 5)),
      ir 19 (.call i_limb_at [.t 17, .t 18]),
      iv 20 (.mv (.t 1)),
      iv 21 (.mv (.t 5)),
      ir 22 (.call i_limb_at [.t 20, .t 21]),
      ir 23 (.call i_cmp_Compareuint64 [.t 19, .t 22]),
      iv 6 (.mv (.t 23))])
    (.seq (.reg [iv 24 (.mv (.t 6)),
      iv 25 (.bin .neq (.t 24) (.k (.int .i64 0)))])
    (.cond (.t 25)
     (.seq (.reg [iv 26 (.mv (.t 6)),
       iv 4 (.mv (.t 26))])
     (.ret))
     (.skip)))))
   (.reg [iv 15 (.mv (.t 5)),
     iv 16 (.bin .sub (.t 15) (.k (.int .i64 1))),
     iv 5 (.mv (.t 16))]))
def C_limb_Cmp : AC := .seq (.reg [iv 4 (.mv (.k (.int .i64 0)))])
 (.seq (.seq (.reg [iv 7 (.mv (.t 0)),
   iv 8 (.lenL (.t 7)),
   iv 9 (.mv (.t 1)),
   iv 10 (.lenL (.t 9)),
   iv 11 (.mxmn true [.t 8, .t 10]),
   iv 12 (.bin .sub (.t 11) (.k (.int .i64 1))),
   iv 5 (.mv (.t 12))])
 (.blk 0
  (.loop Ba_limb_Cmp)))
 (.seq (.reg [iv 4 (.mv (.k (.int .i64 0)))])
 (.ret)))
def F_limb_Cmp : AFn := ⟨27, C_limb_Cmp, [.tmp 4]⟩
def C_limb_Sub : AC := .seq (.reg [iv 4 (.mv (.k (.nsl))),
   iv 5 (.mv (.k (.int .u64 0)))])
 (.seq (.reg [iv 6 (.mv (.t 0)),
   iv 7 (.mv (.t 1)),
   ir 8 (.call i_limb_each [.t 6, .t 7, .k (.fn (.func i_math_bits_Sub64) [] [])]),
   iv 9 (.ext (.t 8) 0),
   iv 10 (.ext (.t 8) 1),
   iv 4 (.mv (.t 9)),
   iv 5 (.mv (.t 10))])
 (.ret))
def F_limb_Sub : AFn := ⟨11, C_limb_Sub, [.tmp 4, .tmp 5]⟩
def C_math_bits_Mul64 : AC := .seq (.reg [iv 4 (.mv (.k (.int .u64 0))),
   iv 5 (.mv (.k (.int .u64 0)))])
 (.seq (.reg [iv 14 (.mv (.t 0)),
   iv 15 (.bin .and (.t 14) (.k (.int .u64 4294967295))),
   iv 6 (.mv (.t 15))])
 (.seq (.reg [iv 16 (.mv (.t 0)),
   iv 17 (.bin .shr (.t 16) (.k (.int .u64 32))),
   iv 7 (.mv (.t 17))])
 (.seq (.reg [iv 18 (.mv (.t 1)),
   iv 19 (.bin .and (.t 18) (.k (.int .u64 4294967295))),
   iv 8 (.mv (.t 19))])
 (.seq (.reg [iv 20 (.mv (.t 1)),
   iv 21 (.bin .shr (.t 20) (.k (.int .u64 32))),
   iv 9 (.mv (.t 21))])
 (.seq (.reg [iv 22 (.mv (.t 6)),
   iv 23 (.mv (.t 8)),
   iv 24 (.bin .mul (.t 22) (.t 23)),
   iv 10 (.mv (.t 24))])
 (.seq (.reg [iv 25 (.mv (.t 7)),
   iv 26 (.mv (.t 8)),
   iv 27 (.bin .mul (.t 25) (.t 26)),
   iv 28 (.mv (.t 10)),
   iv 29 (.bin .shr (.t 28) (.k (.int .u64 32))),
   iv 30 (.bin .add (.t 27) (.t 29)),
   iv 11 (.mv (.t 30))])
 (.seq (.reg [iv 31 (.mv (.t 11)),
   iv 32 (.bin .and (.t 31) (.k (.int .u64 4294967295))),
   iv 12 (.mv (.t 32))])
 (.seq (.reg [iv 33 (.mv (.t 11)),
   iv 34 (.bin .shr (.t 33) (.k (.int .u64 32))),
   iv 13 (.mv (.t 34))])
 (.seq (.reg [iv 35 (.mv (.t 12)),
   iv 36 (.mv (.t 6)),
   iv 37 (.mv (.t 9)),
   iv 38 (.bin .mul (.t 36) (.t 37)),
   iv 39 (.bin .add (.t 35) (.t 38)),
   iv 12 (.mv (.t 39))])
 (.seq (.reg [iv 40 (.mv (.t 7)),
   iv 41 (.mv (.t 9)),
   iv 42 (.bin .mul (.t 40) (.t 41)),
   iv 43 (.mv (.t 13)),
   iv 44 (.bin .add (.t 42) (.t 43)),
   iv 45 (.mv (.t 12)),
   iv 46 (.bin .shr (.t 45) (.k (.int .u64 32))),
   iv 47 (.bin .add (.t 44) (.t 46)),
   iv 4 (.mv (.t 47))])
 (.seq (.reg [iv 48 (.mv (.t 0)),
   iv 49 (.mv (.t 1)),
   iv 50 (.bin .mul (.t 48) (.t 49)),
   iv 5 (.mv (.t 50))])
 (.ret))))))))))))
def F_math_bits_Mul64 : AFn := ⟨51, C_math_bits_Mul64, [.tmp 4, .tmp 5]⟩
def Ba_avouchref02zrowOf : AC := .seq (.seq (.reg [iv 6 (.mv (.t 4)),
     iv 7 (.mv (.t 0)),
     iv 8 (.lenL (.t 7)),
     iv 9 (.bin .lss (.t 6) (.t 8)),
     iv 10 (.mv (.t 9)),
     ⟨(some 11), .v (.mv (.t 4)), (some (10, true)), [], 0, 0⟩,
     ⟨(some 12), .v (.bin .lss (.t 11) (.k (.int .i64 9))), (some (10, true)), [], 0, 0⟩,
     iv 13 (.pick (.t 10) (.t 12) (.k (.bool false)))])
   (.cond (.t 13)
    (.skip)
    (.exit 0)))
   (.seq (.blk 1
    (.reg [iv 16 (.mv (.t 4)),
      iv 17 (.mv (.t 0)),
      iv 18 (.mv (.t 4)),
      iv 19 (.iadr none 1 (.t 17) (.t 18)),
      ir 20 (.ld 1 false (.t 19)),
      iv 21 (.iadr (some 9) 1 (.t 3) (.t 16)),
      jc (.st 1 (.t 21) (.t 20))]))
   (.reg [iv 14 (.mv (.t 4)),
     iv 15 (.bin .add (.t 14) (.k (.int .i64 1))),
     iv 4 (.mv (.t 15))]))
def C_avouchref02zrowOf : AC := .seq (.reg [ic 2 (.alloc (rep1 (.int .u64 0) 9))])
 (.seq (.reg [iv 5 (.build (rep1 (.int .u64 0) 9) []),
   ic 3 (.alloc (rep1 (.int .u64 0) 9)),
   jc (.st 9 (.t 3) (.t 5))])
 (.seq (.seq (.reg [iv 4 (.mv (.k (.int .i64 0)))])
 (.blk 0
  (.loop Ba_avouchref02zrowOf)))
 (.seq (.reg [ir 22 (.ld 9 true (.t 3)),
   jc (.st 9 (.t 2) (.t 22))])
 (.ret))))
def F_avouchref02zrowOf : AFn := ⟨23, C_avouchref02zrowOf, [.cell 2 9 true]⟩
def Ba_avouchref02zmore : AC := .seq (.seq (.reg [iv 10 (.mv (.t 8)),
     iv 11 (.bin .lss (.t 10) (.k (.int .i64 9)))])
   (.cond (.t 11)
    (.skip)
    (.exit 0)))
   (.seq (.blk 1
    (.seq (.draw [⟨(some 14), .v (.mv (.t 8)), none, [8], 0, 0⟩,
      ⟨(some 15), .v (.iadr (some 9) 1 (.t 3) (.t 14)), none, [3, 14], 0, 0⟩,
      ⟨(some 16), .r (.ld 1 false (.t 15)), none, [15], 0, 0⟩,
      ⟨(some 17), .v (.bin .mul (.t 16) (.k (.int .u64 256))), none, [16], 0, 0⟩,
      ⟨(some 18), .v (.mv (.t 8)), none, [8], 0, 0⟩,
      ⟨(some 19), .v (.iadr (some 9) 1 (.t 4) (.t 18)), none, [4, 18], 0, 0⟩,
      ⟨(some 20), .r (.ld 1 false (.t 19)), none, [19], 0, 0⟩,
      ⟨(some 21), .v (.mv (.t 2)), none, [2], 0, 0⟩,
      ⟨(some 22), .v (.bin .mul (.t 20) (.t 21)), none, [20, 21], 0, 0⟩,
      ⟨(some 23), .v (.bin .add (.t 17) (.t 22)), none, [17, 22], 0, 0⟩,
      ⟨(some 24), .v (.mv (.t 7)), none, [7], 0, 0⟩,
      ⟨(some 25), .v (.bin .add (.t 23) (.t 24)), none, [23, 24], 0, 0⟩,
      ⟨(some 9), .v (.mv (.t 25)), none, [25], 0, 0⟩])
    (.seq (.reg [iv 26 (.mv (.t 8)),
      iv 27 (.mv (.t 9)),
      iv 28 (.bin .rem (.t 27) (.k (.int .u64 4294967296))),
      iv 29 (.iadr (some 9) 1 (.t 3) (.t 26)),
      jc (.st 1 (.t 29) (.t 28))])
    (.reg [iv 30 (.mv (.t 9)),
      iv 31 (.bin .quo (.t 30) (.k (.int .u64 4294967296))),
      iv 7 (.mv (.t 31))]))))
   (.reg [iv 12 (.mv (.t 8)),
     iv 13 (.bin .add (.t 12) (.k (.int .i64 1))),
     iv 8 (.mv (.t 13))]))
def C_avouchref02zmore : AC := .seq (.reg [ic 3 (.box (.t 0)),
   iv 4 (.boxv (.t 1)),
   ic 6 (.alloc (rep1 (.int .u64 0) 9))])
 (.seq (.reg [iv 7 (.mv (.k (.int .u64 0)))])
 (.seq (.seq (.reg [iv 8 (.mv (.k (.int .i64 0)))])
 (.blk 0
  (.loop Ba_avouchref02zmore)))
 (.seq (.reg [ir 32 (.ld 9 true (.t 3)),
   jc (.st 9 (.t 6) (.t 32))])
 (.ret))))
def F_avouchref02zmore : AFn := ⟨33, C_avouchref02zmore, [.cell 6 9 true]⟩
def Ba_avouchref02zreaches : AC := .seq (.seq (.reg [iv 6 (.mv (.t 5)),
     iv 7 (.bin .geq (.t 6) (.k (.int .i64 0)))])
   (.cond (.t 7)
    (.skip)
    (.exit 0)))
   (.seq (.blk 1
    (.seq (.draw [⟨(some 10), .v (.mv (.t 5)), none, [5], 0, 0⟩,
      ⟨(some 11), .v (.iadr (some 9) 1 (.t 2) (.t 10)), none, [2, 10], 0, 0⟩,
      ⟨(some 12), .r (.ld 1 false (.t 11)), none, [11], 0, 0⟩,
      ⟨(some 13), .v (.mv (.t 5)), none, [5], 0, 0⟩,
      ⟨(some 14), .v (.iadr (some 9) 1 (.t 3) (.t 13)), none, [3, 13], 0, 0⟩,
      ⟨(some 15), .r (.ld 1 false (.t 14)), none, [14], 0, 0⟩,
      ⟨(some 16), .v (.bin .neq (.t 12) (.t 15)), none, [12, 15], 0, 0⟩])
    (.cond (.t 16)
     (.seq (.draw [⟨(some 17), .v (.mv (.t 5)), none, [5], 0, 0⟩,
       ⟨(some 18), .v (.iadr (some 9) 1 (.t 2) (.t 17)), none, [2, 17], 0, 0⟩,
       ⟨(some 19), .r (.ld 1 false (.t 18)), none, [18], 0, 0⟩,
       ⟨(some 20), .v (.mv (.t 5)), none, [5], 0, 0⟩,
       ⟨(some 21), .v (.iadr (some 9) 1 (.t 3) (.t 20)), none, [3, 20], 0, 0⟩,
       ⟨(some 22), .r (.ld 1 false (.t 21)), none, [21], 0, 0⟩,
       ⟨(some 23), .v (.bin .gtr (.t 19) (.t 22)), none, [19, 22], 0, 0⟩,
       ⟨(some 4), .v (.mv (.t 23)), none, [23], 0, 0⟩])
     (.ret))
     (.skip))))
   (.reg [iv 8 (.mv (.t 5)),
     iv 9 (.bin .sub (.t 8) (.k (.int .i64 1))),
     iv 5 (.mv (.t 9))]))
def C_avouchref02zreaches : AC := .seq (.reg [iv 2 (.boxv (.t 0)),
   iv 3 (.boxv (.t 1)),
   iv 4 (.mv (.k (.bool false)))])
 (.seq (.seq (.reg [iv 5 (.mv (.k (.int .i64 8)))])
 (.blk 0
  (.loop Ba_avouchref02zreaches)))
 (.seq (.reg [iv 4 (.mv (.k (.bool true)))])
 (.ret)))
def F_avouchref02zreaches : AFn := ⟨24, C_avouchref02zreaches, [.tmp 4]⟩
def Ba_avouchref02zminus : AC := .seq (.seq (.reg [iv 8 (.mv (.t 6)),
     iv 9 (.bin .lss (.t 8) (.k (.int .i64 9)))])
   (.cond (.t 9)
    (.skip)
    (.exit 0)))
   (.seq (.blk 1
    (.seq (.draw [⟨(some 12), .v (.mv (.t 6)), none, [6], 0, 0⟩,
      ⟨(some 13), .v (.iadr (some 9) 1 (.t 2) (.t 12)), none, [2, 12], 0, 0⟩,
      ⟨(some 14), .r (.ld 1 false (.t 13)), none, [13], 0, 0⟩,
      ⟨(some 15), .v (.bin .add (.k (.int .u64 4294967296)) (.t 14)), none, [14], 0, 0⟩,
      ⟨(some 16), .v (.mv (.t 6)), none, [6], 0, 0⟩,
      ⟨(some 17), .v (.iadr (some 9) 1 (.t 3) (.t 16)), none, [3, 16], 0, 0⟩,
      ⟨(some 18), .r (.ld 1 false (.t 17)), none, [17], 0, 0⟩,
      ⟨(some 19), .v (.bin .sub (.t 15) (.t 18)), none, [15, 18], 0, 0⟩,
      ⟨(some 20), .v (.mv (.t 5)), none, [5], 0, 0⟩,
      ⟨(some 21), .v (.bin .sub (.t 19) (.t 20)), none, [19, 20], 0, 0⟩,
      ⟨(some 7), .v (.mv (.t 21)), none, [21], 0, 0⟩])
    (.seq (.reg [iv 22 (.mv (.t 6)),
      iv 23 (.mv (.t 7)),
      iv 24 (.bin .rem (.t 23) (.k (.int .u64 4294967296))),
      iv 25 (.iadr (some 9) 1 (.t 2) (.t 22)),
      jc (.st 1 (.t 25) (.t 24))])
    (.reg [iv 26 (.mv (.t 7)),
      iv 27 (.bin .quo (.t 26) (.k (.int .u64 4294967296))),
      iv 28 (.bin .sub (.k (.int .u64 1)) (.t 27)),
      iv 5 (.mv (.t 28))]))))
   (.reg [iv 10 (.mv (.t 6)),
     iv 11 (.bin .add (.t 10) (.k (.int .i64 1))),
     iv 6 (.mv (.t 11))]))
def C_avouchref02zminus : AC := .seq (.reg [ic 2 (.box (.t 0)),
   iv 3 (.boxv (.t 1)),
   ic 4 (.alloc (rep1 (.int .u64 0) 9))])
 (.seq (.reg [iv 5 (.mv (.k (.int .u64 0)))])
 (.seq (.seq (.reg [iv 6 (.mv (.k (.int .i64 0)))])
 (.blk 0
  (.loop Ba_avouchref02zminus)))
 (.seq (.reg [ir 29 (.ld 9 true (.t 2)),
   jc (.st 9 (.t 4) (.t 29))])
 (.ret))))
def F_avouchref02zminus : AFn := ⟨30, C_avouchref02zminus, [.cell 4 9 true]⟩
def C_cmp_Compareuint64 : AC := .seq (.reg [iv 4 (.mv (.k (.int .i64 0)))])
 (.seq (.reg [iv 7 (.mv (.t 0)),
   ir 8 (.call i_cmp_isNaNuint64 [.t 7]),
   iv 5 (.mv (.t 8))])
 (.seq (.reg [iv 9 (.mv (.t 1)),
   ir 10 (.call i_cmp_isNaNuint64 [.t 9]),
   iv 6 (.mv (.t 10))])
 (.seq (.seq (.reg [iv 11 (.mv (.t 5))])
 (.cond (.t 11)
  (.seq (.seq (.reg [iv 12 (.mv (.t 6))])
  (.cond (.t 12)
   (.seq (.reg [iv 4 (.mv (.k (.int .i64 0)))])
   (.ret))
   (.skip)))
  (.seq (.reg [iv 4 (.mv (.k (.int .i64 (-1))))])
  (.ret)))
  (.skip)))
 (.seq (.seq (.reg [iv 13 (.mv (.t 6))])
 (.cond (.t 13)
  (.seq (.reg [iv 4 (.mv (.k (.int .i64 1)))])
  (.ret))
  (.skip)))
 (.seq (.seq (.reg [iv 14 (.mv (.t 0)),
   iv 15 (.mv (.t 1)),
   iv 16 (.bin .lss (.t 14) (.t 15))])
 (.cond (.t 16)
  (.seq (.reg [iv 4 (.mv (.k (.int .i64 (-1))))])
  (.ret))
  (.skip)))
 (.seq (.seq (.reg [iv 17 (.mv (.t 0)),
   iv 18 (.mv (.t 1)),
   iv 19 (.bin .gtr (.t 17) (.t 18))])
 (.cond (.t 19)
  (.seq (.reg [iv 4 (.mv (.k (.int .i64 1)))])
  (.ret))
  (.skip)))
 (.seq (.reg [iv 4 (.mv (.k (.int .i64 0)))])
 (.ret))))))))
def F_cmp_Compareuint64 : AFn := ⟨20, C_cmp_Compareuint64, [.tmp 4]⟩
def C_limb_at : AC := .seq (.reg [iv 4 (.mv (.k (.int .u64 0)))])
 (.seq (.seq (.reg [iv 5 (.mv (.t 1)),
   iv 6 (.mv (.t 0)),
   iv 7 (.lenL (.t 6)),
   iv 8 (.bin .lss (.t 5) (.t 7))])
 (.cond (.t 8)
  (.seq (.reg [iv 9 (.mv (.t 0)),
    iv 10 (.mv (.t 1)),
    iv 11 (.iadr none 1 (.t 9) (.t 10)),
    ir 12 (.ld 1 false (.t 11)),
    iv 4 (.mv (.t 12))])
  (.ret))
  (.skip)))
 (.seq (.reg [iv 4 (.mv (.k (.int .u64 0)))])
 (.ret)))
def F_limb_at : AFn := ⟨13, C_limb_at, [.tmp 4]⟩
def Ba_limb_each : AC := .seq (.reg [iv 20 (.bin .lss (.t 19) (.t 18))])
   (.seq (.cond (.t 20)
    (.skip)
    (.exit 0))
   (.seq (.blk 1
    (.seq (.reg [iv 21 (.mv (.t 19)),
      iv 10 (.mv (.t 21))])
    (.reg [iv 23 (.mv (.t 8)),
      iv 24 (.mv (.t 10)),
      iv 25 (.mv (.t 2)),
      iv 26 (.mv (.t 0)),
      iv 27 (.mv (.t 10)),
      ir 28 (.call i_limb_at [.t 26, .t 27]),
      iv 29 (.mv (.t 1)),
      iv 30 (.mv (.t 10)),
      ir 31 (.call i_limb_at [.t 29, .t 30]),
      iv 32 (.mv (.t 9)),
      ic 33 (.callv (.t 25) [.t 28, .t 31, .t 32]),
      iv 22 (.mv (.t 33)),
      iv 34 (.ext (.t 22) 0),
      iv 35 (.ext (.t 22) 1),
      iv 36 (.iadr none 1 (.t 23) (.t 24)),
      jc (.st 1 (.t 36) (.t 34)),
      iv 9 (.mv (.t 35))])))
   (.reg [iv 37 (.bin .add (.t 19) (.k (.int .i64 1))),
     iv 19 (.mv (.t 37))])))
def C_limb_each : AC := .seq (.reg [iv 6 (.mv (.k (.nsl))),
   iv 7 (.mv (.k (.int .u64 0)))])
 (.seq (.reg [iv 11 (.mv (.t 0)),
   iv 12 (.lenL (.t 11)),
   iv 13 (.mv (.t 1)),
   iv 14 (.lenL (.t 13)),
   iv 15 (.mxmn true [.t 12, .t 14]),
   ic 16 (.mk 1 [.int .u64 0] (.t 15)),
   iv 8 (.mv (.t 16))])
 (.seq (.reg [iv 9 (.mv (.k (.int .u64 0)))])
 (.seq (.seq (.reg [iv 17 (.mv (.t 8)),
   iv 18 (.lenL (.t 17)),
   iv 19 (.mv (.k (.int .i64 0)))])
 (.blk 0
  (.loop Ba_limb_each)))
 (.seq (.reg [iv 38 (.mv (.t 8)),
   iv 39 (.mv (.t 9)),
   iv 6 (.mv (.t 38)),
   iv 7 (.mv (.t 39))])
 (.ret)))))
def F_limb_each : AFn := ⟨40, C_limb_each, [.tmp 6, .tmp 7]⟩
def C_cmp_isNaNuint64 : AC := .seq (.reg [iv 2 (.mv (.k (.bool false)))])
 (.seq (.reg [iv 3 (.mv (.t 0)),
   iv 4 (.mv (.t 0)),
   iv 5 (.bin .neq (.t 3) (.t 4)),
   iv 2 (.mv (.t 5))])
 (.ret))
def F_cmp_isNaNuint64 : AFn := ⟨6, C_cmp_isNaNuint64, [.tmp 2]⟩
def fnsT : FuncId → Option AFn
  | 2 => some F_gosem_cut_init
  | 3 => some F_avouchlaw10zPoseidonConstants
  | 4 => some F_avouchlaw10zPoseidonUnlike
  | 5 => some F_avouchlaw10zPoseidonPower
  | 6 => some F_avouchlaw10zPoseidonSteps
  | 10 => some F_avouchlaw10zspeaks
  | 11 => some F_poseidon_New
  | 12 => some F_avouchref10zNew
  | 13 => some F_poseidon_Permutation_Constants
  | 14 => some F_avouchlaw02zIs
  | 15 => some F_avouchref10zConstant
  | 16 => some F_avouchlaw10zfew
  | 17 => some F_avouchlaw10zOf
  | 18 => some F_field_Element_Equal
  | 19 => some F_poseidon_Permutation_Round
  | 20 => some F_poseidon_Permutation_Permute
  | 21 => some F_field_FromWide
  | 22 => some F_poseidon_Power
  | 23 => some F_field_Element_Exp
  | 24 => some F_field_Element_Add
  | 25 => some F_matrix_Cauchy
  | 26 => some F_matrix_Matrix_Apply
  | 38 => some F_field_Element_IsZero
  | 39 => some F_field_FromUint64
  | 40 => some F_avouchref08zNew
  | 41 => some F_avouchref09zCauchy
  | 42 => some F_avouchref08zElement
  | 44 => some F_poseidon_Permutation_fill
  | 45 => some F_field_Element_Bytes
  | 46 => some F_avouchref02zBytes
  | 47 => some F_avouchref02zMod
  | 48 => some F_avouchref01zOfBytes
  | 49 => some F_field_prime
  | 50 => some F_limb_New
  | 51 => some F_field_enter
  | 52 => some F_limb_Modulus_Reduce
  | 53 => some F_limb_Words
  | 54 => some F_field_Element_Square
  | 55 => some F_field_Element_Mul
  | 56 => some F_limb_Bits
  | 57 => some F_field_below
  | 58 => some F_field_plus
  | 59 => some F_matrix_build
  | 60 => some F_matrix_Cauchy_1
  | 61 => some F_field_Element_Inverse
  | 62 => some F_matrix_Vector_dot
  | 66 => some F_avouchref08zin
  | 67 => some F_avouchref08zlay
  | 68 => some F_avouchref08zTurn
  | 69 => some F_avouchref02zInverse
  | 70 => some F_avouchref08zBit
  | 71 => some F_avouchref01zCmp
  | 72 => some F_avouchref02zP
  | 73 => some F_avouchref01zTrim
  | 76 => some F_grain_New
  | 77 => some F_grain_Source_Element
  | 78 => some F_field_Element_leave
  | 79 => some F_limb_Bytes
  | 80 => some F_avouchref01zBytes
  | 81 => some F_avouchref01zWords
  | 82 => some F_avouchref01zMod
  | 83 => some F_slices_Cloneuint64zuint64
  | 84 => some F_limb_Modulus_twice
  | 85 => some F_field_product
  | 86 => some F_math_bits_Len64
  | 87 => some F_field_borrow
  | 89 => some F_field_Sum
  | 90 => some F_avouchref02zExp
  | 91 => some F_avouchref01zSub
  | 92 => some F_avouchref01zget
  | 97 => some F_grain_New_1
  | 98 => some F_grain_Source_turn
  | 99 => some F_grain_Source_Bit
  | 100 => some F_field_FromBytes
  | 101 => some F_avouchref01zShift
  | 102 => some F_avouchref01zAdd
  | 103 => some F_avouchref01zMul
  | 104 => some F_limb_Modulus_less
  | 105 => some F_field_inverse
  | 106 => some F_field_line
  | 108 => some F_avouchref01zBits
  | 109 => some F_avouchref02zMul
  | 110 => some F_avouchref01zBit
  | 115 => some F_limb_Cmp
  | 116 => some F_limb_Sub
  | 117 => some F_math_bits_Mul64
  | 118 => some F_avouchref02zrowOf
  | 119 => some F_avouchref02zmore
  | 120 => some F_avouchref02zreaches
  | 121 => some F_avouchref02zminus
  | 130 => some F_cmp_Compareuint64
  | 131 => some F_limb_at
  | 132 => some F_limb_each
  | 140 => some F_cmp_isNaNuint64
  | _ => none
def modeT : FuncId → Av.Mode
  | 11 => ⟨false, false, true, false⟩
  | 13 => ⟨false, false, false, false⟩
  | 19 => ⟨false, false, false, false⟩
  | 20 => ⟨false, false, false, false⟩
  | 23 => ⟨true, false, false, false⟩
  | 44 => ⟨false, false, false, false⟩
  | 50 => ⟨true, false, false, false⟩
  | 52 => ⟨true, false, false, false⟩
  | 53 => ⟨true, false, false, false⟩
  | 56 => ⟨true, false, false, false⟩
  | 67 => ⟨false, false, false, true⟩
  | 71 => ⟨true, false, false, false⟩
  | 73 => ⟨true, false, false, false⟩
  | 76 => ⟨false, false, true, false⟩
  | 77 => ⟨false, false, false, false⟩
  | 79 => ⟨true, false, false, false⟩
  | 83 => ⟨true, false, false, false⟩
  | 84 => ⟨true, false, false, false⟩
  | 92 => ⟨true, false, false, false⟩
  | 97 => ⟨false, false, false, false⟩
  | 98 => ⟨false, false, false, false⟩
  | 99 => ⟨false, false, false, false⟩
  | 104 => ⟨true, false, false, false⟩
  | 115 => ⟨true, false, false, false⟩
  | 116 => ⟨true, false, false, false⟩
  | 131 => ⟨true, false, false, false⟩
  | 132 => ⟨true, false, false, false⟩
  | _ => Mode.pure
def globT : Nat → Option (List AVal)
  | _ => none
def methL : List (TypeId × String × FuncId) := []
def methT (t : TypeId) (n : String) : Option (List (Nat × Nat × Bool) × FuncId) := (methL.find? fun r => r.1 == t && r.2.1 == n).map fun r => ([], r.2.2)
def extT : FuncId → Option ExtF
  | 43 => some (onceX)
  | 88 => some (addX)
  | 107 => some (subX)
  | _ => none
def ctx : Ctx := { fns := fnsT, mode := modeT, glob := globT, meth := methT, ext := extT, qinv := fun n => n == "Width" || n == "Rate" }
theorem ext_sync_Once_Do : ctx.ext i_sync_Once_Do = some (onceX) := rfl
theorem ext_math_bits_Add64 : ctx.ext i_math_bits_Add64 = some (addX) := rfl
theorem ext_math_bits_Sub64 : ctx.ext i_math_bits_Sub64 = some (subX) := rfl
theorem call_gosem_cut_init (L : Lim) (args : List AVal) (h : AHeap) : acall ctx L i_gosem_cut_init args h = callR ctx L Mode.pure h 1 C_gosem_cut_init [] (argsA Mode.pure h args) := acall_at h L (f := i_gosem_cut_init) rfl rfl args
@[simp] theorem quiet_gosem_cut_init : quietMode ctx i_gosem_cut_init = true := rfl
theorem call_avouchlaw10zPoseidonConstants (L : Lim) (args : List AVal) (h : AHeap) : acall ctx L i_avouchlaw10zPoseidonConstants args h = callR ctx L Mode.pure h 42 C_avouchlaw10zPoseidonConstants [.tmp 2] (argsA Mode.pure h args) := acall_at h L (f := i_avouchlaw10zPoseidonConstants) rfl rfl args
@[simp] theorem quiet_avouchlaw10zPoseidonConstants : quietMode ctx i_avouchlaw10zPoseidonConstants = true := rfl
theorem call_avouchlaw10zPoseidonUnlike (L : Lim) (args : List AVal) (h : AHeap) : acall ctx L i_avouchlaw10zPoseidonUnlike args h = callR ctx L Mode.pure h 115 C_avouchlaw10zPoseidonUnlike [.tmp 4] (argsA Mode.pure h args) := acall_at h L (f := i_avouchlaw10zPoseidonUnlike) rfl rfl args
@[simp] theorem quiet_avouchlaw10zPoseidonUnlike : quietMode ctx i_avouchlaw10zPoseidonUnlike = true := rfl
theorem call_avouchlaw10zPoseidonPower (L : Lim) (args : List AVal) (h : AHeap) : acall ctx L i_avouchlaw10zPoseidonPower args h = callR ctx L Mode.pure h 41 C_avouchlaw10zPoseidonPower [.tmp 4] (argsA Mode.pure h args) := acall_at h L (f := i_avouchlaw10zPoseidonPower) rfl rfl args
@[simp] theorem quiet_avouchlaw10zPoseidonPower : quietMode ctx i_avouchlaw10zPoseidonPower = true := rfl
theorem call_avouchlaw10zPoseidonSteps (L : Lim) (args : List AVal) (h : AHeap) : acall ctx L i_avouchlaw10zPoseidonSteps args h = callR ctx L Mode.pure h 89 C_avouchlaw10zPoseidonSteps [.tmp 4] (argsA Mode.pure h args) := acall_at h L (f := i_avouchlaw10zPoseidonSteps) rfl rfl args
@[simp] theorem quiet_avouchlaw10zPoseidonSteps : quietMode ctx i_avouchlaw10zPoseidonSteps = true := rfl
theorem call_avouchlaw10zspeaks (L : Lim) (args : List AVal) (h : AHeap) : acall ctx L i_avouchlaw10zspeaks args h = callR ctx L Mode.pure h 25 C_avouchlaw10zspeaks [.tmp 0] (argsA Mode.pure h args) := acall_at h L (f := i_avouchlaw10zspeaks) rfl rfl args
@[simp] theorem quiet_avouchlaw10zspeaks : quietMode ctx i_avouchlaw10zspeaks = true := rfl
theorem call_poseidon_New (L : Lim) (args : List AVal) (h : AHeap) : acall ctx L i_poseidon_New args h = callR ctx L ⟨false, false, true, false⟩ h 3 C_poseidon_New [.tmp 0] (argsA ⟨false, false, true, false⟩ h args) := acall_at h L (f := i_poseidon_New) rfl rfl args
@[simp] theorem quiet_poseidon_New : quietMode ctx i_poseidon_New = false := rfl
theorem call_avouchref10zNew (L : Lim) (args : List AVal) (h : AHeap) : acall ctx L i_avouchref10zNew args h = callR ctx L Mode.pure h 30 C_avouchref10zNew [.cell 0 2 true] (argsA Mode.pure h args) := acall_at h L (f := i_avouchref10zNew) rfl rfl args
@[simp] theorem quiet_avouchref10zNew : quietMode ctx i_avouchref10zNew = true := rfl
theorem call_poseidon_Permutation_Constants (L : Lim) (args : List AVal) (h : AHeap) : acall ctx L i_poseidon_Permutation_Constants args h = callR ctx L ⟨false, false, false, false⟩ h 24 C_poseidon_Permutation_Constants [.cell 4 12 true] (argsA ⟨false, false, false, false⟩ h args) := acall_at h L (f := i_poseidon_Permutation_Constants) rfl rfl args
@[simp] theorem quiet_poseidon_Permutation_Constants : quietMode ctx i_poseidon_Permutation_Constants = false := rfl
theorem call_avouchlaw02zIs (L : Lim) (args : List AVal) (h : AHeap) : acall ctx L i_avouchlaw02zIs args h = callR ctx L Mode.pure h 14 C_avouchlaw02zIs [.tmp 4] (argsA Mode.pure h args) := acall_at h L (f := i_avouchlaw02zIs) rfl rfl args
@[simp] theorem quiet_avouchlaw02zIs : quietMode ctx i_avouchlaw02zIs = true := rfl
theorem call_avouchref10zConstant (L : Lim) (args : List AVal) (h : AHeap) : acall ctx L i_avouchref10zConstant args h = callR ctx L Mode.pure h 21 C_avouchref10zConstant [.tmp 6] (argsA Mode.pure h args) := acall_at h L (f := i_avouchref10zConstant) rfl rfl args
@[simp] theorem quiet_avouchref10zConstant : quietMode ctx i_avouchref10zConstant = true := rfl
theorem call_avouchlaw10zfew (L : Lim) (args : List AVal) (h : AHeap) : acall ctx L i_avouchlaw10zfew args h = callR ctx L Mode.pure h 19 C_avouchlaw10zfew [.tmp 2] (argsA Mode.pure h args) := acall_at h L (f := i_avouchlaw10zfew) rfl rfl args
@[simp] theorem quiet_avouchlaw10zfew : quietMode ctx i_avouchlaw10zfew = true := rfl
theorem call_avouchlaw10zOf (L : Lim) (args : List AVal) (h : AHeap) : acall ctx L i_avouchlaw10zOf args h = callR ctx L Mode.pure h 27 C_avouchlaw10zOf [.cell 2 12 true, .tmp 3] (argsA Mode.pure h args) := acall_at h L (f := i_avouchlaw10zOf) rfl rfl args
@[simp] theorem quiet_avouchlaw10zOf : quietMode ctx i_avouchlaw10zOf = true := rfl
theorem call_field_Element_Equal (L : Lim) (args : List AVal) (h : AHeap) : acall ctx L i_field_Element_Equal args h = callR ctx L Mode.pure h 8 C_field_Element_Equal [.tmp 4] (argsA Mode.pure h args) := acall_at h L (f := i_field_Element_Equal) rfl rfl args
@[simp] theorem quiet_field_Element_Equal : quietMode ctx i_field_Element_Equal = true := rfl
theorem call_poseidon_Permutation_Round (L : Lim) (args : List AVal) (h : AHeap) : acall ctx L i_poseidon_Permutation_Round args h = callR ctx L ⟨false, false, false, false⟩ h 49 C_poseidon_Permutation_Round [.cell 6 12 true] (argsA ⟨false, false, false, false⟩ h args) := acall_at h L (f := i_poseidon_Permutation_Round) rfl rfl args
@[simp] theorem quiet_poseidon_Permutation_Round : quietMode ctx i_poseidon_Permutation_Round = false := rfl
theorem call_poseidon_Permutation_Permute (L : Lim) (args : List AVal) (h : AHeap) : acall ctx L i_poseidon_Permutation_Permute args h = callR ctx L ⟨false, false, false, false⟩ h 15 C_poseidon_Permutation_Permute [.cell 4 12 true] (argsA ⟨false, false, false, false⟩ h args) := acall_at h L (f := i_poseidon_Permutation_Permute) rfl rfl args
@[simp] theorem quiet_poseidon_Permutation_Permute : quietMode ctx i_poseidon_Permutation_Permute = false := rfl
theorem call_field_FromWide (L : Lim) (args : List AVal) (h : AHeap) : acall ctx L i_field_FromWide args h = callR ctx L Mode.pure h 19 C_field_FromWide [.cell 2 4 true] (argsA Mode.pure h args) := acall_at h L (f := i_field_FromWide) rfl rfl args
@[simp] theorem quiet_field_FromWide : quietMode ctx i_field_FromWide = true := rfl
theorem call_poseidon_Power (L : Lim) (args : List AVal) (h : AHeap) : acall ctx L i_poseidon_Power args h = callR ctx L Mode.pure h 8 C_poseidon_Power [.cell 2 4 true] (argsA Mode.pure h args) := acall_at h L (f := i_poseidon_Power) rfl rfl args
@[simp] theorem quiet_poseidon_Power : quietMode ctx i_poseidon_Power = true := rfl
theorem call_field_Element_Exp (L : Lim) (args : List AVal) (h : AHeap) : acall ctx L i_field_Element_Exp args h = callR ctx L ⟨true, false, false, false⟩ h 31 C_field_Element_Exp [.cell 4 4 true] (argsA ⟨true, false, false, false⟩ h args) := acall_at h L (f := i_field_Element_Exp) rfl rfl args
@[simp] theorem quiet_field_Element_Exp : quietMode ctx i_field_Element_Exp = true := rfl
theorem call_field_Element_Add (L : Lim) (args : List AVal) (h : AHeap) : acall ctx L i_field_Element_Add args h = callR ctx L Mode.pure h 12 C_field_Element_Add [.cell 4 4 true] (argsA Mode.pure h args) := acall_at h L (f := i_field_Element_Add) rfl rfl args
@[simp] theorem quiet_field_Element_Add : quietMode ctx i_field_Element_Add = true := rfl
theorem call_matrix_Cauchy (L : Lim) (args : List AVal) (h : AHeap) : acall ctx L i_matrix_Cauchy args h = callR ctx L Mode.pure h 2 C_matrix_Cauchy [.cell 0 36 true] (argsA Mode.pure h args) := acall_at h L (f := i_matrix_Cauchy) rfl rfl args
@[simp] theorem quiet_matrix_Cauchy : quietMode ctx i_matrix_Cauchy = true := rfl
theorem call_matrix_Matrix_Apply (L : Lim) (args : List AVal) (h : AHeap) : acall ctx L i_matrix_Matrix_Apply args h = callR ctx L Mode.pure h 18 C_matrix_Matrix_Apply [.cell 4 12 true] (argsA Mode.pure h args) := acall_at h L (f := i_matrix_Matrix_Apply) rfl rfl args
@[simp] theorem quiet_matrix_Matrix_Apply : quietMode ctx i_matrix_Matrix_Apply = true := rfl
theorem call_field_Element_IsZero (L : Lim) (args : List AVal) (h : AHeap) : acall ctx L i_field_Element_IsZero args h = callR ctx L Mode.pure h 6 C_field_Element_IsZero [.tmp 2] (argsA Mode.pure h args) := acall_at h L (f := i_field_Element_IsZero) rfl rfl args
@[simp] theorem quiet_field_Element_IsZero : quietMode ctx i_field_Element_IsZero = true := rfl
theorem call_field_FromUint64 (L : Lim) (args : List AVal) (h : AHeap) : acall ctx L i_field_FromUint64 args h = callR ctx L Mode.pure h 6 C_field_FromUint64 [.cell 2 4 true] (argsA Mode.pure h args) := acall_at h L (f := i_field_FromUint64) rfl rfl args
@[simp] theorem quiet_field_FromUint64 : quietMode ctx i_field_FromUint64 = true := rfl
theorem call_avouchref08zNew (L : Lim) (args : List AVal) (h : AHeap) : acall ctx L i_avouchref08zNew args h = callR ctx L Mode.pure h 67 C_avouchref08zNew [.cell 8 80 true, .tmp 9] (argsA Mode.pure h args) := acall_at h L (f := i_avouchref08zNew) rfl rfl args
@[simp] theorem quiet_avouchref08zNew : quietMode ctx i_avouchref08zNew = true := rfl
theorem call_avouchref09zCauchy (L : Lim) (args : List AVal) (h : AHeap) : acall ctx L i_avouchref09zCauchy args h = callR ctx L Mode.pure h 30 C_avouchref09zCauchy [.tmp 0] (argsA Mode.pure h args) := acall_at h L (f := i_avouchref09zCauchy) rfl rfl args
@[simp] theorem quiet_avouchref09zCauchy : quietMode ctx i_avouchref09zCauchy = true := rfl
theorem call_avouchref08zElement (L : Lim) (args : List AVal) (h : AHeap) : acall ctx L i_avouchref08zElement args h = callR ctx L Mode.pure h 47 C_avouchref08zElement [.cell 2 80 true, .tmp 3] (argsA Mode.pure h args) := acall_at h L (f := i_avouchref08zElement) rfl rfl args
@[simp] theorem quiet_avouchref08zElement : quietMode ctx i_avouchref08zElement = true := rfl
theorem call_poseidon_Permutation_fill (L : Lim) (args : List AVal) (h : AHeap) : acall ctx L i_poseidon_Permutation_fill args h = callR ctx L ⟨false, false, false, false⟩ h 31 C_poseidon_Permutation_fill [] (argsA ⟨false, false, false, false⟩ h args) := acall_at h L (f := i_poseidon_Permutation_fill) rfl rfl args
@[simp] theorem quiet_poseidon_Permutation_fill : quietMode ctx i_poseidon_Permutation_fill = false := rfl
theorem call_field_Element_Bytes (L : Lim) (args : List AVal) (h : AHeap) : acall ctx L i_field_Element_Bytes args h = callR ctx L Mode.pure h 10 C_field_Element_Bytes [.cell 2 32 true] (argsA Mode.pure h args) := acall_at h L (f := i_field_Element_Bytes) rfl rfl args
@[simp] theorem quiet_field_Element_Bytes : quietMode ctx i_field_Element_Bytes = true := rfl
theorem call_avouchref02zBytes (L : Lim) (args : List AVal) (h : AHeap) : acall ctx L i_avouchref02zBytes args h = callR ctx L Mode.pure h 6 C_avouchref02zBytes [.tmp 2] (argsA Mode.pure h args) := acall_at h L (f := i_avouchref02zBytes) rfl rfl args
@[simp] theorem quiet_avouchref02zBytes : quietMode ctx i_avouchref02zBytes = true := rfl
theorem call_avouchref02zMod (L : Lim) (args : List AVal) (h : AHeap) : acall ctx L i_avouchref02zMod args h = callR ctx L Mode.pure h 6 C_avouchref02zMod [.tmp 2] (argsA Mode.pure h args) := acall_at h L (f := i_avouchref02zMod) rfl rfl args
@[simp] theorem quiet_avouchref02zMod : quietMode ctx i_avouchref02zMod = true := rfl
theorem call_avouchref01zOfBytes (L : Lim) (args : List AVal) (h : AHeap) : acall ctx L i_avouchref01zOfBytes args h = callR ctx L Mode.pure h 35 C_avouchref01zOfBytes [.tmp 2] (argsA Mode.pure h args) := acall_at h L (f := i_avouchref01zOfBytes) rfl rfl args
@[simp] theorem quiet_avouchref01zOfBytes : quietMode ctx i_avouchref01zOfBytes = true := rfl
theorem call_field_prime (L : Lim) (args : List AVal) (h : AHeap) : acall ctx L i_field_prime args h = callR ctx L Mode.pure h 2 C_field_prime [.cell 0 4 true] (argsA Mode.pure h args) := acall_at h L (f := i_field_prime) rfl rfl args
@[simp] theorem quiet_field_prime : quietMode ctx i_field_prime = true := rfl
theorem call_limb_New (L : Lim) (args : List AVal) (h : AHeap) : acall ctx L i_limb_New args h = callR ctx L ⟨true, false, false, false⟩ h 88 C_limb_New [.tmp 2, .tmp 3] (argsA ⟨true, false, false, false⟩ h args) := acall_at h L (f := i_limb_New) rfl rfl args
@[simp] theorem quiet_limb_New : quietMode ctx i_limb_New = true := rfl
theorem call_field_enter (L : Lim) (args : List AVal) (h : AHeap) : acall ctx L i_field_enter args h = callR ctx L Mode.pure h 16 C_field_enter [.cell 2 4 true] (argsA Mode.pure h args) := acall_at h L (f := i_field_enter) rfl rfl args
@[simp] theorem quiet_field_enter : quietMode ctx i_field_enter = true := rfl
theorem call_limb_Modulus_Reduce (L : Lim) (args : List AVal) (h : AHeap) : acall ctx L i_limb_Modulus_Reduce args h = callR ctx L ⟨true, false, false, false⟩ h 33 C_limb_Modulus_Reduce [.tmp 4] (argsA ⟨true, false, false, false⟩ h args) := acall_at h L (f := i_limb_Modulus_Reduce) rfl rfl args
@[simp] theorem quiet_limb_Modulus_Reduce : quietMode ctx i_limb_Modulus_Reduce = true := rfl
theorem call_limb_Words (L : Lim) (args : List AVal) (h : AHeap) : acall ctx L i_limb_Words args h = callR ctx L ⟨true, false, false, false⟩ h 33 C_limb_Words [.tmp 2] (argsA ⟨true, false, false, false⟩ h args) := acall_at h L (f := i_limb_Words) rfl rfl args
@[simp] theorem quiet_limb_Words : quietMode ctx i_limb_Words = true := rfl
theorem call_field_Element_Square (L : Lim) (args : List AVal) (h : AHeap) : acall ctx L i_field_Element_Square args h = callR ctx L Mode.pure h 6 C_field_Element_Square [.cell 2 4 true] (argsA Mode.pure h args) := acall_at h L (f := i_field_Element_Square) rfl rfl args
@[simp] theorem quiet_field_Element_Square : quietMode ctx i_field_Element_Square = true := rfl
theorem call_field_Element_Mul (L : Lim) (args : List AVal) (h : AHeap) : acall ctx L i_field_Element_Mul args h = callR ctx L Mode.pure h 11 C_field_Element_Mul [.cell 4 4 true] (argsA Mode.pure h args) := acall_at h L (f := i_field_Element_Mul) rfl rfl args
@[simp] theorem quiet_field_Element_Mul : quietMode ctx i_field_Element_Mul = true := rfl
theorem call_limb_Bits (L : Lim) (args : List AVal) (h : AHeap) : acall ctx L i_limb_Bits args h = callR ctx L ⟨true, false, false, false⟩ h 24 C_limb_Bits [.tmp 2] (argsA ⟨true, false, false, false⟩ h args) := acall_at h L (f := i_limb_Bits) rfl rfl args
@[simp] theorem quiet_limb_Bits : quietMode ctx i_limb_Bits = true := rfl
theorem call_field_below (L : Lim) (args : List AVal) (h : AHeap) : acall ctx L i_field_below args h = callR ctx L Mode.pure h 15 C_field_below [.cell 2 4 true] (argsA Mode.pure h args) := acall_at h L (f := i_field_below) rfl rfl args
@[simp] theorem quiet_field_below : quietMode ctx i_field_below = true := rfl
theorem call_field_plus (L : Lim) (args : List AVal) (h : AHeap) : acall ctx L i_field_plus args h = callR ctx L Mode.pure h 25 C_field_plus [.cell 4 4 true] (argsA Mode.pure h args) := acall_at h L (f := i_field_plus) rfl rfl args
@[simp] theorem quiet_field_plus : quietMode ctx i_field_plus = true := rfl
theorem call_matrix_build (L : Lim) (args : List AVal) (h : AHeap) : acall ctx L i_matrix_build args h = callR ctx L Mode.pure h 22 C_matrix_build [.cell 2 36 true] (argsA Mode.pure h args) := acall_at h L (f := i_matrix_build) rfl rfl args
@[simp] theorem quiet_matrix_build : quietMode ctx i_matrix_build = true := rfl
theorem call_matrix_Cauchy_1 (L : Lim) (args : List AVal) (h : AHeap) : acall ctx L i_matrix_Cauchy_1 args h = callR ctx L Mode.pure h 12 C_matrix_Cauchy_1 [.cell 4 4 true] (argsA Mode.pure h args) := acall_at h L (f := i_matrix_Cauchy_1) rfl rfl args
@[simp] theorem quiet_matrix_Cauchy_1 : quietMode ctx i_matrix_Cauchy_1 = true := rfl
theorem call_field_Element_Inverse (L : Lim) (args : List AVal) (h : AHeap) : acall ctx L i_field_Element_Inverse args h = callR ctx L Mode.pure h 12 C_field_Element_Inverse [.cell 2 4 true] (argsA Mode.pure h args) := acall_at h L (f := i_field_Element_Inverse) rfl rfl args
@[simp] theorem quiet_field_Element_Inverse : quietMode ctx i_field_Element_Inverse = true := rfl
theorem call_matrix_Vector_dot (L : Lim) (args : List AVal) (h : AHeap) : acall ctx L i_matrix_Vector_dot args h = callR ctx L Mode.pure h 22 C_matrix_Vector_dot [.cell 4 4 true] (argsA Mode.pure h args) := acall_at h L (f := i_matrix_Vector_dot) rfl rfl args
@[simp] theorem quiet_matrix_Vector_dot : quietMode ctx i_matrix_Vector_dot = true := rfl
theorem call_avouchref08zin (L : Lim) (args : List AVal) (h : AHeap) : acall ctx L i_avouchref08zin args h = callR ctx L Mode.pure h 15 C_avouchref08zin [.tmp 6] (argsA Mode.pure h args) := acall_at h L (f := i_avouchref08zin) rfl rfl args
@[simp] theorem quiet_avouchref08zin : quietMode ctx i_avouchref08zin = true := rfl
theorem call_avouchref08zlay (L : Lim) (args : List AVal) (h : AHeap) : acall ctx L i_avouchref08zlay args h = callR ctx L ⟨false, false, false, true⟩ h 31 C_avouchref08zlay [.tmp 6] (argsA ⟨false, false, false, true⟩ h args) := acall_at h L (f := i_avouchref08zlay) rfl rfl args
@[simp] theorem quiet_avouchref08zlay : quietMode ctx i_avouchref08zlay = false := rfl
theorem call_avouchref08zTurn (L : Lim) (args : List AVal) (h : AHeap) : acall ctx L i_avouchref08zTurn args h = callR ctx L Mode.pure h 38 C_avouchref08zTurn [.cell 2 80 true, .tmp 3] (argsA Mode.pure h args) := acall_at h L (f := i_avouchref08zTurn) rfl rfl args
@[simp] theorem quiet_avouchref08zTurn : quietMode ctx i_avouchref08zTurn = true := rfl
theorem call_avouchref02zInverse (L : Lim) (args : List AVal) (h : AHeap) : acall ctx L i_avouchref02zInverse args h = callR ctx L Mode.pure h 8 C_avouchref02zInverse [.tmp 2] (argsA Mode.pure h args) := acall_at h L (f := i_avouchref02zInverse) rfl rfl args
@[simp] theorem quiet_avouchref02zInverse : quietMode ctx i_avouchref02zInverse = true := rfl
theorem call_avouchref08zBit (L : Lim) (args : List AVal) (h : AHeap) : acall ctx L i_avouchref08zBit args h = callR ctx L Mode.pure h 22 C_avouchref08zBit [.cell 2 80 true, .tmp 3] (argsA Mode.pure h args) := acall_at h L (f := i_avouchref08zBit) rfl rfl args
@[simp] theorem quiet_avouchref08zBit : quietMode ctx i_avouchref08zBit = true := rfl
theorem call_avouchref01zCmp (L : Lim) (args : List AVal) (h : AHeap) : acall ctx L i_avouchref01zCmp args h = callR ctx L ⟨true, false, false, false⟩ h 29 C_avouchref01zCmp [.tmp 4] (argsA ⟨true, false, false, false⟩ h args) := acall_at h L (f := i_avouchref01zCmp) rfl rfl args
@[simp] theorem quiet_avouchref01zCmp : quietMode ctx i_avouchref01zCmp = true := rfl
theorem call_avouchref02zP (L : Lim) (args : List AVal) (h : AHeap) : acall ctx L i_avouchref02zP args h = callR ctx L Mode.pure h 2 C_avouchref02zP [.tmp 0] (argsA Mode.pure h args) := acall_at h L (f := i_avouchref02zP) rfl rfl args
@[simp] theorem quiet_avouchref02zP : quietMode ctx i_avouchref02zP = true := rfl
theorem call_avouchref01zTrim (L : Lim) (args : List AVal) (h : AHeap) : acall ctx L i_avouchref01zTrim args h = callR ctx L ⟨true, false, false, false⟩ h 21 C_avouchref01zTrim [.tmp 2] (argsA ⟨true, false, false, false⟩ h args) := acall_at h L (f := i_avouchref01zTrim) rfl rfl args
@[simp] theorem quiet_avouchref01zTrim : quietMode ctx i_avouchref01zTrim = true := rfl
theorem call_grain_New (L : Lim) (args : List AVal) (h : AHeap) : acall ctx L i_grain_New args h = callR ctx L ⟨false, false, true, false⟩ h 70 C_grain_New [.tmp 8, .tmp 9] (argsA ⟨false, false, true, false⟩ h args) := acall_at h L (f := i_grain_New) rfl rfl args
@[simp] theorem quiet_grain_New : quietMode ctx i_grain_New = false := rfl
theorem call_grain_Source_Element (L : Lim) (args : List AVal) (h : AHeap) : acall ctx L i_grain_Source_Element args h = callR ctx L ⟨false, false, false, false⟩ h 30 C_grain_Source_Element [.cell 2 4 true] (argsA ⟨false, false, false, false⟩ h args) := acall_at h L (f := i_grain_Source_Element) rfl rfl args
@[simp] theorem quiet_grain_Source_Element : quietMode ctx i_grain_Source_Element = false := rfl
theorem call_field_Element_leave (L : Lim) (args : List AVal) (h : AHeap) : acall ctx L i_field_Element_leave args h = callR ctx L Mode.pure h 7 C_field_Element_leave [.cell 2 4 true] (argsA Mode.pure h args) := acall_at h L (f := i_field_Element_leave) rfl rfl args
@[simp] theorem quiet_field_Element_leave : quietMode ctx i_field_Element_leave = true := rfl
theorem call_limb_Bytes (L : Lim) (args : List AVal) (h : AHeap) : acall ctx L i_limb_Bytes args h = callR ctx L ⟨true, false, false, false⟩ h 24 C_limb_Bytes [.tmp 2] (argsA ⟨true, false, false, false⟩ h args) := acall_at h L (f := i_limb_Bytes) rfl rfl args
@[simp] theorem quiet_limb_Bytes : quietMode ctx i_limb_Bytes = true := rfl
theorem call_avouchref01zBytes (L : Lim) (args : List AVal) (h : AHeap) : acall ctx L i_avouchref01zBytes args h = callR ctx L Mode.pure h 31 C_avouchref01zBytes [.tmp 2] (argsA Mode.pure h args) := acall_at h L (f := i_avouchref01zBytes) rfl rfl args
@[simp] theorem quiet_avouchref01zBytes : quietMode ctx i_avouchref01zBytes = true := rfl
theorem call_avouchref01zWords (L : Lim) (args : List AVal) (h : AHeap) : acall ctx L i_avouchref01zWords args h = callR ctx L Mode.pure h 29 C_avouchref01zWords [.tmp 4] (argsA Mode.pure h args) := acall_at h L (f := i_avouchref01zWords) rfl rfl args
@[simp] theorem quiet_avouchref01zWords : quietMode ctx i_avouchref01zWords = true := rfl
theorem call_avouchref01zMod (L : Lim) (args : List AVal) (h : AHeap) : acall ctx L i_avouchref01zMod args h = callR ctx L Mode.pure h 68 C_avouchref01zMod [.tmp 4] (argsA Mode.pure h args) := acall_at h L (f := i_avouchref01zMod) rfl rfl args
@[simp] theorem quiet_avouchref01zMod : quietMode ctx i_avouchref01zMod = true := rfl
theorem call_slices_Cloneuint64zuint64 (L : Lim) (args : List AVal) (h : AHeap) : acall ctx L i_slices_Cloneuint64zuint64 args h = callR ctx L ⟨true, false, false, false⟩ h 8 C_slices_Cloneuint64zuint64 [.tmp 2] (argsA ⟨true, false, false, false⟩ h args) := acall_at h L (f := i_slices_Cloneuint64zuint64) rfl rfl args
@[simp] theorem quiet_slices_Cloneuint64zuint64 : quietMode ctx i_slices_Cloneuint64zuint64 = true := rfl
theorem call_limb_Modulus_twice (L : Lim) (args : List AVal) (h : AHeap) : acall ctx L i_limb_Modulus_twice args h = callR ctx L ⟨true, false, false, false⟩ h 34 C_limb_Modulus_twice [.tmp 6] (argsA ⟨true, false, false, false⟩ h args) := acall_at h L (f := i_limb_Modulus_twice) rfl rfl args
@[simp] theorem quiet_limb_Modulus_twice : quietMode ctx i_limb_Modulus_twice = true := rfl
theorem call_field_product (L : Lim) (args : List AVal) (h : AHeap) : acall ctx L i_field_product args h = callR ctx L Mode.pure h 91 C_field_product [.cell 4 4 true] (argsA Mode.pure h args) := acall_at h L (f := i_field_product) rfl rfl args
@[simp] theorem quiet_field_product : quietMode ctx i_field_product = true := rfl
theorem call_math_bits_Len64 (L : Lim) (args : List AVal) (h : AHeap) : acall ctx L i_math_bits_Len64 args h = callR ctx L Mode.pure h 25 C_math_bits_Len64 [.tmp 2] (argsA Mode.pure h args) := acall_at h L (f := i_math_bits_Len64) rfl rfl args
@[simp] theorem quiet_math_bits_Len64 : quietMode ctx i_math_bits_Len64 = true := rfl
theorem call_field_borrow (L : Lim) (args : List AVal) (h : AHeap) : acall ctx L i_field_borrow args h = callR ctx L Mode.pure h 26 C_field_borrow [.cell 4 4 true, .tmp 5] (argsA Mode.pure h args) := acall_at h L (f := i_field_borrow) rfl rfl args
@[simp] theorem quiet_field_borrow : quietMode ctx i_field_borrow = true := rfl
theorem call_field_Sum (L : Lim) (args : List AVal) (h : AHeap) : acall ctx L i_field_Sum args h = callR ctx L Mode.pure h 17 C_field_Sum [.cell 2 4 true] (argsA Mode.pure h args) := acall_at h L (f := i_field_Sum) rfl rfl args
@[simp] theorem quiet_field_Sum : quietMode ctx i_field_Sum = true := rfl
theorem call_avouchref02zExp (L : Lim) (args : List AVal) (h : AHeap) : acall ctx L i_avouchref02zExp args h = callR ctx L Mode.pure h 26 C_avouchref02zExp [.tmp 4] (argsA Mode.pure h args) := acall_at h L (f := i_avouchref02zExp) rfl rfl args
@[simp] theorem quiet_avouchref02zExp : quietMode ctx i_avouchref02zExp = true := rfl
theorem call_avouchref01zSub (L : Lim) (args : List AVal) (h : AHeap) : acall ctx L i_avouchref01zSub args h = callR ctx L Mode.pure h 39 C_avouchref01zSub [.tmp 4] (argsA Mode.pure h args) := acall_at h L (f := i_avouchref01zSub) rfl rfl args
@[simp] theorem quiet_avouchref01zSub : quietMode ctx i_avouchref01zSub = true := rfl
theorem call_avouchref01zget (L : Lim) (args : List AVal) (h : AHeap) : acall ctx L i_avouchref01zget args h = callR ctx L ⟨true, false, false, false⟩ h 13 C_avouchref01zget [.tmp 4] (argsA ⟨true, false, false, false⟩ h args) := acall_at h L (f := i_avouchref01zget) rfl rfl args
@[simp] theorem quiet_avouchref01zget : quietMode ctx i_avouchref01zget = true := rfl
theorem call_grain_New_1 (L : Lim) (args : List AVal) (h : AHeap) : acall ctx L i_grain_New_1 args h = callR ctx L ⟨false, false, false, false⟩ h 25 C_grain_New_1 [] (argsA ⟨false, false, false, false⟩ h args) := acall_at h L (f := i_grain_New_1) rfl rfl args
@[simp] theorem quiet_grain_New_1 : quietMode ctx i_grain_New_1 = false := rfl
theorem call_grain_Source_turn (L : Lim) (args : List AVal) (h : AHeap) : acall ctx L i_grain_Source_turn args h = callR ctx L ⟨false, false, false, false⟩ h 55 C_grain_Source_turn [.tmp 2] (argsA ⟨false, false, false, false⟩ h args) := acall_at h L (f := i_grain_Source_turn) rfl rfl args
@[simp] theorem quiet_grain_Source_turn : quietMode ctx i_grain_Source_turn = false := rfl
theorem call_grain_Source_Bit (L : Lim) (args : List AVal) (h : AHeap) : acall ctx L i_grain_Source_Bit args h = callR ctx L ⟨false, false, false, false⟩ h 12 C_grain_Source_Bit [.tmp 2] (argsA ⟨false, false, false, false⟩ h args) := acall_at h L (f := i_grain_Source_Bit) rfl rfl args
@[simp] theorem quiet_grain_Source_Bit : quietMode ctx i_grain_Source_Bit = false := rfl
theorem call_field_FromBytes (L : Lim) (args : List AVal) (h : AHeap) : acall ctx L i_field_FromBytes args h = callR ctx L Mode.pure h 26 C_field_FromBytes [.cell 2 4 true, .tmp 3] (argsA Mode.pure h args) := acall_at h L (f := i_field_FromBytes) rfl rfl args
@[simp] theorem quiet_field_FromBytes : quietMode ctx i_field_FromBytes = true := rfl
theorem call_avouchref01zShift (L : Lim) (args : List AVal) (h : AHeap) : acall ctx L i_avouchref01zShift args h = callR ctx L Mode.pure h 18 C_avouchref01zShift [.tmp 4] (argsA Mode.pure h args) := acall_at h L (f := i_avouchref01zShift) rfl rfl args
@[simp] theorem quiet_avouchref01zShift : quietMode ctx i_avouchref01zShift = true := rfl
theorem call_avouchref01zAdd (L : Lim) (args : List AVal) (h : AHeap) : acall ctx L i_avouchref01zAdd args h = callR ctx L Mode.pure h 44 C_avouchref01zAdd [.tmp 4] (argsA Mode.pure h args) := acall_at h L (f := i_avouchref01zAdd) rfl rfl args
@[simp] theorem quiet_avouchref01zAdd : quietMode ctx i_avouchref01zAdd = true := rfl
theorem call_avouchref01zMul (L : Lim) (args : List AVal) (h : AHeap) : acall ctx L i_avouchref01zMul args h = callR ctx L Mode.pure h 65 C_avouchref01zMul [.tmp 4] (argsA Mode.pure h args) := acall_at h L (f := i_avouchref01zMul) rfl rfl args
@[simp] theorem quiet_avouchref01zMul : quietMode ctx i_avouchref01zMul = true := rfl
theorem call_limb_Modulus_less (L : Lim) (args : List AVal) (h : AHeap) : acall ctx L i_limb_Modulus_less args h = callR ctx L ⟨true, false, false, false⟩ h 31 C_limb_Modulus_less [.tmp 6] (argsA ⟨true, false, false, false⟩ h args) := acall_at h L (f := i_limb_Modulus_less) rfl rfl args
@[simp] theorem quiet_limb_Modulus_less : quietMode ctx i_limb_Modulus_less = true := rfl
theorem call_field_inverse (L : Lim) (args : List AVal) (h : AHeap) : acall ctx L i_field_inverse args h = callR ctx L Mode.pure h 16 C_field_inverse [.tmp 0] (argsA Mode.pure h args) := acall_at h L (f := i_field_inverse) rfl rfl args
@[simp] theorem quiet_field_inverse : quietMode ctx i_field_inverse = true := rfl
theorem call_field_line (L : Lim) (args : List AVal) (h : AHeap) : acall ctx L i_field_line args h = callR ctx L Mode.pure h 38 C_field_line [.tmp 8, .tmp 9] (argsA Mode.pure h args) := acall_at h L (f := i_field_line) rfl rfl args
@[simp] theorem quiet_field_line : quietMode ctx i_field_line = true := rfl
theorem call_avouchref01zBits (L : Lim) (args : List AVal) (h : AHeap) : acall ctx L i_avouchref01zBits args h = callR ctx L Mode.pure h 20 C_avouchref01zBits [.tmp 2] (argsA Mode.pure h args) := acall_at h L (f := i_avouchref01zBits) rfl rfl args
@[simp] theorem quiet_avouchref01zBits : quietMode ctx i_avouchref01zBits = true := rfl
theorem call_avouchref02zMul (L : Lim) (args : List AVal) (h : AHeap) : acall ctx L i_avouchref02zMul args h = callR ctx L Mode.pure h 63 C_avouchref02zMul [.tmp 4] (argsA Mode.pure h args) := acall_at h L (f := i_avouchref02zMul) rfl rfl args
@[simp] theorem quiet_avouchref02zMul : quietMode ctx i_avouchref02zMul = true := rfl
theorem call_avouchref01zBit (L : Lim) (args : List AVal) (h : AHeap) : acall ctx L i_avouchref01zBit args h = callR ctx L Mode.pure h 21 C_avouchref01zBit [.tmp 4] (argsA Mode.pure h args) := acall_at h L (f := i_avouchref01zBit) rfl rfl args
@[simp] theorem quiet_avouchref01zBit : quietMode ctx i_avouchref01zBit = true := rfl
theorem call_limb_Cmp (L : Lim) (args : List AVal) (h : AHeap) : acall ctx L i_limb_Cmp args h = callR ctx L ⟨true, false, false, false⟩ h 27 C_limb_Cmp [.tmp 4] (argsA ⟨true, false, false, false⟩ h args) := acall_at h L (f := i_limb_Cmp) rfl rfl args
@[simp] theorem quiet_limb_Cmp : quietMode ctx i_limb_Cmp = true := rfl
theorem call_limb_Sub (L : Lim) (args : List AVal) (h : AHeap) : acall ctx L i_limb_Sub args h = callR ctx L ⟨true, false, false, false⟩ h 11 C_limb_Sub [.tmp 4, .tmp 5] (argsA ⟨true, false, false, false⟩ h args) := acall_at h L (f := i_limb_Sub) rfl rfl args
@[simp] theorem quiet_limb_Sub : quietMode ctx i_limb_Sub = true := rfl
theorem call_math_bits_Mul64 (L : Lim) (args : List AVal) (h : AHeap) : acall ctx L i_math_bits_Mul64 args h = callR ctx L Mode.pure h 51 C_math_bits_Mul64 [.tmp 4, .tmp 5] (argsA Mode.pure h args) := acall_at h L (f := i_math_bits_Mul64) rfl rfl args
@[simp] theorem quiet_math_bits_Mul64 : quietMode ctx i_math_bits_Mul64 = true := rfl
theorem call_avouchref02zrowOf (L : Lim) (args : List AVal) (h : AHeap) : acall ctx L i_avouchref02zrowOf args h = callR ctx L Mode.pure h 23 C_avouchref02zrowOf [.cell 2 9 true] (argsA Mode.pure h args) := acall_at h L (f := i_avouchref02zrowOf) rfl rfl args
@[simp] theorem quiet_avouchref02zrowOf : quietMode ctx i_avouchref02zrowOf = true := rfl
theorem call_avouchref02zmore (L : Lim) (args : List AVal) (h : AHeap) : acall ctx L i_avouchref02zmore args h = callR ctx L Mode.pure h 33 C_avouchref02zmore [.cell 6 9 true] (argsA Mode.pure h args) := acall_at h L (f := i_avouchref02zmore) rfl rfl args
@[simp] theorem quiet_avouchref02zmore : quietMode ctx i_avouchref02zmore = true := rfl
theorem call_avouchref02zreaches (L : Lim) (args : List AVal) (h : AHeap) : acall ctx L i_avouchref02zreaches args h = callR ctx L Mode.pure h 24 C_avouchref02zreaches [.tmp 4] (argsA Mode.pure h args) := acall_at h L (f := i_avouchref02zreaches) rfl rfl args
@[simp] theorem quiet_avouchref02zreaches : quietMode ctx i_avouchref02zreaches = true := rfl
theorem call_avouchref02zminus (L : Lim) (args : List AVal) (h : AHeap) : acall ctx L i_avouchref02zminus args h = callR ctx L Mode.pure h 30 C_avouchref02zminus [.cell 4 9 true] (argsA Mode.pure h args) := acall_at h L (f := i_avouchref02zminus) rfl rfl args
@[simp] theorem quiet_avouchref02zminus : quietMode ctx i_avouchref02zminus = true := rfl
theorem call_cmp_Compareuint64 (L : Lim) (args : List AVal) (h : AHeap) : acall ctx L i_cmp_Compareuint64 args h = callR ctx L Mode.pure h 20 C_cmp_Compareuint64 [.tmp 4] (argsA Mode.pure h args) := acall_at h L (f := i_cmp_Compareuint64) rfl rfl args
@[simp] theorem quiet_cmp_Compareuint64 : quietMode ctx i_cmp_Compareuint64 = true := rfl
theorem call_limb_at (L : Lim) (args : List AVal) (h : AHeap) : acall ctx L i_limb_at args h = callR ctx L ⟨true, false, false, false⟩ h 13 C_limb_at [.tmp 4] (argsA ⟨true, false, false, false⟩ h args) := acall_at h L (f := i_limb_at) rfl rfl args
@[simp] theorem quiet_limb_at : quietMode ctx i_limb_at = true := rfl
theorem call_limb_each (L : Lim) (args : List AVal) (h : AHeap) : acall ctx L i_limb_each args h = callR ctx L ⟨true, false, false, false⟩ h 40 C_limb_each [.tmp 6, .tmp 7] (argsA ⟨true, false, false, false⟩ h args) := acall_at h L (f := i_limb_each) rfl rfl args
@[simp] theorem quiet_limb_each : quietMode ctx i_limb_each = true := rfl
theorem call_cmp_isNaNuint64 (L : Lim) (args : List AVal) (h : AHeap) : acall ctx L i_cmp_isNaNuint64 args h = callR ctx L Mode.pure h 6 C_cmp_isNaNuint64 [.tmp 2] (argsA Mode.pure h args) := acall_at h L (f := i_cmp_isNaNuint64) rfl rfl args
@[simp] theorem quiet_cmp_isNaNuint64 : quietMode ctx i_cmp_isNaNuint64 = true := rfl
end Go.Av
