/- The functions of the program as the machine's code, printed by a program of mine. -/
import Derived.Test.YtljmmfgacoapaaaDoorV5
namespace Go.Av
set_option maxRecDepth 100000
def i_main_main : FuncId := 0
def i_gosem_cut : FuncId := 1
def i_gosem_cut_init : FuncId := 2
def i_avouchlaw14zTagTells : FuncId := 3
def i_avouchlaw14zTagUnlike : FuncId := 4
def i_avouchlaw19zScriptTexts : FuncId := 5
def i_avouchlaw19zScriptTells : FuncId := 6
def i_avouchlaw19zScriptReads : FuncId := 7
def i_avouchlaw14zspeaks : FuncId := 8
def i_tag_Tag : FuncId := 9
def i_avouchlaw13zOfs : FuncId := 10
def i_avouchref14zTag : FuncId := 11
def i_avouchref13zSerialise : FuncId := 12
def i_avouchref13zSame : FuncId := 13
def i_digest_Sum : FuncId := 14
def i_avouchlaw19zspeaks : FuncId := 15
def i_script_Text : FuncId := 16
def i_avouchref19zText : FuncId := 17
def i_script_Encode : FuncId := 18
def i_avouchlaw19zOf : FuncId := 19
def i_avouchref19zEncode : FuncId := 20
def i_script_Decode : FuncId := 21
def i_avouchlaw19zis : FuncId := 22
def i_avouchref19zDecode : FuncId := 23
def i_pattern_Serialise : FuncId := 24
def i_avouchlaw12zOf : FuncId := 25
def i_avouchref07zSum : FuncId := 26
def i_avouchref12zEncode : FuncId := 27
def i_digest_Hash_Write : FuncId := 28
def i_digest_Hash_Sum : FuncId := 29
def i_strings_Builder_WriteString : FuncId := 30
def i_strconv_Itoa : FuncId := 31
def i_strings_Builder_WriteByte : FuncId := 32
def i_strings_Builder_String : FuncId := 33
def i_avouchref19zdecimal : FuncId := 34
def i_avouchref19zdigit : FuncId := 35
def i_slices_ContainsFuncscript_Call_script_Call : FuncId := 36
def i_script_Encode_1 : FuncId := 37
def i_script_Call_bare : FuncId := 38
def i_script_two : FuncId := 39
def i_avouchref19zin : FuncId := 40
def i_avouchref12zNumber : FuncId := 41
def i_avouchref19zright : FuncId := 42
def i_script_Decode_1 : FuncId := 43
def i_script_reader_number : FuncId := 44
def i_script_reader_take : FuncId := 45
def i_avouchref19zSame : FuncId := 46
def i_avouchref19zpair : FuncId := 47
def i_item_Encode : FuncId := 48
def i_avouchref07zPad : FuncId := 49
def i_avouchref07zxor : FuncId := 50
def i_avouchref06zBytes : FuncId := 51
def i_avouchref06zPermute : FuncId := 52
def i_avouchref06zOfBytes : FuncId := 53
def i_avouchref12zCheck : FuncId := 54
def i_digest_Hash_put : FuncId := 55
def i_keccak_State_Permute : FuncId := 56
def i_keccak_State_Bytes : FuncId := 57
def i_strings_Builder_copyCheck : FuncId := 58
def i_i_strconv_Itoa : FuncId := 59
def i_slices_IndexFuncscript_Call_script_Call : FuncId := 60
def i_slices_Clonescript_reader_byte : FuncId := 61
def i_item_Check : FuncId := 62
def i_item_number : FuncId := 63
def i_avouchref06zOfWords : FuncId := 64
def i_avouchref06zRound : FuncId := 65
def i_avouchref06zWords : FuncId := 66
def i_keccak_State_Round : FuncId := 67
def i_limb_Bytes : FuncId := 68
def i_i_abi_NoEscape : FuncId := 69
def i_i_strconv_FormatInt : FuncId := 70
def i_item_types : FuncId := 71
def i_slices_Containsint_int : FuncId := 72
def i_avouchref06zchi : FuncId := 73
def i_avouchref06zpi : FuncId := 74
def i_avouchref06zrho : FuncId := 75
def i_avouchref06ztheta : FuncId := 76
def i_avouchref06zConstant : FuncId := 77
def i_keccak_State_theta : FuncId := 78
def i_keccak_State_rhoPi : FuncId := 79
def i_keccak_State_chi : FuncId := 80
def i_keccak_Constant : FuncId := 81
def i_i_strconv_small : FuncId := 82
def i_i_strconv_numDigits : FuncId := 83
def i_i_strconv_formatBase10 : FuncId := 84
def i_i_strconv_formatBits : FuncId := 85
def i_slices_Indexint_int : FuncId := 86
def i_avouchref06zrc : FuncId := 87
def i_math_bits_RotateLeft64 : FuncId := 88
def i_i_strconv_log10Pow2 : FuncId := 89
def i_math_bits_Len64 : FuncId := 90
def i_i_strconv_bool2int : FuncId := 91
def i_i_strconv_isPowerOfTwo : FuncId := 92
def i_math_bits_TrailingZeros : FuncId := 93
def i_math_bits_TrailingZeros32 : FuncId := 94
def i_math_bits_TrailingZeros64 : FuncId := 95
def i_runtime_boundsError_Error : FuncId := 96
def i_runtime_boundsError_RuntimeError : FuncId := 97
def i_runtime_errorString_Error : FuncId := 98
def i_runtime_errorString_RuntimeError : FuncId := 99
def i_runtime_plainError_Error : FuncId := 100
def i_runtime_plainError_RuntimeError : FuncId := 101
def i_runtime_errorAddressString_Error : FuncId := 102
def i_runtime_errorAddressString_RuntimeError : FuncId := 103
def i_runtime_TypeAssertionError_Error : FuncId := 104
def i_runtime_TypeAssertionError_RuntimeError : FuncId := 105
def i_runtime_PanicNilError_Error : FuncId := 106
def i_runtime_PanicNilError_RuntimeError : FuncId := 107
def i_i_abi_Type_Align : FuncId := 108
def i_i_runtime_maps_unhashableTypeError_Error : FuncId := 109
def i_i_runtime_maps_unhashableTypeError_RuntimeError : FuncId := 110
def i_strings_Builder_Reset : FuncId := 111
def i_i_abi_Kind_String : FuncId := 112
def i_var_s_door_keccak_constants_is_laid_by_its_own_initialiser_p : FuncId := 113
def i_var_s_door_gosem_cut_vars_holds_initialisers_alone_see_the_m : FuncId := 114
def i_var_s_door_i_strconv_uint64pow10zis_laid_by_its_own_initiali : FuncId := 115
def i_var_s_door_math_bits_deBruijn32tab_is_laid_by_its_own_initia : FuncId := 116
def i_var_s_door_math_bits_deBruijn64tab_is_laid_by_its_own_initia : FuncId := 117
def i_var_s_door_the_look_of_gosem_cut_vars_went_over_the_folder_t : FuncId := 118
def i_gosem_cut_vars : FuncId := 119
def C_gosem_cut_init : AC := .reg [ir 0 (.call i_gosem_cut [])]
def F_gosem_cut_init : AFn := ⟨1, C_gosem_cut_init, []⟩
def Ba_avouchlaw14zTagTells : AC := .seq (.reg [iv 24 (.bin .lss (.t 23) (.t 22))])
   (.seq (.cond (.t 24)
    (.skip)
    (.exit 0))
   (.seq (.blk 1
    (.seq (.reg [iv 25 (.iadr none 4 (.t 21) (.t 23)),
      ir 26 (.ld 4 true (.t 25)),
      ic 6 (.alloc [.int .i64 0, .int .i64 0, .int .i64 0, .str ⟨#[]⟩]),
      jc (.st 4 (.t 6) (.t 26))])
    (.seq (.reg [iv 27 (.fadr 3 (.t 6)),
      ir 28 (.ld 1 false (.t 27)),
      iv 29 (.lenS (.t 28)),
      iv 30 (.bin .gtr (.t 29) (.k (.int .i64 400)))])
    (.cond (.t 30)
     (.seq (.reg [iv 4 (.mv (.k (.bool true)))])
     (.ret))
     (.skip)))))
   (.reg [iv 31 (.bin .add (.t 23) (.k (.int .i64 1))),
     iv 23 (.mv (.t 31))])))
def C_avouchlaw14zTagTells : AC := .seq (.reg [iv 4 (.mv (.k (.bool false)))])
 (.seq (.seq (.reg [ir 13 (.call i_avouchlaw14zspeaks []),
   iv 14 (.un .not (.t 13)),
   iv 15 (.mv (.t 14)),
   ⟨(some 16), .v (.mv (.t 1)), (some (15, false)), [], 0, 0⟩,
   ⟨(some 17), .v (.lenL (.t 16)), (some (15, false)), [], 0, 0⟩,
   ⟨(some 18), .v (.bin .gtr (.t 17) (.k (.int .i64 40))), (some (15, false)), [], 0, 0⟩,
   iv 19 (.pick (.t 15) (.k (.bool true)) (.t 18))])
 (.cond (.t 19)
  (.seq (.reg [ir 20 (.call i_avouchlaw14zspeaks []),
    iv 4 (.mv (.t 20))])
  (.ret))
  (.skip)))
 (.seq (.seq (.reg [iv 21 (.mv (.t 1)),
   iv 22 (.lenL (.t 21)),
   iv 23 (.mv (.k (.int .i64 0)))])
 (.blk 0
  (.loop Ba_avouchlaw14zTagTells)))
 (.seq (.reg [iv 33 (.mv (.t 0)),
   iv 34 (.mv (.t 1)),
   ir 35 (.call i_avouchlaw13zOfs [.t 34]),
   ir 36 (.call i_tag_Tag [.t 33, .t 35]),
   iv 32 (.mv (.t 36)),
   iv 37 (.ext (.t 32) 0),
   iv 38 (.ext (.t 32) 1),
   iv 39 (.ext (.t 32) 2),
   ic 7 (.alloc (rep1 (.int .u8 0) 32)),
   jc (.st 32 (.t 7) (.t 37)),
   iv 8 (.mv (.t 38)),
   iv 9 (.mv (.t 39))])
 (.seq (.reg [iv 41 (.mv (.t 0)),
   iv 42 (.mv (.t 1)),
   ir 43 (.call i_avouchref14zTag [.t 41, .t 42]),
   iv 40 (.mv (.t 43)),
   iv 44 (.ext (.t 40) 0),
   iv 45 (.ext (.t 40) 1),
   iv 46 (.ext (.t 40) 2),
   iv 10 (.mv (.t 44)),
   iv 11 (.mv (.t 45)),
   iv 12 (.mv (.t 46))])
 (.seq (.draw [⟨(some 47), .v (.mv (.t 9)), none, [9], 0, 0⟩,
   ⟨(some 48), .v (.mv (.t 12)), none, [12], 0, 0⟩,
   ⟨(some 49), .v (.bin .eql (.t 47) (.t 48)), none, [47, 48], 0, 0⟩,
   ⟨(some 50), .v (.mv (.t 49)), none, [49], 0, 0⟩,
   ⟨(some 51), .v (.mv (.t 8)), (some (50, true)), [8, 50], 0, 0⟩,
   ⟨(some 52), .v (.mv (.t 11)), (some (50, true)), [11, 50], 0, 0⟩,
   ⟨(some 53), .v (.bin .eql (.t 51) (.t 52)), (some (50, true)), [51, 52, 50], 0, 0⟩,
   ⟨(some 54), .v (.pick (.t 50) (.t 53) (.k (.bool false))), none, [50, 53], 0, 0⟩,
   ⟨(some 55), .v (.mv (.t 54)), none, [54], 0, 0⟩,
   ⟨(some 56), .v (.slice (.arr 32) 1 (.t 7) none none none), (some (55, true)), [7, 55], 0, 0⟩,
   ⟨(some 57), .r (.b2s (.t 56)), (some (55, true)), [56, 55], 0, 0⟩,
   ⟨(some 58), .v (.mv (.t 10)), (some (55, true)), [10, 55], 0, 0⟩,
   ⟨(some 59), .r (.b2s (.t 58)), (some (55, true)), [58, 55], 0, 0⟩,
   ⟨(some 60), .v (.bin .eql (.t 57) (.t 59)), (some (55, true)), [57, 59, 55], 0, 0⟩,
   ⟨(some 61), .v (.pick (.t 55) (.t 60) (.k (.bool false))), none, [55, 60], 0, 0⟩,
   ⟨(some 4), .v (.mv (.t 61)), none, [61], 0, 0⟩])
 (.ret))))))
def F_avouchlaw14zTagTells : AFn := ⟨62, C_avouchlaw14zTagTells, [.tmp 4]⟩
def C_avouchlaw14zTagUnlike : AC := .seq (.reg [iv 8 (.mv (.k (.bool false)))])
 (.seq (.seq (.reg [ir 24 (.call i_avouchlaw14zspeaks []),
   iv 25 (.un .not (.t 24)),
   iv 26 (.mv (.t 25)),
   ⟨(some 27), .v (.mv (.t 2)), (some (26, false)), [], 0, 0⟩,
   ⟨(some 28), .v (.lenL (.t 27)), (some (26, false)), [], 0, 0⟩,
   ⟨(some 29), .v (.bin .gtr (.t 28) (.k (.int .i64 20))), (some (26, false)), [], 0, 0⟩,
   iv 30 (.pick (.t 26) (.k (.bool true)) (.t 29)),
   iv 31 (.mv (.t 30)),
   ⟨(some 32), .v (.mv (.t 3)), (some (31, false)), [], 0, 0⟩,
   ⟨(some 33), .v (.lenL (.t 32)), (some (31, false)), [], 0, 0⟩,
   ⟨(some 34), .v (.bin .gtr (.t 33) (.k (.int .i64 20))), (some (31, false)), [], 0, 0⟩,
   iv 35 (.pick (.t 31) (.k (.bool true)) (.t 34))])
 (.cond (.t 35)
  (.seq (.reg [ir 36 (.call i_avouchlaw14zspeaks []),
    iv 8 (.mv (.t 36))])
  (.ret))
  (.skip)))
 (.seq (.reg [iv 38 (.mv (.t 0)),
   iv 39 (.mv (.t 2)),
   ir 40 (.call i_avouchlaw13zOfs [.t 39]),
   ir 41 (.call i_tag_Tag [.t 38, .t 40]),
   iv 37 (.mv (.t 41)),
   iv 42 (.ext (.t 37) 0),
   iv 43 (.ext (.t 37) 1),
   iv 44 (.ext (.t 37) 2),
   ic 9 (.alloc (rep1 (.int .u8 0) 32)),
   jc (.st 32 (.t 9) (.t 42)),
   iv 10 (.mv (.t 43)),
   iv 11 (.mv (.t 44))])
 (.seq (.reg [iv 46 (.mv (.t 1)),
   iv 47 (.mv (.t 3)),
   ir 48 (.call i_avouchlaw13zOfs [.t 47]),
   ir 49 (.call i_tag_Tag [.t 46, .t 48]),
   iv 45 (.mv (.t 49)),
   iv 50 (.ext (.t 45) 0),
   iv 51 (.ext (.t 45) 1),
   iv 52 (.ext (.t 45) 2),
   ic 12 (.alloc (rep1 (.int .u8 0) 32)),
   jc (.st 32 (.t 12) (.t 50)),
   iv 13 (.mv (.t 51)),
   iv 14 (.mv (.t 52))])
 (.seq (.seq (.reg [iv 53 (.mv (.t 11)),
   iv 54 (.bin .neq (.t 53) (.k (.int .i64 0))),
   iv 55 (.mv (.t 54)),
   ⟨(some 56), .v (.mv (.t 14)), (some (55, false)), [], 0, 0⟩,
   ⟨(some 57), .v (.bin .neq (.t 56) (.k (.int .i64 0))), (some (55, false)), [], 0, 0⟩,
   iv 58 (.pick (.t 55) (.k (.bool true)) (.t 57))])
 (.cond (.t 58)
  (.seq (.reg [iv 8 (.mv (.k (.bool true)))])
  (.ret))
  (.skip)))
 (.seq (.reg [iv 60 (.mv (.t 2)),
   ir 61 (.call i_avouchref13zSerialise [.t 60]),
   iv 59 (.mv (.t 61)),
   iv 62 (.ext (.t 59) 0),
   iv 63 (.ext (.t 59) 1),
   iv 64 (.ext (.t 59) 2),
   iv 15 (.mv (.t 62)),
   iv 16 (.mv (.t 63)),
   iv 17 (.mv (.t 64))])
 (.seq (.reg [iv 66 (.mv (.t 3)),
   ir 67 (.call i_avouchref13zSerialise [.t 66]),
   iv 65 (.mv (.t 67)),
   iv 68 (.ext (.t 65) 0),
   iv 69 (.ext (.t 65) 1),
   iv 70 (.ext (.t 65) 2),
   iv 18 (.mv (.t 68)),
   iv 19 (.mv (.t 69)),
   iv 20 (.mv (.t 70))])
 (.seq (.reg [ic 71 (.slit 1 19 [.int .u8 0] [(0, .k (.int .u8 97)), (1, .k (.int .u8 118)), (2, .k (.int .u8 111)), (3, .k (.int .u8 117)), (4, .k (.int .u8 99)), (5, .k (.int .u8 104)), (6, .k (.int .u8 47)), (7, .k (.int .u8 116)), (8, .k (.int .u8 114)), (9, .k (.int .u8 97)), (10, .k (.int .u8 110)), (11, .k (.int .u8 115)), (12, .k (.int .u8 99)), (13, .k (.int .u8 114)), (14, .k (.int .u8 105)), (15, .k (.int .u8 112)), (16, .k (.int .u8 116)), (17, .k (.int .u8 47)), (18, .k (.int .u8 49))]),
   ir 72 (.mark (.t 71)),
   iv 73 (.mv (.t 0)),
   iv 74 (.i2i .u8 (.t 73)),
   iv 75 (.slit 1 1 [.int .u8 0] [(0, .t 74)]),
   ic 76 (.app 1 false (.t 72) (.t 75)),
   iv 77 (.mv (.t 15)),
   ic 78 (.app 1 false (.t 76) (.t 77)),
   iv 21 (.mv (.t 78))])
 (.seq (.reg [ic 79 (.slit 1 19 [.int .u8 0] [(0, .k (.int .u8 97)), (1, .k (.int .u8 118)), (2, .k (.int .u8 111)), (3, .k (.int .u8 117)), (4, .k (.int .u8 99)), (5, .k (.int .u8 104)), (6, .k (.int .u8 47)), (7, .k (.int .u8 116)), (8, .k (.int .u8 114)), (9, .k (.int .u8 97)), (10, .k (.int .u8 110)), (11, .k (.int .u8 115)), (12, .k (.int .u8 99)), (13, .k (.int .u8 114)), (14, .k (.int .u8 105)), (15, .k (.int .u8 112)), (16, .k (.int .u8 116)), (17, .k (.int .u8 47)), (18, .k (.int .u8 49))]),
   ir 80 (.mark (.t 79)),
   iv 81 (.mv (.t 1)),
   iv 82 (.i2i .u8 (.t 81)),
   iv 83 (.slit 1 1 [.int .u8 0] [(0, .t 82)]),
   ic 84 (.app 1 false (.t 80) (.t 83)),
   iv 85 (.mv (.t 18)),
   ic 86 (.app 1 false (.t 84) (.t 85)),
   iv 22 (.mv (.t 86))])
 (.seq (.reg [iv 87 (.mv (.t 0)),
   iv 88 (.mv (.t 1)),
   iv 89 (.bin .eql (.t 87) (.t 88)),
   iv 90 (.mv (.t 89)),
   ⟨(some 91), .v (.mv (.t 2)), (some (90, true)), [], 0, 0⟩,
   ⟨(some 92), .v (.mv (.t 3)), (some (90, true)), [], 0, 0⟩,
   ⟨(some 93), .r (.call i_avouchref13zSame [.t 91, .t 92]), (some (90, true)), [], 0, 0⟩,
   iv 94 (.pick (.t 90) (.t 93) (.k (.bool false))),
   iv 23 (.mv (.t 94))])
 (.seq (.seq (.reg [iv 95 (.mv (.t 21)),
   ir 96 (.b2s (.t 95)),
   iv 97 (.mv (.t 22)),
   ir 98 (.b2s (.t 97)),
   iv 99 (.bin .eql (.t 96) (.t 98)),
   iv 100 (.mv (.t 23)),
   iv 101 (.eq .bool true (.t 99) (.t 100))])
 (.cond (.t 101)
  (.seq (.reg [iv 8 (.mv (.k (.bool false)))])
  (.ret))
  (.skip)))
 (.seq (.reg [ir 102 (.ld 32 true (.t 9)),
   ir 103 (.ld 32 true (.t 12)),
   iv 104 (.eq (.agg (rep1 .i 32)) false (.t 102) (.t 103)),
   iv 105 (.mv (.t 23)),
   iv 106 (.eq .bool false (.t 104) (.t 105)),
   iv 107 (.mv (.t 106)),
   ⟨(some 108), .v (.mv (.t 21)), (some (107, false)), [], 0, 0⟩,
   ⟨(some 109), .v (.slit 1 1 [.nsl] [(0, .t 108)]), (some (107, false)), [], 0, 0⟩,
   ⟨(some 110), .r (.call i_digest_Sum [.t 109]), (some (107, false)), [], 0, 0⟩,
   ⟨(some 111), .v (.mv (.t 22)), (some (107, false)), [], 0, 0⟩,
   ⟨(some 112), .v (.slit 1 1 [.nsl] [(0, .t 111)]), (some (107, false)), [], 0, 0⟩,
   ⟨(some 113), .r (.call i_digest_Sum [.t 112]), (some (107, false)), [], 0, 0⟩,
   ⟨(some 114), .v (.eq (.agg (rep1 .i 32)) false (.t 110) (.t 113)), (some (107, false)), [], 0, 0⟩,
   iv 115 (.pick (.t 107) (.k (.bool true)) (.t 114)),
   iv 8 (.mv (.t 115))])
 (.ret))))))))))))
def F_avouchlaw14zTagUnlike : AFn := ⟨116, C_avouchlaw14zTagUnlike, [.tmp 8]⟩
def Ba_avouchlaw19zScriptTexts : AC := .seq (.reg [iv 17 (.bin .lss (.t 16) (.t 15))])
   (.seq (.cond (.t 17)
    (.skip)
    (.exit 0))
   (.seq (.blk 1
    (.seq (.reg [iv 18 (.iadr none 2 (.t 14) (.t 16)),
      ir 19 (.ld 2 true (.t 18)),
      ic 5 (.alloc [.int .i64 0, .nsl]),
      jc (.st 2 (.t 5) (.t 19))])
    (.seq (.seq (.reg [iv 20 (.fadr 1 (.t 5)),
      ir 21 (.ld 1 false (.t 20)),
      iv 22 (.lenL (.t 21)),
      iv 23 (.bin .gtr (.t 22) (.k (.int .i64 100)))])
    (.cond (.t 23)
     (.seq (.reg [iv 2 (.mv (.k (.bool true)))])
     (.ret))
     (.skip)))
    (.reg [iv 24 (.mv (.t 3)),
      iv 25 (.fadr 0 (.t 5)),
      ir 26 (.ld 1 false (.t 25)),
      iv 27 (.fadr 1 (.t 5)),
      ir 28 (.ld 1 false (.t 27)),
      iv 29 (.build [.int .i64 0, .nsl] [(0, 1, .t 26), (1, 1, .t 28)]),
      iv 30 (.slit 2 1 [.int .i64 0, .nsl] [(0, .t 29)]),
      ic 31 (.app 2 false (.t 24) (.t 30)),
      iv 3 (.mv (.t 31))]))))
   (.reg [iv 32 (.bin .add (.t 16) (.k (.int .i64 1))),
     iv 16 (.mv (.t 32))])))
def C_avouchlaw19zScriptTexts : AC := .seq (.reg [iv 2 (.mv (.k (.bool false)))])
 (.seq (.seq (.reg [ir 6 (.call i_avouchlaw19zspeaks []),
   iv 7 (.un .not (.t 6)),
   iv 8 (.mv (.t 7)),
   ⟨(some 9), .v (.mv (.t 0)), (some (8, false)), [], 0, 0⟩,
   ⟨(some 10), .v (.lenL (.t 9)), (some (8, false)), [], 0, 0⟩,
   ⟨(some 11), .v (.bin .gtr (.t 10) (.k (.int .i64 40))), (some (8, false)), [], 0, 0⟩,
   iv 12 (.pick (.t 8) (.k (.bool true)) (.t 11))])
 (.cond (.t 12)
  (.seq (.reg [ir 13 (.call i_avouchlaw19zspeaks []),
    iv 2 (.mv (.t 13))])
  (.ret))
  (.skip)))
 (.seq (.reg [iv 3 (.mv (.k (.nsl)))])
 (.seq (.seq (.reg [iv 14 (.mv (.t 0)),
   iv 15 (.lenL (.t 14)),
   iv 16 (.mv (.k (.int .i64 0)))])
 (.blk 0
  (.loop Ba_avouchlaw19zScriptTexts)))
 (.seq (.reg [iv 33 (.mv (.t 3)),
   ir 34 (.call i_script_Text [.t 33]),
   iv 35 (.mv (.t 0)),
   ir 36 (.call i_avouchref19zText [.t 35]),
   iv 37 (.bin .eql (.t 34) (.t 36)),
   iv 2 (.mv (.t 37))])
 (.ret)))))
def F_avouchlaw19zScriptTexts : AFn := ⟨38, C_avouchlaw19zScriptTexts, [.tmp 2]⟩
def Ba_avouchlaw19zScriptTells : AC := .seq (.reg [iv 30 (.bin .lss (.t 29) (.t 28))])
   (.seq (.cond (.t 30)
    (.skip)
    (.exit 0))
   (.seq (.blk 1
    (.seq (.reg [iv 31 (.iadr none 4 (.t 27) (.t 29)),
      ir 32 (.ld 4 true (.t 31)),
      ic 4 (.alloc [.int .i64 0, .int .i64 0, .int .i64 0, .nsl]),
      jc (.st 4 (.t 4) (.t 32))])
    (.seq (.reg [iv 33 (.fadr 3 (.t 4)),
      ir 34 (.ld 1 false (.t 33)),
      iv 35 (.lenL (.t 34)),
      iv 36 (.bin .gtr (.t 35) (.k (.int .i64 400)))])
    (.cond (.t 36)
     (.seq (.reg [iv 2 (.mv (.k (.bool true)))])
     (.ret))
     (.skip)))))
   (.reg [iv 37 (.bin .add (.t 29) (.k (.int .i64 1))),
     iv 29 (.mv (.t 37))])))
def C_avouchlaw19zScriptTells : AC := .seq (.reg [iv 1 (.boxv (.t 0)),
   iv 2 (.mv (.k (.bool false)))])
 (.seq (.seq (.reg [ir 11 (.call i_avouchlaw19zspeaks []),
   iv 12 (.un .not (.t 11)),
   iv 13 (.mv (.t 12)),
   ⟨(some 14), .v (.fadr 1 (.t 1)), (some (13, false)), [], 0, 0⟩,
   ⟨(some 15), .r (.ld 1 false (.t 14)), (some (13, false)), [], 0, 0⟩,
   ⟨(some 16), .v (.lenL (.t 15)), (some (13, false)), [], 0, 0⟩,
   ⟨(some 17), .v (.bin .gtr (.t 16) (.k (.int .i64 2000))), (some (13, false)), [], 0, 0⟩,
   iv 18 (.pick (.t 13) (.k (.bool true)) (.t 17)),
   iv 19 (.mv (.t 18)),
   ⟨(some 20), .v (.fadr 2 (.t 1)), (some (19, false)), [], 0, 0⟩,
   ⟨(some 21), .r (.ld 1 false (.t 20)), (some (19, false)), [], 0, 0⟩,
   ⟨(some 22), .v (.lenL (.t 21)), (some (19, false)), [], 0, 0⟩,
   ⟨(some 23), .v (.bin .gtr (.t 22) (.k (.int .i64 250))), (some (19, false)), [], 0, 0⟩,
   iv 24 (.pick (.t 19) (.k (.bool true)) (.t 23))])
 (.cond (.t 24)
  (.seq (.reg [ir 25 (.call i_avouchlaw19zspeaks []),
    iv 2 (.mv (.t 25))])
  (.ret))
  (.skip)))
 (.seq (.seq (.reg [iv 26 (.fadr 2 (.t 1)),
   ir 27 (.ld 1 false (.t 26)),
   iv 28 (.lenL (.t 27)),
   iv 29 (.mv (.k (.int .i64 0)))])
 (.blk 0
  (.loop Ba_avouchlaw19zScriptTells)))
 (.seq (.reg [ir 39 (.ld 3 true (.t 1)),
   ir 40 (.call i_avouchlaw19zOf [.t 39]),
   ir 41 (.call i_script_Encode [.t 40]),
   iv 38 (.mv (.t 41)),
   iv 42 (.ext (.t 38) 0),
   iv 43 (.ext (.t 38) 1),
   iv 5 (.mv (.t 42)),
   iv 6 (.mv (.t 43))])
 (.seq (.reg [ir 45 (.ld 3 true (.t 1)),
   ir 46 (.call i_avouchref19zEncode [.t 45]),
   iv 44 (.mv (.t 46)),
   iv 47 (.ext (.t 44) 0),
   iv 48 (.ext (.t 44) 1),
   iv 7 (.mv (.t 47)),
   iv 8 (.mv (.t 48))])
 (.seq (.seq (.reg [iv 49 (.mv (.t 6)),
   iv 50 (.mv (.t 8)),
   iv 51 (.bin .neq (.t 49) (.t 50)),
   iv 52 (.mv (.t 51)),
   ⟨(some 53), .v (.mv (.t 5)), (some (52, false)), [], 0, 0⟩,
   ⟨(some 54), .r (.b2s (.t 53)), (some (52, false)), [], 0, 0⟩,
   ⟨(some 55), .v (.mv (.t 7)), (some (52, false)), [], 0, 0⟩,
   ⟨(some 56), .r (.b2s (.t 55)), (some (52, false)), [], 0, 0⟩,
   ⟨(some 57), .v (.bin .neq (.t 54) (.t 56)), (some (52, false)), [], 0, 0⟩,
   iv 58 (.pick (.t 52) (.k (.bool true)) (.t 57))])
 (.cond (.t 58)
  (.seq (.reg [iv 2 (.mv (.k (.bool false)))])
  (.ret))
  (.skip)))
 (.seq (.seq (.reg [iv 59 (.mv (.t 8)),
   iv 60 (.bin .neq (.t 59) (.k (.int .i64 0)))])
 (.cond (.t 60)
  (.seq (.reg [iv 2 (.mv (.k (.bool true)))])
  (.ret))
  (.skip)))
 (.seq (.reg [iv 62 (.mv (.t 5)),
   ir 63 (.call i_script_Decode [.t 62]),
   iv 61 (.mv (.t 63)),
   iv 64 (.ext (.t 61) 0),
   iv 65 (.ext (.t 61) 1),
   ic 9 (.alloc [.int .i64 0, .nsl, .nsl]),
   jc (.st 3 (.t 9) (.t 64)),
   iv 10 (.mv (.t 65))])
 (.seq (.reg [iv 66 (.mv (.t 10)),
   iv 67 (.bin .eql (.t 66) (.k (.int .i64 0))),
   iv 68 (.mv (.t 67)),
   ⟨(some 69), .r (.ld 3 true (.t 9)), (some (68, true)), [], 0, 0⟩,
   ⟨(some 70), .r (.ld 3 true (.t 1)), (some (68, true)), [], 0, 0⟩,
   ⟨(some 71), .r (.call i_avouchlaw19zis [.t 69, .t 70]), (some (68, true)), [], 0, 0⟩,
   iv 72 (.pick (.t 68) (.t 71) (.k (.bool false))),
   iv 2 (.mv (.t 72))])
 (.ret)))))))))
def F_avouchlaw19zScriptTells : AFn := ⟨73, C_avouchlaw19zScriptTells, [.tmp 2]⟩
def C_avouchlaw19zScriptReads : AC := .seq (.reg [iv 2 (.mv (.k (.bool false)))])
 (.seq (.seq (.reg [ir 9 (.call i_avouchlaw19zspeaks []),
   iv 10 (.un .not (.t 9)),
   iv 11 (.mv (.t 10)),
   ⟨(some 12), .v (.mv (.t 0)), (some (11, false)), [], 0, 0⟩,
   ⟨(some 13), .v (.lenL (.t 12)), (some (11, false)), [], 0, 0⟩,
   ⟨(some 14), .v (.bin .gtr (.t 13) (.k (.int .i64 4000))), (some (11, false)), [], 0, 0⟩,
   iv 15 (.pick (.t 11) (.k (.bool true)) (.t 14))])
 (.cond (.t 15)
  (.seq (.reg [ir 16 (.call i_avouchlaw19zspeaks []),
    iv 2 (.mv (.t 16))])
  (.ret))
  (.skip)))
 (.seq (.reg [iv 18 (.mv (.t 0)),
   ir 19 (.call i_script_Decode [.t 18]),
   iv 17 (.mv (.t 19)),
   iv 20 (.ext (.t 17) 0),
   iv 21 (.ext (.t 17) 1),
   ic 3 (.alloc [.int .i64 0, .nsl, .nsl]),
   jc (.st 3 (.t 3) (.t 20)),
   iv 4 (.mv (.t 21))])
 (.seq (.reg [iv 23 (.mv (.t 0)),
   ir 24 (.call i_avouchref19zDecode [.t 23]),
   iv 22 (.mv (.t 24)),
   iv 25 (.ext (.t 22) 0),
   iv 26 (.ext (.t 22) 1),
   ic 5 (.alloc [.int .i64 0, .nsl, .nsl]),
   jc (.st 3 (.t 5) (.t 25)),
   iv 6 (.mv (.t 26))])
 (.seq (.seq (.reg [iv 27 (.mv (.t 4)),
   iv 28 (.mv (.t 6)),
   iv 29 (.bin .neq (.t 27) (.t 28)),
   iv 30 (.mv (.t 29)),
   ⟨(some 31), .r (.ld 3 true (.t 3)), (some (30, false)), [], 0, 0⟩,
   ⟨(some 32), .r (.ld 3 true (.t 5)), (some (30, false)), [], 0, 0⟩,
   ⟨(some 33), .r (.call i_avouchlaw19zis [.t 31, .t 32]), (some (30, false)), [], 0, 0⟩,
   ⟨(some 34), .v (.un .not (.t 33)), (some (30, false)), [], 0, 0⟩,
   iv 35 (.pick (.t 30) (.k (.bool true)) (.t 34))])
 (.cond (.t 35)
  (.seq (.reg [iv 2 (.mv (.k (.bool false)))])
  (.ret))
  (.skip)))
 (.seq (.seq (.reg [iv 36 (.mv (.t 6)),
   iv 37 (.bin .neq (.t 36) (.k (.int .i64 0)))])
 (.cond (.t 37)
  (.seq (.reg [iv 2 (.mv (.k (.bool true)))])
  (.ret))
  (.skip)))
 (.seq (.reg [ir 39 (.ld 3 true (.t 3)),
   ir 40 (.call i_script_Encode [.t 39]),
   iv 38 (.mv (.t 40)),
   iv 41 (.ext (.t 38) 0),
   iv 42 (.ext (.t 38) 1),
   iv 7 (.mv (.t 41)),
   iv 8 (.mv (.t 42))])
 (.seq (.reg [iv 43 (.mv (.t 8)),
   iv 44 (.bin .eql (.t 43) (.k (.int .i64 0))),
   iv 45 (.mv (.t 44)),
   ⟨(some 46), .v (.mv (.t 7)), (some (45, true)), [], 0, 0⟩,
   ⟨(some 47), .r (.b2s (.t 46)), (some (45, true)), [], 0, 0⟩,
   ⟨(some 48), .v (.mv (.t 0)), (some (45, true)), [], 0, 0⟩,
   ⟨(some 49), .r (.b2s (.t 48)), (some (45, true)), [], 0, 0⟩,
   ⟨(some 50), .v (.bin .eql (.t 47) (.t 49)), (some (45, true)), [], 0, 0⟩,
   iv 51 (.pick (.t 45) (.t 50) (.k (.bool false))),
   iv 2 (.mv (.t 51))])
 (.ret))))))))
def F_avouchlaw19zScriptReads : AFn := ⟨52, C_avouchlaw19zScriptReads, [.tmp 2]⟩
def C_avouchlaw14zspeaks : AC := .seq (.reg [iv 0 (.mv (.k (.bool false)))])
 (.seq (.reg [ir 8 (.call i_tag_Tag [.k (.int .i64 1), .k (.nsl)]),
   iv 7 (.mv (.t 8)),
   iv 9 (.ext (.t 7) 0),
   iv 10 (.ext (.t 7) 1),
   iv 11 (.ext (.t 7) 2),
   ic 1 (.alloc (rep1 (.int .u8 0) 32)),
   jc (.st 32 (.t 1) (.t 9)),
   iv 2 (.mv (.t 10)),
   iv 3 (.mv (.t 11))])
 (.seq (.reg [ir 13 (.call i_tag_Tag [.k (.int .i64 2), .k (.nsl)]),
   iv 12 (.mv (.t 13)),
   iv 14 (.ext (.t 12) 0),
   iv 15 (.ext (.t 12) 1),
   iv 16 (.ext (.t 12) 2),
   ic 4 (.alloc (rep1 (.int .u8 0) 32)),
   jc (.st 32 (.t 4) (.t 14)),
   iv 5 (.mv (.t 15)),
   iv 6 (.mv (.t 16))])
 (.seq (.reg [iv 17 (.mv (.t 3)),
   iv 18 (.bin .eql (.t 17) (.k (.int .i64 0))),
   iv 19 (.mv (.t 18)),
   ⟨(some 20), .v (.mv (.t 6)), (some (19, true)), [], 0, 0⟩,
   ⟨(some 21), .v (.bin .eql (.t 20) (.k (.int .i64 0))), (some (19, true)), [], 0, 0⟩,
   iv 22 (.pick (.t 19) (.t 21) (.k (.bool false))),
   iv 23 (.mv (.t 22)),
   ⟨(some 24), .r (.ld 32 true (.t 1)), (some (23, true)), [], 0, 0⟩,
   ⟨(some 25), .r (.ld 32 true (.t 4)), (some (23, true)), [], 0, 0⟩,
   ⟨(some 26), .v (.eq (.agg (rep1 .i 32)) true (.t 24) (.t 25)), (some (23, true)), [], 0, 0⟩,
   iv 27 (.pick (.t 23) (.t 26) (.k (.bool false))),
   iv 28 (.mv (.t 27)),
   iv 29 (.pick (.t 28) (.k (.bool true)) (.k (.bool false))),
   iv 0 (.mv (.t 29))])
 (.ret))))
def F_avouchlaw14zspeaks : AFn := ⟨30, C_avouchlaw14zspeaks, [.tmp 0]⟩
def C_tag_Tag : AC := .seq (.reg [ic 4 (.alloc (rep1 (.int .u8 0) 32)),
   iv 5 (.mv (.k (.int .i64 0))),
   iv 6 (.mv (.k (.int .i64 0)))])
 (.seq (.seq (.reg [iv 10 (.mv (.t 0)),
   iv 11 (.bin .neq (.t 10) (.k (.int .i64 1))),
   iv 12 (.mv (.t 11)),
   ⟨(some 13), .v (.mv (.t 0)), (some (12, true)), [], 0, 0⟩,
   ⟨(some 14), .v (.bin .neq (.t 13) (.k (.int .i64 2))), (some (12, true)), [], 0, 0⟩,
   iv 15 (.pick (.t 12) (.t 14) (.k (.bool false)))])
 (.cond (.t 15)
  (.seq (.reg [iv 16 (.build (rep1 (.int .u8 0) 32) []),
    jc (.st 32 (.t 4) (.t 16)),
    iv 5 (.mv (.k (.int .i64 (-1)))),
    iv 6 (.mv (.k (.int .i64 15)))])
  (.ret))
  (.skip)))
 (.seq (.reg [iv 18 (.mv (.t 1)),
   ir 19 (.call i_pattern_Serialise [.t 18]),
   iv 17 (.mv (.t 19)),
   iv 20 (.ext (.t 17) 0),
   iv 21 (.ext (.t 17) 1),
   iv 22 (.ext (.t 17) 2),
   iv 7 (.mv (.t 20)),
   iv 8 (.mv (.t 21)),
   iv 9 (.mv (.t 22))])
 (.seq (.seq (.reg [iv 23 (.mv (.t 9)),
   iv 24 (.bin .neq (.t 23) (.k (.int .i64 0)))])
 (.cond (.t 24)
  (.seq (.reg [iv 25 (.build (rep1 (.int .u8 0) 32) []),
    iv 26 (.mv (.t 8)),
    iv 27 (.mv (.t 9)),
    jc (.st 32 (.t 4) (.t 25)),
    iv 5 (.mv (.t 26)),
    iv 6 (.mv (.t 27))])
  (.ret))
  (.skip)))
 (.seq (.reg [ic 28 (.slit 1 19 [.int .u8 0] [(0, .k (.int .u8 97)), (1, .k (.int .u8 118)), (2, .k (.int .u8 111)), (3, .k (.int .u8 117)), (4, .k (.int .u8 99)), (5, .k (.int .u8 104)), (6, .k (.int .u8 47)), (7, .k (.int .u8 116)), (8, .k (.int .u8 114)), (9, .k (.int .u8 97)), (10, .k (.int .u8 110)), (11, .k (.int .u8 115)), (12, .k (.int .u8 99)), (13, .k (.int .u8 114)), (14, .k (.int .u8 105)), (15, .k (.int .u8 112)), (16, .k (.int .u8 116)), (17, .k (.int .u8 47)), (18, .k (.int .u8 49))]),
   ir 29 (.mark (.t 28)),
   iv 30 (.mv (.t 0)),
   iv 31 (.i2i .u8 (.t 30)),
   iv 32 (.slit 1 1 [.int .u8 0] [(0, .t 31)]),
   iv 33 (.mv (.t 7)),
   iv 34 (.slit 1 3 [.nsl] [(0, .t 29), (1, .t 32), (2, .t 33)]),
   ir 35 (.call i_digest_Sum [.t 34]),
   jc (.st 32 (.t 4) (.t 35)),
   iv 5 (.mv (.k (.int .i64 (-1)))),
   iv 6 (.mv (.k (.int .i64 0)))])
 (.ret)))))
def F_tag_Tag : AFn := ⟨36, C_tag_Tag, [.cell 4 32 true, .tmp 5, .tmp 6]⟩
def Ba_avouchlaw13zOfs : AC := .seq (.reg [iv 9 (.bin .lss (.t 8) (.t 7))])
   (.seq (.cond (.t 9)
    (.skip)
    (.exit 0))
   (.seq (.blk 1
    (.seq (.reg [iv 10 (.iadr none 4 (.t 6) (.t 8)),
      ir 11 (.ld 4 true (.t 10)),
      ic 5 (.alloc [.int .i64 0, .int .i64 0, .int .i64 0, .str ⟨#[]⟩]),
      jc (.st 4 (.t 5) (.t 11))])
    (.reg [iv 12 (.mv (.t 3)),
      ir 13 (.ld 4 true (.t 5)),
      ir 14 (.call i_avouchlaw12zOf [.t 13]),
      iv 15 (.slit 4 1 [.int .i64 0, .int .i64 0, .int .i64 0, .str ⟨#[]⟩] [(0, .t 14)]),
      ic 16 (.app 4 false (.t 12) (.t 15)),
      iv 3 (.mv (.t 16))])))
   (.reg [iv 17 (.bin .add (.t 8) (.k (.int .i64 1))),
     iv 8 (.mv (.t 17))])))
def C_avouchlaw13zOfs : AC := .seq (.reg [iv 2 (.mv (.k (.nsl)))])
 (.seq (.reg [iv 3 (.mv (.k (.nsl)))])
 (.seq (.seq (.reg [iv 6 (.mv (.t 0)),
   iv 7 (.lenL (.t 6)),
   iv 8 (.mv (.k (.int .i64 0)))])
 (.blk 0
  (.loop Ba_avouchlaw13zOfs)))
 (.seq (.reg [iv 18 (.mv (.t 3)),
   iv 2 (.mv (.t 18))])
 (.ret))))
def F_avouchlaw13zOfs : AFn := ⟨19, C_avouchlaw13zOfs, [.tmp 2]⟩
def C_avouchref14zTag : AC := .seq (.reg [iv 4 (.mv (.k (.nsl))),
   iv 5 (.mv (.k (.int .i64 0))),
   iv 6 (.mv (.k (.int .i64 0)))])
 (.seq (.reg [ic 12 (.mk 1 [.int .u8 0] (.k (.int .i64 32))),
   iv 7 (.mv (.t 12))])
 (.seq (.seq (.reg [iv 13 (.mv (.t 0)),
   iv 14 (.bin .neq (.t 13) (.k (.int .i64 1))),
   iv 15 (.mv (.t 14)),
   ⟨(some 16), .v (.mv (.t 0)), (some (15, true)), [], 0, 0⟩,
   ⟨(some 17), .v (.bin .neq (.t 16) (.k (.int .i64 2))), (some (15, true)), [], 0, 0⟩,
   iv 18 (.pick (.t 15) (.t 17) (.k (.bool false)))])
 (.cond (.t 18)
  (.seq (.reg [iv 19 (.mv (.t 7)),
    iv 4 (.mv (.t 19)),
    iv 5 (.mv (.k (.int .i64 (-1)))),
    iv 6 (.mv (.k (.int .i64 15)))])
  (.ret))
  (.skip)))
 (.seq (.reg [iv 21 (.mv (.t 1)),
   ir 22 (.call i_avouchref13zSerialise [.t 21]),
   iv 20 (.mv (.t 22)),
   iv 23 (.ext (.t 20) 0),
   iv 24 (.ext (.t 20) 1),
   iv 25 (.ext (.t 20) 2),
   iv 8 (.mv (.t 23)),
   iv 9 (.mv (.t 24)),
   iv 10 (.mv (.t 25))])
 (.seq (.seq (.reg [iv 26 (.mv (.t 10)),
   iv 27 (.bin .neq (.t 26) (.k (.int .i64 0)))])
 (.cond (.t 27)
  (.seq (.reg [iv 28 (.mv (.t 7)),
    iv 29 (.mv (.t 9)),
    iv 30 (.mv (.t 10)),
    iv 4 (.mv (.t 28)),
    iv 5 (.mv (.t 29)),
    iv 6 (.mv (.t 30))])
  (.ret))
  (.skip)))
 (.seq (.reg [ic 31 (.slit 1 19 [.int .u8 0] [(0, .k (.int .u8 97)), (1, .k (.int .u8 118)), (2, .k (.int .u8 111)), (3, .k (.int .u8 117)), (4, .k (.int .u8 99)), (5, .k (.int .u8 104)), (6, .k (.int .u8 47)), (7, .k (.int .u8 116)), (8, .k (.int .u8 114)), (9, .k (.int .u8 97)), (10, .k (.int .u8 110)), (11, .k (.int .u8 115)), (12, .k (.int .u8 99)), (13, .k (.int .u8 114)), (14, .k (.int .u8 105)), (15, .k (.int .u8 112)), (16, .k (.int .u8 116)), (17, .k (.int .u8 47)), (18, .k (.int .u8 49))]),
   ir 32 (.mark (.t 31)),
   iv 33 (.mv (.t 0)),
   iv 34 (.i2i .u8 (.t 33)),
   iv 35 (.slit 1 1 [.int .u8 0] [(0, .t 34)]),
   ic 36 (.app 1 false (.t 32) (.t 35)),
   iv 11 (.mv (.t 36))])
 (.seq (.reg [iv 37 (.mv (.t 11)),
   iv 38 (.mv (.t 8)),
   ic 39 (.app 1 false (.t 37) (.t 38)),
   ir 40 (.call i_avouchref07zSum [.t 39]),
   iv 4 (.mv (.t 40)),
   iv 5 (.mv (.k (.int .i64 (-1)))),
   iv 6 (.mv (.k (.int .i64 0)))])
 (.ret)))))))
def F_avouchref14zTag : AFn := ⟨41, C_avouchref14zTag, [.tmp 4, .tmp 5, .tmp 6]⟩
def Ba_avouchref13zSerialise : AC := .seq (.seq (.reg [iv 10 (.mv (.t 6)),
     iv 11 (.mv (.t 0)),
     iv 12 (.lenL (.t 11)),
     iv 13 (.bin .lss (.t 10) (.t 12))])
   (.cond (.t 13)
    (.skip)
    (.exit 0)))
   (.seq (.blk 1
    (.seq (.seq (.reg [iv 16 (.mv (.t 6)),
      iv 17 (.bin .eql (.t 16) (.k (.int .i64 1024)))])
    (.cond (.t 17)
     (.seq (.reg [iv 18 (.mv (.t 6)),
       iv 2 (.mv (.k (.nsl))),
       iv 3 (.mv (.t 18)),
       iv 4 (.mv (.k (.int .i64 9)))])
     (.ret))
     (.skip)))
    (.seq (.reg [iv 20 (.mv (.t 0)),
      iv 21 (.mv (.t 6)),
      iv 22 (.iadr none 4 (.t 20) (.t 21)),
      ir 23 (.ld 4 true (.t 22)),
      ir 24 (.call i_avouchref12zEncode [.t 23]),
      iv 19 (.mv (.t 24)),
      iv 25 (.ext (.t 19) 0),
      iv 26 (.ext (.t 19) 1),
      iv 7 (.mv (.t 25)),
      iv 8 (.mv (.t 26))])
    (.seq (.seq (.reg [iv 27 (.mv (.t 8)),
      iv 28 (.bin .neq (.t 27) (.k (.int .i64 0)))])
    (.cond (.t 28)
     (.seq (.reg [iv 29 (.mv (.t 6)),
       iv 30 (.mv (.t 8)),
       iv 2 (.mv (.k (.nsl))),
       iv 3 (.mv (.t 29)),
       iv 4 (.mv (.t 30))])
     (.ret))
     (.skip)))
    (.reg [iv 31 (.mv (.t 5)),
      iv 32 (.mv (.t 7)),
      ic 33 (.app 1 false (.t 31) (.t 32)),
      iv 5 (.mv (.t 33))])))))
   (.reg [iv 14 (.mv (.t 6)),
     iv 15 (.bin .add (.t 14) (.k (.int .i64 1))),
     iv 6 (.mv (.t 15))]))
def C_avouchref13zSerialise : AC := .seq (.reg [iv 2 (.mv (.k (.nsl))),
   iv 3 (.mv (.k (.int .i64 0))),
   iv 4 (.mv (.k (.int .i64 0)))])
 (.seq (.reg [iv 9 (.slit 1 0 [.int .u8 0] []),
   iv 5 (.mv (.t 9))])
 (.seq (.seq (.reg [iv 6 (.mv (.k (.int .i64 0)))])
 (.blk 0
  (.loop Ba_avouchref13zSerialise)))
 (.seq (.reg [iv 34 (.mv (.t 5)),
   iv 2 (.mv (.t 34)),
   iv 3 (.mv (.k (.int .i64 (-1)))),
   iv 4 (.mv (.k (.int .i64 0)))])
 (.ret))))
def F_avouchref13zSerialise : AFn := ⟨35, C_avouchref13zSerialise, [.tmp 2, .tmp 3, .tmp 4]⟩
def Ba_avouchref13zSame : AC := .seq (.seq (.reg [iv 11 (.mv (.t 5)),
     iv 12 (.mv (.t 0)),
     iv 13 (.lenL (.t 12)),
     iv 14 (.bin .lss (.t 11) (.t 13))])
   (.cond (.t 14)
    (.skip)
    (.exit 0)))
   (.seq (.blk 1
    (.seq (.draw [⟨(some 17), .v (.mv (.t 0)), none, [0], 0, 0⟩,
      ⟨(some 18), .v (.mv (.t 5)), none, [5], 0, 0⟩,
      ⟨(some 19), .v (.iadr none 4 (.t 17) (.t 18)), none, [17, 18], 0, 0⟩,
      ⟨(some 20), .r (.ld 4 true (.t 19)), none, [19], 0, 0⟩,
      ⟨(some 21), .v (.mv (.t 1)), none, [1], 0, 0⟩,
      ⟨(some 22), .v (.mv (.t 5)), none, [5], 0, 0⟩,
      ⟨(some 23), .v (.iadr none 4 (.t 21) (.t 22)), none, [21, 22], 0, 0⟩,
      ⟨(some 24), .r (.ld 4 true (.t 23)), none, [23], 0, 0⟩,
      ⟨(some 25), .v (.eq (.agg [.i, .i, .i, .s]) true (.t 20) (.t 24)), none, [20, 24], 0, 0⟩])
    (.cond (.t 25)
     (.seq (.reg [iv 4 (.mv (.k (.bool false)))])
     (.ret))
     (.skip))))
   (.reg [iv 15 (.mv (.t 5)),
     iv 16 (.bin .add (.t 15) (.k (.int .i64 1))),
     iv 5 (.mv (.t 16))]))
def C_avouchref13zSame : AC := .seq (.reg [iv 4 (.mv (.k (.bool false)))])
 (.seq (.seq (.reg [iv 6 (.mv (.t 0)),
   iv 7 (.lenL (.t 6)),
   iv 8 (.mv (.t 1)),
   iv 9 (.lenL (.t 8)),
   iv 10 (.bin .neq (.t 7) (.t 9))])
 (.cond (.t 10)
  (.seq (.reg [iv 4 (.mv (.k (.bool false)))])
  (.ret))
  (.skip)))
 (.seq (.seq (.reg [iv 5 (.mv (.k (.int .i64 0)))])
 (.blk 0
  (.loop Ba_avouchref13zSame)))
 (.seq (.reg [iv 4 (.mv (.k (.bool true)))])
 (.ret))))
def F_avouchref13zSame : AFn := ⟨26, C_avouchref13zSame, [.tmp 4]⟩
def Ba_digest_Sum : AC := .seq (.reg [iv 9 (.bin .lss (.t 8) (.t 7))])
   (.seq (.cond (.t 9)
    (.skip)
    (.exit 0))
   (.seq (.blk 1
    (.seq (.reg [iv 10 (.iadr none 1 (.t 6) (.t 8)),
      ir 11 (.ld 1 false (.t 10)),
      iv 5 (.mv (.t 11))])
    (.reg [iv 12 (.mv (.t 5)),
      ic 13 (.call i_digest_Hash_Write [.t 3, .t 12])])))
   (.reg [iv 14 (.bin .add (.t 8) (.k (.int .i64 1))),
     iv 8 (.mv (.t 14))])))
def C_digest_Sum : AC := .seq (.reg [ic 2 (.alloc (rep1 (.int .u8 0) 32))])
 (.seq (.reg [ic 3 (.alloc [.int .u64 0, .int .u64 0, .int .u64 0, .int .u64 0, .int .u64 0, .int .u64 0, .int .u64 0, .int .u64 0, .int .u64 0, .int .u64 0, .int .u64 0, .int .u64 0, .int .u64 0, .int .u64 0, .int .u64 0, .int .u64 0, .int .u64 0, .int .u64 0, .int .u64 0, .int .u64 0, .int .u64 0, .int .u64 0, .int .u64 0, .int .u64 0, .int .u64 0, .int .i64 0])])
 (.seq (.seq (.reg [iv 6 (.mv (.t 0)),
   iv 7 (.lenL (.t 6)),
   iv 8 (.mv (.k (.int .i64 0)))])
 (.blk 0
  (.loop Ba_digest_Sum)))
 (.seq (.reg [ir 15 (.call i_digest_Hash_Sum [.t 3]),
   jc (.st 32 (.t 2) (.t 15))])
 (.ret))))
def F_digest_Sum : AFn := ⟨16, C_digest_Sum, [.cell 2 32 true]⟩
def C_avouchlaw19zspeaks : AC := .seq (.reg [iv 0 (.mv (.k (.bool false)))])
 (.seq (.reg [iv 1 (.build [.int .i64 0, .nsl] []),
   iv 2 (.build [.int .i64 0, .nsl] [(0, 1, .k (.int .i64 10))]),
   iv 3 (.slit 2 2 [.int .i64 0, .nsl] [(0, .t 1), (1, .t 2)]),
   ir 4 (.call i_script_Text [.t 3]),
   iv 5 (.bin .eql (.t 4) (.k (.str ⟨#[48, 10, 49, 48, 10]⟩))),
   iv 0 (.mv (.t 5))])
 (.ret))
def F_avouchlaw19zspeaks : AFn := ⟨6, C_avouchlaw19zspeaks, [.tmp 0]⟩
def Ba_script_Text : AC := .seq (.reg [iv 27 (.bin .lss (.t 26) (.t 25))])
      (.seq (.cond (.t 27)
       (.skip)
       (.exit 2))
      (.seq (.blk 3
       (.seq (.reg [iv 28 (.iadr none 1 (.t 24) (.t 26)),
         ir 29 (.ld 1 false (.t 28)),
         iv 7 (.mv (.t 29))])
       (.seq (.reg [iv 30 (.mv (.t 7)),
         iv 31 (.bin .shr (.t 30) (.k (.int .u64 4))),
         iv 32 (.idxS (.k (.str ⟨#[48, 49, 50, 51, 52, 53, 54, 55, 56, 57, 97, 98, 99, 100, 101, 102]⟩)) (.t 31)),
         ir 33 (.call i_strings_Builder_WriteByte [.t 3, .t 32])])
       (.reg [iv 34 (.mv (.t 7)),
         iv 35 (.bin .and (.t 34) (.k (.int .u8 15))),
         iv 36 (.idxS (.k (.str ⟨#[48, 49, 50, 51, 52, 53, 54, 55, 56, 57, 97, 98, 99, 100, 101, 102]⟩)) (.t 35)),
         ir 37 (.call i_strings_Builder_WriteByte [.t 3, .t 36])]))))
      (.reg [iv 38 (.bin .add (.t 26) (.k (.int .i64 1))),
        iv 26 (.mv (.t 38))])))
def Bb_script_Text : AC := .seq (.reg [iv 11 (.bin .lss (.t 10) (.t 9))])
   (.seq (.cond (.t 11)
    (.skip)
    (.exit 0))
   (.seq (.blk 1
    (.seq (.reg [iv 12 (.iadr none 2 (.t 8) (.t 10)),
      ir 13 (.ld 2 true (.t 12)),
      ic 5 (.alloc [.int .i64 0, .nsl]),
      jc (.st 2 (.t 5) (.t 13))])
    (.seq (.reg [iv 14 (.fadr 0 (.t 5)),
      ir 15 (.ld 1 false (.t 14)),
      ir 16 (.call i_strconv_Itoa [.t 15]),
      ir 17 (.call i_strings_Builder_WriteString [.t 3, .t 16])])
    (.seq (.seq (.reg [iv 18 (.fadr 1 (.t 5)),
      ir 19 (.ld 1 false (.t 18)),
      iv 20 (.lenL (.t 19)),
      iv 21 (.bin .gtr (.t 20) (.k (.int .i64 0)))])
    (.cond (.t 21)
     (.reg [ir 22 (.call i_strings_Builder_WriteByte [.t 3, .k (.int .u8 32)])])
     (.skip)))
    (.seq (.seq (.reg [iv 23 (.fadr 1 (.t 5)),
      ir 24 (.ld 1 false (.t 23)),
      iv 25 (.lenL (.t 24)),
      iv 26 (.mv (.k (.int .i64 0)))])
    (.blk 2
     (.loop Ba_script_Text)))
    (.reg [ir 39 (.call i_strings_Builder_WriteByte [.t 3, .k (.int .u8 10)])]))))))
   (.reg [iv 40 (.bin .add (.t 10) (.k (.int .i64 1))),
     iv 10 (.mv (.t 40))])))
def C_script_Text : AC := .seq (.reg [iv 2 (.mv (.k (.str ⟨#[]⟩)))])
 (.seq (.reg [ic 3 (.alloc [.nilp, .nsl])])
 (.seq (.seq (.reg [iv 8 (.mv (.t 0)),
   iv 9 (.lenL (.t 8)),
   iv 10 (.mv (.k (.int .i64 0)))])
 (.blk 0
  (.loop Bb_script_Text)))
 (.seq (.reg [ir 41 (.call i_strings_Builder_String [.t 3]),
   iv 2 (.mv (.t 41))])
 (.ret))))
def F_script_Text : AFn := ⟨42, C_script_Text, [.tmp 2]⟩
def Ba_avouchref19zText : AC := .seq (.seq (.reg [iv 30 (.mv (.t 5)),
        iv 31 (.mv (.t 0)),
        iv 32 (.mv (.t 4)),
        iv 33 (.iadr none 2 (.t 31) (.t 32)),
        iv 34 (.fadr 1 (.t 33)),
        ir 35 (.ld 1 false (.t 34)),
        iv 36 (.lenL (.t 35)),
        iv 37 (.bin .lss (.t 30) (.t 36))])
      (.cond (.t 37)
       (.skip)
       (.exit 2)))
      (.seq (.blk 3
       (.seq (.reg [iv 40 (.mv (.t 0)),
         iv 41 (.mv (.t 4)),
         iv 42 (.iadr none 2 (.t 40) (.t 41)),
         iv 43 (.fadr 1 (.t 42)),
         ir 44 (.ld 1 false (.t 43)),
         iv 45 (.mv (.t 5)),
         iv 46 (.iadr none 1 (.t 44) (.t 45)),
         ir 47 (.ld 1 false (.t 46)),
         iv 48 (.i2i .i64 (.t 47)),
         iv 6 (.mv (.t 48))])
       (.reg [iv 49 (.mv (.t 3)),
         iv 50 (.mv (.t 6)),
         iv 51 (.bin .quo (.t 50) (.k (.int .i64 16))),
         ir 52 (.call i_avouchref19zdigit [.t 51]),
         iv 53 (.mv (.t 6)),
         iv 54 (.bin .rem (.t 53) (.k (.int .i64 16))),
         ir 55 (.call i_avouchref19zdigit [.t 54]),
         iv 56 (.slit 1 2 [.int .u8 0] [(0, .t 52), (1, .t 55)]),
         ir 57 (.b2s (.t 56)),
         iv 58 (.bin .add (.t 49) (.t 57)),
         iv 3 (.mv (.t 58))])))
      (.reg [iv 38 (.mv (.t 5)),
        iv 39 (.bin .add (.t 38) (.k (.int .i64 1))),
        iv 5 (.mv (.t 39))]))
def Bb_avouchref19zText : AC := .seq (.seq (.reg [iv 7 (.mv (.t 4)),
     iv 8 (.mv (.t 0)),
     iv 9 (.lenL (.t 8)),
     iv 10 (.bin .lss (.t 7) (.t 9))])
   (.cond (.t 10)
    (.skip)
    (.exit 0)))
   (.seq (.blk 1
    (.seq (.reg [iv 13 (.mv (.t 3)),
      iv 14 (.mv (.t 0)),
      iv 15 (.mv (.t 4)),
      iv 16 (.iadr none 2 (.t 14) (.t 15)),
      iv 17 (.fadr 0 (.t 16)),
      ir 18 (.ld 1 false (.t 17)),
      ir 19 (.call i_avouchref19zdecimal [.t 18]),
      iv 20 (.bin .add (.t 13) (.t 19)),
      iv 3 (.mv (.t 20))])
    (.seq (.seq (.reg [iv 21 (.mv (.t 0)),
      iv 22 (.mv (.t 4)),
      iv 23 (.iadr none 2 (.t 21) (.t 22)),
      iv 24 (.fadr 1 (.t 23)),
      ir 25 (.ld 1 false (.t 24)),
      iv 26 (.lenL (.t 25)),
      iv 27 (.bin .gtr (.t 26) (.k (.int .i64 0)))])
    (.cond (.t 27)
     (.reg [iv 28 (.mv (.t 3)),
       iv 29 (.bin .add (.t 28) (.k (.str ⟨#[32]⟩))),
       iv 3 (.mv (.t 29))])
     (.skip)))
    (.seq (.seq (.reg [iv 5 (.mv (.k (.int .i64 0)))])
    (.blk 2
     (.loop Ba_avouchref19zText)))
    (.reg [iv 59 (.mv (.t 3)),
      iv 60 (.bin .add (.t 59) (.k (.str ⟨#[10]⟩))),
      iv 3 (.mv (.t 60))])))))
   (.reg [iv 11 (.mv (.t 4)),
     iv 12 (.bin .add (.t 11) (.k (.int .i64 1))),
     iv 4 (.mv (.t 12))]))
def C_avouchref19zText : AC := .seq (.reg [iv 2 (.mv (.k (.str ⟨#[]⟩)))])
 (.seq (.reg [iv 3 (.mv (.k (.str ⟨#[]⟩)))])
 (.seq (.seq (.reg [iv 4 (.mv (.k (.int .i64 0)))])
 (.blk 0
  (.loop Bb_avouchref19zText)))
 (.seq (.reg [iv 61 (.mv (.t 3)),
   iv 2 (.mv (.t 61))])
 (.ret))))
def F_avouchref19zText : AFn := ⟨62, C_avouchref19zText, [.tmp 2]⟩
def Ba_script_Encode : AC := .seq (.reg [iv 45 (.bin .lss (.t 44) (.t 43))])
   (.seq (.cond (.t 45)
    (.skip)
    (.exit 0))
   (.seq (.blk 1
    (.seq (.reg [iv 46 (.iadr none 4 (.t 42) (.t 44)),
      ir 47 (.ld 4 true (.t 46)),
      ic 6 (.alloc [.int .i64 0, .int .i64 0, .int .i64 0, .nsl]),
      jc (.st 4 (.t 6) (.t 47))])
    (.seq (.reg [iv 48 (.mv (.t 4)),
      iv 49 (.fadr 0 (.t 6)),
      ir 50 (.ld 1 false (.t 49)),
      iv 51 (.i2i .u8 (.t 50)),
      iv 52 (.slit 1 1 [.int .u8 0] [(0, .t 51)]),
      ic 53 (.app 1 false (.t 48) (.t 52)),
      iv 4 (.mv (.t 53))])
    (.seq (.reg [iv 54 (.fadr 0 (.t 6)),
      ir 55 (.ld 1 false (.t 54))])
    (.blk 2
     (.seq (.reg [iv 57 (.bin .eql (.t 55) (.k (.int .i64 0))),
       iv 56 (.mv (.t 57))])
     (.cond (.t 56)
      (.draw [⟨(some 58), .v (.mv (.t 4)), none, [4], 0, 0⟩,
        ⟨(some 59), .v (.fadr 1 (.t 6)), none, [6], 0, 0⟩,
        ⟨(some 60), .r (.ld 1 false (.t 59)), none, [59], 0, 0⟩,
        ⟨(some 61), .v (.i2i .u8 (.t 60)), none, [60], 0, 0⟩,
        ⟨(some 62), .v (.slit 1 1 [.int .u8 0] [(0, .t 61)]), none, [61], 0, 0⟩,
        ⟨(some 63), .c (.app 1 false (.t 58) (.t 62)), none, [58, 62], 0, 0⟩,
        ⟨(some 64), .v (.fadr 3 (.t 6)), none, [6], 0, 0⟩,
        ⟨(some 65), .r (.ld 1 false (.t 64)), none, [64], 0, 1⟩,
        ⟨(some 66), .v (.lenL (.t 65)), none, [65], 0, 0⟩,
        ⟨(some 67), .c (.call i_script_two [.t 63, .t 66]), none, [63, 66], 0, 0⟩,
        ⟨(some 68), .v (.fadr 3 (.t 6)), none, [6], 0, 0⟩,
        ⟨(some 69), .r (.ld 1 false (.t 68)), none, [68], 0, 2⟩,
        ⟨(some 70), .c (.app 1 false (.t 67) (.t 69)), none, [67, 69], 0, 0⟩,
        ⟨(some 4), .v (.mv (.t 70)), none, [70], 0, 0⟩])
      (.seq (.seq (.reg [iv 72 (.bin .eql (.t 55) (.k (.int .i64 1))),
        iv 71 (.mv (.t 72))])
      (.cond (.t 71)
       (.skip)
       (.reg [iv 73 (.bin .eql (.t 55) (.k (.int .i64 2))),
         iv 71 (.mv (.t 73))])))
      (.cond (.t 71)
       (.reg [iv 74 (.mv (.t 4)),
         iv 75 (.fadr 2 (.t 6)),
         ir 76 (.ld 1 false (.t 75)),
         ic 77 (.call i_script_two [.t 74, .t 76]),
         iv 4 (.mv (.t 77))])
       (.skip))))))))))
   (.reg [iv 78 (.bin .add (.t 44) (.k (.int .i64 1))),
     iv 44 (.mv (.t 78))])))
def C_script_Encode : AC := .seq (.reg [iv 1 (.boxv (.t 0)),
   iv 2 (.mv (.k (.nsl))),
   iv 3 (.mv (.k (.int .i64 0)))])
 (.seq (.seq (.reg [iv 7 (.fadr 0 (.t 1)),
   ir 8 (.ld 1 false (.t 7)),
   iv 9 (.bin .lss (.t 8) (.k (.int .i64 0))),
   iv 10 (.mv (.t 9)),
   ⟨(some 11), .v (.fadr 0 (.t 1)), (some (10, false)), [], 0, 0⟩,
   ⟨(some 12), .r (.ld 1 false (.t 11)), (some (10, false)), [], 0, 0⟩,
   ⟨(some 13), .v (.bin .gtr (.t 12) (.k (.int .i64 255))), (some (10, false)), [], 0, 0⟩,
   iv 14 (.pick (.t 10) (.k (.bool true)) (.t 13)),
   iv 15 (.mv (.t 14)),
   ⟨(some 16), .v (.fadr 1 (.t 1)), (some (15, false)), [], 0, 0⟩,
   ⟨(some 17), .r (.ld 1 false (.t 16)), (some (15, false)), [], 0, 0⟩,
   ⟨(some 18), .v (.lenL (.t 17)), (some (15, false)), [], 0, 0⟩,
   ⟨(some 19), .v (.bin .gtr (.t 18) (.k (.int .i64 65535))), (some (15, false)), [], 0, 0⟩,
   iv 20 (.pick (.t 15) (.k (.bool true)) (.t 19)),
   iv 21 (.mv (.t 20)),
   ⟨(some 22), .v (.fadr 2 (.t 1)), (some (21, false)), [], 0, 0⟩,
   ⟨(some 23), .r (.ld 1 false (.t 22)), (some (21, false)), [], 0, 0⟩,
   ⟨(some 24), .r (.call i_slices_ContainsFuncscript_Call_script_Call [.t 23, .k (.fn (.func i_script_Encode_1) [] [])]), (some (21, false)), [], 0, 0⟩,
   iv 25 (.pick (.t 21) (.k (.bool true)) (.t 24))])
 (.cond (.t 25)
  (.seq (.reg [iv 2 (.mv (.k (.nsl))),
    iv 3 (.mv (.k (.int .i64 1)))])
  (.ret))
  (.skip)))
 (.seq (.seq (.reg [iv 26 (.fadr 2 (.t 1)),
   ir 27 (.ld 1 false (.t 26)),
   iv 28 (.lenL (.t 27)),
   iv 29 (.bin .gtr (.t 28) (.k (.int .i64 200)))])
 (.cond (.t 29)
  (.seq (.reg [iv 2 (.mv (.k (.nsl))),
    iv 3 (.mv (.k (.int .i64 9)))])
  (.ret))
  (.skip)))
 (.seq (.draw [⟨(some 30), .v (.fadr 0 (.t 1)), none, [1], 0, 0⟩,
   ⟨(some 31), .r (.ld 1 false (.t 30)), none, [30], 0, 0⟩,
   ⟨(some 32), .v (.i2i .u8 (.t 31)), none, [31], 0, 0⟩,
   ⟨(some 33), .v (.slit 1 1 [.int .u8 0] [(0, .t 32)]), none, [32], 0, 0⟩,
   ⟨(some 34), .v (.fadr 1 (.t 1)), none, [1], 0, 0⟩,
   ⟨(some 35), .r (.ld 1 false (.t 34)), none, [34], 0, 0⟩,
   ⟨(some 36), .v (.lenL (.t 35)), none, [35], 0, 0⟩,
   ⟨(some 37), .c (.call i_script_two [.t 33, .t 36]), none, [33, 36], 0, 0⟩,
   ⟨(some 38), .v (.fadr 1 (.t 1)), none, [1], 0, 0⟩,
   ⟨(some 39), .r (.ld 1 false (.t 38)), none, [38], 0, 1⟩,
   ⟨(some 40), .c (.app 1 false (.t 37) (.t 39)), none, [37, 39], 0, 0⟩,
   ⟨(some 4), .v (.mv (.t 40)), none, [40], 0, 0⟩])
 (.seq (.seq (.reg [iv 41 (.fadr 2 (.t 1)),
   ir 42 (.ld 1 false (.t 41)),
   iv 43 (.lenL (.t 42)),
   iv 44 (.mv (.k (.int .i64 0)))])
 (.blk 0
  (.loop Ba_script_Encode)))
 (.seq (.reg [iv 79 (.mv (.t 4)),
   iv 2 (.mv (.t 79)),
   iv 3 (.mv (.k (.int .i64 0)))])
 (.ret))))))
def F_script_Encode : AFn := ⟨80, C_script_Encode, [.tmp 2, .tmp 3]⟩
def Ba_avouchlaw19zOf : AC := .seq (.reg [iv 15 (.bin .lss (.t 14) (.t 13))])
   (.seq (.cond (.t 15)
    (.skip)
    (.exit 0))
   (.seq (.blk 1
    (.seq (.reg [iv 16 (.iadr none 4 (.t 12) (.t 14)),
      ir 17 (.ld 4 true (.t 16)),
      ic 5 (.alloc [.int .i64 0, .int .i64 0, .int .i64 0, .nsl]),
      jc (.st 4 (.t 5) (.t 17))])
    (.reg [iv 18 (.fadr 2 (.t 3)),
      ir 19 (.ld 1 false (.t 18)),
      iv 20 (.fadr 0 (.t 5)),
      ir 21 (.ld 1 false (.t 20)),
      iv 22 (.fadr 1 (.t 5)),
      ir 23 (.ld 1 false (.t 22)),
      iv 24 (.fadr 2 (.t 5)),
      ir 25 (.ld 1 false (.t 24)),
      iv 26 (.fadr 3 (.t 5)),
      ir 27 (.ld 1 false (.t 26)),
      iv 28 (.build [.int .i64 0, .int .i64 0, .int .i64 0, .nsl] [(0, 1, .t 21), (1, 1, .t 23), (2, 1, .t 25), (3, 1, .t 27)]),
      iv 29 (.slit 4 1 [.int .i64 0, .int .i64 0, .int .i64 0, .nsl] [(0, .t 28)]),
      ic 30 (.app 4 false (.t 19) (.t 29)),
      iv 31 (.fadr 2 (.t 3)),
      jc (.st 1 (.t 31) (.t 30))])))
   (.reg [iv 32 (.bin .add (.t 14) (.k (.int .i64 1))),
     iv 14 (.mv (.t 32))])))
def C_avouchlaw19zOf : AC := .seq (.reg [iv 1 (.boxv (.t 0)),
   ic 2 (.alloc [.int .i64 0, .nsl, .nsl])])
 (.seq (.reg [iv 6 (.fadr 0 (.t 1)),
   ir 7 (.ld 1 false (.t 6)),
   iv 8 (.fadr 1 (.t 1)),
   ir 9 (.ld 1 false (.t 8)),
   iv 10 (.build [.int .i64 0, .nsl, .nsl] [(0, 1, .t 7), (1, 1, .t 9)]),
   ic 3 (.alloc [.int .i64 0, .nsl, .nsl]),
   jc (.st 3 (.t 3) (.t 10))])
 (.seq (.seq (.reg [iv 11 (.fadr 2 (.t 1)),
   ir 12 (.ld 1 false (.t 11)),
   iv 13 (.lenL (.t 12)),
   iv 14 (.mv (.k (.int .i64 0)))])
 (.blk 0
  (.loop Ba_avouchlaw19zOf)))
 (.seq (.reg [ir 33 (.ld 3 true (.t 3)),
   jc (.st 3 (.t 2) (.t 33))])
 (.ret))))
def F_avouchlaw19zOf : AFn := ⟨34, C_avouchlaw19zOf, [.cell 2 3 true]⟩
def Ba_avouchref19zEncode : AC := .seq (.seq (.reg [iv 29 (.mv (.t 5)),
     iv 30 (.fadr 2 (.t 1)),
     ir 31 (.ld 1 false (.t 30)),
     iv 32 (.lenL (.t 31)),
     iv 33 (.bin .lss (.t 29) (.t 32))])
   (.cond (.t 33)
    (.skip)
    (.exit 0)))
   (.seq (.blk 1
    (.seq (.reg [iv 36 (.fadr 2 (.t 1)),
      ir 37 (.ld 1 false (.t 36)),
      iv 38 (.mv (.t 5)),
      iv 39 (.iadr none 4 (.t 37) (.t 38)),
      ir 40 (.ld 4 true (.t 39)),
      ic 6 (.alloc [.int .i64 0, .int .i64 0, .int .i64 0, .nsl]),
      jc (.st 4 (.t 6) (.t 40))])
    (.seq (.seq (.reg [ir 41 (.ld 4 true (.t 6)),
      ir 42 (.call i_avouchref19zright [.t 41]),
      iv 43 (.un .not (.t 42))])
    (.cond (.t 43)
     (.seq (.reg [iv 2 (.mv (.k (.nsl))),
       iv 3 (.mv (.k (.int .i64 1)))])
     (.ret))
     (.skip)))
    (.seq (.reg [iv 44 (.mv (.t 4)),
      iv 45 (.fadr 0 (.t 6)),
      ir 46 (.ld 1 false (.t 45)),
      iv 47 (.i2i .u8 (.t 46)),
      iv 48 (.slit 1 1 [.int .u8 0] [(0, .t 47)]),
      ic 49 (.app 1 false (.t 44) (.t 48)),
      iv 4 (.mv (.t 49))])
    (.seq (.seq (.reg [iv 50 (.fadr 0 (.t 6)),
      ir 51 (.ld 1 false (.t 50)),
      iv 52 (.bin .eql (.t 51) (.k (.int .i64 0)))])
    (.cond (.t 52)
     (.draw [⟨(some 53), .v (.mv (.t 4)), none, [4], 0, 0⟩,
       ⟨(some 54), .v (.fadr 1 (.t 6)), none, [6], 0, 0⟩,
       ⟨(some 55), .r (.ld 1 false (.t 54)), none, [54], 0, 0⟩,
       ⟨(some 56), .v (.i2i .u8 (.t 55)), none, [55], 0, 0⟩,
       ⟨(some 57), .v (.slit 1 1 [.int .u8 0] [(0, .t 56)]), none, [56], 0, 0⟩,
       ⟨(some 58), .c (.app 1 false (.t 53) (.t 57)), none, [53, 57], 0, 0⟩,
       ⟨(some 59), .v (.fadr 3 (.t 6)), none, [6], 0, 0⟩,
       ⟨(some 60), .r (.ld 1 false (.t 59)), none, [59], 0, 1⟩,
       ⟨(some 61), .v (.lenL (.t 60)), none, [60], 0, 0⟩,
       ⟨(some 62), .c (.call i_avouchref12zNumber [.t 61, .k (.int .i64 2)]), none, [61], 0, 0⟩,
       ⟨(some 63), .c (.app 1 false (.t 58) (.t 62)), none, [58, 62], 0, 0⟩,
       ⟨(some 64), .v (.fadr 3 (.t 6)), none, [6], 0, 0⟩,
       ⟨(some 65), .r (.ld 1 false (.t 64)), none, [64], 0, 3⟩,
       ⟨(some 66), .c (.app 1 false (.t 63) (.t 65)), none, [63, 65], 0, 0⟩,
       ⟨(some 4), .v (.mv (.t 66)), none, [66], 0, 0⟩])
     (.skip)))
    (.seq (.reg [iv 67 (.fadr 0 (.t 6)),
      ir 68 (.ld 1 false (.t 67)),
      iv 69 (.bin .eql (.t 68) (.k (.int .i64 1))),
      iv 70 (.mv (.t 69)),
      ⟨(some 71), .v (.fadr 0 (.t 6)), (some (70, false)), [], 0, 0⟩,
      ⟨(some 72), .r (.ld 1 false (.t 71)), (some (70, false)), [], 0, 0⟩,
      ⟨(some 73), .v (.bin .eql (.t 72) (.k (.int .i64 2))), (some (70, false)), [], 0, 0⟩,
      iv 74 (.pick (.t 70) (.k (.bool true)) (.t 73))])
    (.cond (.t 74)
     (.reg [iv 75 (.mv (.t 4)),
       iv 76 (.fadr 2 (.t 6)),
       ir 77 (.ld 1 false (.t 76)),
       ic 78 (.call i_avouchref12zNumber [.t 77, .k (.int .i64 2)]),
       ic 79 (.app 1 false (.t 75) (.t 78)),
       iv 4 (.mv (.t 79))])
     (.skip))))))))
   (.reg [iv 34 (.mv (.t 5)),
     iv 35 (.bin .add (.t 34) (.k (.int .i64 1))),
     iv 5 (.mv (.t 35))]))
def C_avouchref19zEncode : AC := .seq (.reg [iv 1 (.boxv (.t 0)),
   iv 2 (.mv (.k (.nsl))),
   iv 3 (.mv (.k (.int .i64 0)))])
 (.seq (.seq (.reg [iv 7 (.fadr 0 (.t 1)),
   ir 8 (.ld 1 false (.t 7)),
   ir 9 (.call i_avouchref19zin [.t 8, .k (.int .i64 255)]),
   iv 10 (.un .not (.t 9)),
   iv 11 (.mv (.t 10)),
   ⟨(some 12), .v (.fadr 1 (.t 1)), (some (11, false)), [], 0, 0⟩,
   ⟨(some 13), .r (.ld 1 false (.t 12)), (some (11, false)), [], 0, 0⟩,
   ⟨(some 14), .v (.lenL (.t 13)), (some (11, false)), [], 0, 0⟩,
   ⟨(some 15), .v (.bin .gtr (.t 14) (.k (.int .i64 65535))), (some (11, false)), [], 0, 0⟩,
   iv 16 (.pick (.t 11) (.k (.bool true)) (.t 15))])
 (.cond (.t 16)
  (.seq (.reg [iv 2 (.mv (.k (.nsl))),
    iv 3 (.mv (.k (.int .i64 1)))])
  (.ret))
  (.skip)))
 (.seq (.draw [⟨(some 17), .v (.fadr 0 (.t 1)), none, [1], 0, 0⟩,
   ⟨(some 18), .r (.ld 1 false (.t 17)), none, [17], 0, 1⟩,
   ⟨(some 19), .v (.i2i .u8 (.t 18)), none, [18], 0, 0⟩,
   ⟨(some 20), .v (.slit 1 1 [.int .u8 0] [(0, .t 19)]), none, [19], 0, 0⟩,
   ⟨(some 21), .v (.fadr 1 (.t 1)), none, [1], 0, 0⟩,
   ⟨(some 22), .r (.ld 1 false (.t 21)), none, [21], 0, 0⟩,
   ⟨(some 23), .v (.lenL (.t 22)), none, [22], 0, 0⟩,
   ⟨(some 24), .c (.call i_avouchref12zNumber [.t 23, .k (.int .i64 2)]), none, [23], 0, 0⟩,
   ⟨(some 25), .c (.app 1 false (.t 20) (.t 24)), none, [20, 24], 0, 0⟩,
   ⟨(some 26), .v (.fadr 1 (.t 1)), none, [1], 0, 0⟩,
   ⟨(some 27), .r (.ld 1 false (.t 26)), none, [26], 0, 2⟩,
   ⟨(some 28), .c (.app 1 false (.t 25) (.t 27)), none, [25, 27], 0, 0⟩,
   ⟨(some 4), .v (.mv (.t 28)), none, [28], 0, 0⟩])
 (.seq (.seq (.reg [iv 5 (.mv (.k (.int .i64 0)))])
 (.blk 0
  (.loop Ba_avouchref19zEncode)))
 (.seq (.seq (.reg [iv 80 (.fadr 2 (.t 1)),
   ir 81 (.ld 1 false (.t 80)),
   iv 82 (.lenL (.t 81)),
   iv 83 (.bin .gtr (.t 82) (.k (.int .i64 200)))])
 (.cond (.t 83)
  (.seq (.reg [iv 2 (.mv (.k (.nsl))),
    iv 3 (.mv (.k (.int .i64 9)))])
  (.ret))
  (.skip)))
 (.seq (.reg [iv 84 (.mv (.t 4)),
   iv 2 (.mv (.t 84)),
   iv 3 (.mv (.k (.int .i64 0)))])
 (.ret))))))
def F_avouchref19zEncode : AFn := ⟨85, C_avouchref19zEncode, [.tmp 2, .tmp 3]⟩
def Ba_avouchlaw19zis : AC := .seq (.reg [iv 13 (.bin .lss (.t 12) (.t 11))])
   (.seq (.cond (.t 13)
    (.skip)
    (.exit 0))
   (.seq (.blk 1
    (.seq (.reg [iv 14 (.iadr none 4 (.t 10) (.t 12)),
      ir 15 (.ld 4 true (.t 14)),
      ic 7 (.alloc [.int .i64 0, .int .i64 0, .int .i64 0, .nsl]),
      jc (.st 4 (.t 7) (.t 15))])
    (.reg [iv 16 (.mv (.t 5)),
      iv 17 (.fadr 0 (.t 7)),
      ir 18 (.ld 1 false (.t 17)),
      iv 19 (.fadr 1 (.t 7)),
      ir 20 (.ld 1 false (.t 19)),
      iv 21 (.fadr 2 (.t 7)),
      ir 22 (.ld 1 false (.t 21)),
      iv 23 (.fadr 3 (.t 7)),
      ir 24 (.ld 1 false (.t 23)),
      iv 25 (.build [.int .i64 0, .int .i64 0, .int .i64 0, .nsl] [(0, 1, .t 18), (1, 1, .t 20), (2, 1, .t 22), (3, 1, .t 24)]),
      iv 26 (.slit 4 1 [.int .i64 0, .int .i64 0, .int .i64 0, .nsl] [(0, .t 25)]),
      ic 27 (.app 4 false (.t 16) (.t 26)),
      iv 5 (.mv (.t 27))])))
   (.reg [iv 28 (.bin .add (.t 12) (.k (.int .i64 1))),
     iv 12 (.mv (.t 28))])))
def C_avouchlaw19zis : AC := .seq (.reg [iv 2 (.boxv (.t 0)),
   iv 3 (.boxv (.t 1)),
   iv 4 (.mv (.k (.bool false)))])
 (.seq (.reg [iv 8 (.slit 4 0 [.int .i64 0, .int .i64 0, .int .i64 0, .nsl] []),
   iv 5 (.mv (.t 8))])
 (.seq (.seq (.reg [iv 9 (.fadr 2 (.t 2)),
   ir 10 (.ld 1 false (.t 9)),
   iv 11 (.lenL (.t 10)),
   iv 12 (.mv (.k (.int .i64 0)))])
 (.blk 0
  (.loop Ba_avouchlaw19zis)))
 (.seq (.reg [iv 29 (.fadr 0 (.t 2)),
   ir 30 (.ld 1 false (.t 29)),
   iv 31 (.fadr 0 (.t 3)),
   ir 32 (.ld 1 false (.t 31)),
   iv 33 (.bin .eql (.t 30) (.t 32)),
   iv 34 (.mv (.t 33)),
   ⟨(some 35), .v (.fadr 1 (.t 2)), (some (34, true)), [], 0, 0⟩,
   ⟨(some 36), .r (.ld 1 false (.t 35)), (some (34, true)), [], 0, 0⟩,
   ⟨(some 37), .r (.b2s (.t 36)), (some (34, true)), [], 0, 0⟩,
   ⟨(some 38), .v (.fadr 1 (.t 3)), (some (34, true)), [], 0, 0⟩,
   ⟨(some 39), .r (.ld 1 false (.t 38)), (some (34, true)), [], 0, 0⟩,
   ⟨(some 40), .r (.b2s (.t 39)), (some (34, true)), [], 0, 0⟩,
   ⟨(some 41), .v (.bin .eql (.t 37) (.t 40)), (some (34, true)), [], 0, 0⟩,
   iv 42 (.pick (.t 34) (.t 41) (.k (.bool false))),
   iv 43 (.mv (.t 42)),
   ⟨(some 44), .v (.mv (.t 5)), (some (43, true)), [], 0, 0⟩,
   ⟨(some 45), .v (.fadr 2 (.t 3)), (some (43, true)), [], 0, 0⟩,
   ⟨(some 46), .r (.ld 1 false (.t 45)), (some (43, true)), [], 0, 0⟩,
   ⟨(some 47), .r (.call i_avouchref19zSame [.t 44, .t 46]), (some (43, true)), [], 0, 0⟩,
   iv 48 (.pick (.t 43) (.t 47) (.k (.bool false))),
   iv 4 (.mv (.t 48))])
 (.ret))))
def F_avouchlaw19zis : AFn := ⟨49, C_avouchlaw19zis, [.tmp 4]⟩
def Ba_avouchref19zDecode : AC := .seq (.seq (.reg [iv 34 (.mv (.t 7)),
     iv 35 (.mv (.t 0)),
     iv 36 (.lenL (.t 35)),
     iv 37 (.bin .lss (.t 34) (.t 36))])
   (.cond (.t 37)
    (.skip)
    (.exit 0)))
   (.blk 1
    (.seq (.reg [iv 38 (.mv (.t 0)),
      iv 39 (.mv (.t 7)),
      iv 40 (.iadr none 1 (.t 38) (.t 39)),
      ir 41 (.ld 1 false (.t 40)),
      iv 42 (.i2i .i64 (.t 41)),
      iv 43 (.build [.int .i64 0, .int .i64 0, .int .i64 0, .nsl] [(0, 1, .t 42)]),
      ic 8 (.alloc [.int .i64 0, .int .i64 0, .int .i64 0, .nsl]),
      jc (.st 4 (.t 8) (.t 43))])
    (.seq (.reg [iv 44 (.mv (.t 7)),
      iv 45 (.bin .add (.t 44) (.k (.int .i64 1))),
      iv 7 (.mv (.t 45))])
    (.seq (.seq (.reg [iv 46 (.fadr 2 (.t 6)),
      ir 47 (.ld 1 false (.t 46)),
      iv 48 (.lenL (.t 47)),
      iv 49 (.bin .eql (.t 48) (.k (.int .i64 200)))])
    (.cond (.t 49)
     (.seq (.reg [ir 50 (.ld 3 true (.t 4)),
       jc (.st 3 (.t 2) (.t 50)),
       iv 3 (.mv (.k (.int .i64 9)))])
     (.ret))
     (.skip)))
    (.seq (.seq (.reg [iv 51 (.fadr 0 (.t 8)),
      ir 52 (.ld 1 false (.t 51)),
      iv 53 (.bin .gtr (.t 52) (.k (.int .i64 4)))])
    (.cond (.t 53)
     (.seq (.reg [ir 54 (.ld 3 true (.t 4)),
       jc (.st 3 (.t 2) (.t 54)),
       iv 3 (.mv (.k (.int .i64 5)))])
     (.ret))
     (.skip)))
    (.seq (.seq (.reg [iv 55 (.fadr 0 (.t 8)),
      ir 56 (.ld 1 false (.t 55)),
      iv 57 (.bin .eql (.t 56) (.k (.int .i64 0)))])
    (.cond (.t 57)
     (.seq (.reg [iv 58 (.mv (.t 0)),
       iv 59 (.mv (.t 7)),
       iv 60 (.bin .add (.t 59) (.k (.int .i64 1))),
       ir 61 (.call i_avouchref19zpair [.t 58, .t 60]),
       iv 9 (.mv (.t 61))])
     (.seq (.seq (.reg [iv 62 (.mv (.t 9)),
       iv 63 (.bin .lss (.t 62) (.k (.int .i64 0))),
       iv 64 (.mv (.t 63)),
       ⟨(some 65), .v (.mv (.t 0)), (some (64, false)), [], 0, 0⟩,
       ⟨(some 66), .v (.lenL (.t 65)), (some (64, false)), [], 0, 0⟩,
       ⟨(some 67), .v (.mv (.t 7)), (some (64, false)), [], 0, 0⟩,
       ⟨(some 68), .v (.bin .add (.t 67) (.k (.int .i64 3))), (some (64, false)), [], 0, 0⟩,
       ⟨(some 69), .v (.mv (.t 9)), (some (64, false)), [], 0, 0⟩,
       ⟨(some 70), .v (.bin .add (.t 68) (.t 69)), (some (64, false)), [], 0, 0⟩,
       ⟨(some 71), .v (.bin .lss (.t 66) (.t 70)), (some (64, false)), [], 0, 0⟩,
       iv 72 (.pick (.t 64) (.k (.bool true)) (.t 71))])
     (.cond (.t 72)
      (.seq (.reg [ir 73 (.ld 3 true (.t 4)),
        jc (.st 3 (.t 2) (.t 73)),
        iv 3 (.mv (.k (.int .i64 2)))])
      (.ret))
      (.skip)))
     (.seq (.reg [iv 74 (.mv (.t 0)),
       iv 75 (.mv (.t 7)),
       iv 76 (.iadr none 1 (.t 74) (.t 75)),
       ir 77 (.ld 1 false (.t 76)),
       iv 78 (.i2i .i64 (.t 77)),
       iv 79 (.fadr 1 (.t 8)),
       jc (.st 1 (.t 79) (.t 78))])
     (.seq (.reg [iv 80 (.mv (.t 0)),
       iv 81 (.mv (.t 7)),
       iv 82 (.bin .add (.t 81) (.k (.int .i64 3))),
       iv 83 (.mv (.t 7)),
       iv 84 (.bin .add (.t 83) (.k (.int .i64 3))),
       iv 85 (.mv (.t 9)),
       iv 86 (.bin .add (.t 84) (.t 85)),
       iv 87 (.slice .slc 1 (.t 80) (some (.t 82)) (some (.t 86)) none),
       iv 88 (.fadr 3 (.t 8)),
       jc (.st 1 (.t 88) (.t 87))])
     (.reg [iv 89 (.mv (.t 7)),
       iv 90 (.bin .add (.t 89) (.k (.int .i64 3))),
       iv 91 (.mv (.t 9)),
       iv 92 (.bin .add (.t 90) (.t 91)),
       iv 7 (.mv (.t 92))])))))
     (.skip)))
    (.seq (.seq (.reg [iv 93 (.fadr 0 (.t 8)),
      ir 94 (.ld 1 false (.t 93)),
      iv 95 (.bin .eql (.t 94) (.k (.int .i64 1))),
      iv 96 (.mv (.t 95)),
      ⟨(some 97), .v (.fadr 0 (.t 8)), (some (96, false)), [], 0, 0⟩,
      ⟨(some 98), .r (.ld 1 false (.t 97)), (some (96, false)), [], 0, 0⟩,
      ⟨(some 99), .v (.bin .eql (.t 98) (.k (.int .i64 2))), (some (96, false)), [], 0, 0⟩,
      iv 100 (.pick (.t 96) (.k (.bool true)) (.t 99))])
    (.cond (.t 100)
     (.seq (.reg [iv 101 (.mv (.t 0)),
       iv 102 (.mv (.t 7)),
       ir 103 (.call i_avouchref19zpair [.t 101, .t 102]),
       iv 104 (.fadr 2 (.t 8)),
       jc (.st 1 (.t 104) (.t 103))])
     (.seq (.seq (.reg [iv 105 (.fadr 2 (.t 8)),
       ir 106 (.ld 1 false (.t 105)),
       iv 107 (.bin .lss (.t 106) (.k (.int .i64 0)))])
     (.cond (.t 107)
      (.seq (.reg [ir 108 (.ld 3 true (.t 4)),
        jc (.st 3 (.t 2) (.t 108)),
        iv 3 (.mv (.k (.int .i64 2)))])
      (.ret))
      (.skip)))
     (.reg [iv 109 (.mv (.t 7)),
       iv 110 (.bin .add (.t 109) (.k (.int .i64 2))),
       iv 7 (.mv (.t 110))])))
     (.skip)))
    (.reg [iv 111 (.fadr 2 (.t 6)),
      ir 112 (.ld 1 false (.t 111)),
      ir 113 (.ld 4 true (.t 8)),
      iv 114 (.slit 4 1 [.int .i64 0, .int .i64 0, .int .i64 0, .nsl] [(0, .t 113)]),
      ic 115 (.app 4 false (.t 112) (.t 114)),
      iv 116 (.fadr 2 (.t 6)),
      jc (.st 1 (.t 116) (.t 115))]))))))))
def C_avouchref19zDecode : AC := .seq (.reg [ic 2 (.alloc [.int .i64 0, .nsl, .nsl]),
   iv 3 (.mv (.k (.int .i64 0)))])
 (.seq (.reg [iv 10 (.build [.int .i64 0, .nsl, .nsl] []),
   ic 4 (.alloc [.int .i64 0, .nsl, .nsl]),
   jc (.st 3 (.t 4) (.t 10))])
 (.seq (.reg [iv 11 (.mv (.t 0)),
   ir 12 (.call i_avouchref19zpair [.t 11, .k (.int .i64 1)]),
   iv 5 (.mv (.t 12))])
 (.seq (.seq (.reg [iv 13 (.mv (.t 5)),
   iv 14 (.bin .lss (.t 13) (.k (.int .i64 0))),
   iv 15 (.mv (.t 14)),
   ⟨(some 16), .v (.mv (.t 0)), (some (15, false)), [], 0, 0⟩,
   ⟨(some 17), .v (.lenL (.t 16)), (some (15, false)), [], 0, 0⟩,
   ⟨(some 18), .v (.mv (.t 5)), (some (15, false)), [], 0, 0⟩,
   ⟨(some 19), .v (.bin .add (.k (.int .i64 3)) (.t 18)), (some (15, false)), [], 0, 0⟩,
   ⟨(some 20), .v (.bin .lss (.t 17) (.t 19)), (some (15, false)), [], 0, 0⟩,
   iv 21 (.pick (.t 15) (.k (.bool true)) (.t 20))])
 (.cond (.t 21)
  (.seq (.reg [ir 22 (.ld 3 true (.t 4)),
    jc (.st 3 (.t 2) (.t 22)),
    iv 3 (.mv (.k (.int .i64 2)))])
  (.ret))
  (.skip)))
 (.seq (.draw [⟨(some 23), .v (.mv (.t 0)), none, [0], 0, 0⟩,
   ⟨(some 24), .v (.iadr none 1 (.t 23) (.k (.int .i64 0))), none, [23], 0, 0⟩,
   ⟨(some 25), .r (.ld 1 false (.t 24)), none, [24], 0, 1⟩,
   ⟨(some 26), .v (.i2i .i64 (.t 25)), none, [25], 0, 0⟩,
   ⟨(some 27), .v (.mv (.t 0)), none, [0], 0, 0⟩,
   ⟨(some 28), .v (.mv (.t 5)), none, [5], 0, 0⟩,
   ⟨(some 29), .v (.bin .add (.k (.int .i64 3)) (.t 28)), none, [28], 0, 0⟩,
   ⟨(some 30), .v (.slice .slc 1 (.t 27) (some (.k (.int .i64 3))) (some (.t 29)) none), none, [27, 29], 0, 0⟩,
   ⟨(some 31), .v (.build [.int .i64 0, .nsl, .nsl] [(0, 1, .t 26), (1, 1, .t 30)]), none, [26, 30], 0, 0⟩,
   ic 6 (.alloc [.int .i64 0, .nsl, .nsl]),
   ⟨none, .c (.st 3 (.t 6) (.t 31)), none, [6, 31], 0, 0⟩])
 (.seq (.reg [iv 32 (.mv (.t 5)),
   iv 33 (.bin .add (.k (.int .i64 3)) (.t 32)),
   iv 7 (.mv (.t 33))])
 (.seq (.blk 0
  (.loop Ba_avouchref19zDecode))
 (.seq (.reg [ir 117 (.ld 3 true (.t 6)),
   jc (.st 3 (.t 2) (.t 117)),
   iv 3 (.mv (.k (.int .i64 0)))])
 (.ret))))))))
def F_avouchref19zDecode : AFn := ⟨118, C_avouchref19zDecode, [.cell 2 3 true, .tmp 3]⟩
def Ba_pattern_Serialise : AC := .seq (.reg [iv 13 (.bin .lss (.t 12) (.t 11))])
   (.seq (.cond (.t 13)
    (.skip)
    (.exit 0))
   (.seq (.blk 1
    (.seq (.reg [iv 14 (.mv (.t 12)),
      iv 15 (.iadr none 4 (.t 10) (.t 12)),
      ir 16 (.ld 4 true (.t 15)),
      ic 7 (.alloc [.int .i64 0, .int .i64 0, .int .i64 0, .str ⟨#[]⟩]),
      iv 6 (.mv (.t 14)),
      jc (.st 4 (.t 7) (.t 16))])
    (.seq (.seq (.reg [iv 17 (.mv (.t 6)),
      iv 18 (.bin .eql (.t 17) (.k (.int .i64 1024)))])
    (.cond (.t 18)
     (.seq (.reg [iv 19 (.mv (.t 6)),
       iv 2 (.mv (.k (.nsl))),
       iv 3 (.mv (.t 19)),
       iv 4 (.mv (.k (.int .i64 9)))])
     (.ret))
     (.skip)))
    (.seq (.reg [ir 21 (.ld 4 true (.t 7)),
      ir 22 (.call i_item_Encode [.t 21]),
      iv 20 (.mv (.t 22)),
      iv 23 (.ext (.t 20) 0),
      iv 24 (.ext (.t 20) 1),
      iv 8 (.mv (.t 23)),
      iv 9 (.mv (.t 24))])
    (.seq (.seq (.reg [iv 25 (.mv (.t 9)),
      iv 26 (.bin .neq (.t 25) (.k (.int .i64 0)))])
    (.cond (.t 26)
     (.seq (.reg [iv 27 (.mv (.t 6)),
       iv 28 (.mv (.t 9)),
       iv 2 (.mv (.k (.nsl))),
       iv 3 (.mv (.t 27)),
       iv 4 (.mv (.t 28))])
     (.ret))
     (.skip)))
    (.reg [iv 29 (.mv (.t 5)),
      iv 30 (.mv (.t 8)),
      ic 31 (.app 1 false (.t 29) (.t 30)),
      iv 5 (.mv (.t 31))]))))))
   (.reg [iv 32 (.bin .add (.t 12) (.k (.int .i64 1))),
     iv 12 (.mv (.t 32))])))
def C_pattern_Serialise : AC := .seq (.reg [iv 2 (.mv (.k (.nsl))),
   iv 3 (.mv (.k (.int .i64 0))),
   iv 4 (.mv (.k (.int .i64 0)))])
 (.seq (.reg [iv 5 (.mv (.k (.nsl)))])
 (.seq (.seq (.reg [iv 10 (.mv (.t 0)),
   iv 11 (.lenL (.t 10)),
   iv 12 (.mv (.k (.int .i64 0)))])
 (.blk 0
  (.loop Ba_pattern_Serialise)))
 (.seq (.reg [iv 33 (.mv (.t 5)),
   iv 2 (.mv (.t 33)),
   iv 3 (.mv (.k (.int .i64 (-1)))),
   iv 4 (.mv (.k (.int .i64 0)))])
 (.ret))))
def F_pattern_Serialise : AFn := ⟨34, C_pattern_Serialise, [.tmp 2, .tmp 3, .tmp 4]⟩
def C_avouchlaw12zOf : AC := .seq (.reg [iv 1 (.boxv (.t 0)),
   ic 2 (.alloc [.int .i64 0, .int .i64 0, .int .i64 0, .str ⟨#[]⟩])])
 (.seq (.reg [iv 3 (.fadr 0 (.t 1)),
   ir 4 (.ld 1 false (.t 3)),
   iv 5 (.fadr 1 (.t 1)),
   ir 6 (.ld 1 false (.t 5)),
   iv 7 (.fadr 2 (.t 1)),
   ir 8 (.ld 1 false (.t 7)),
   iv 9 (.fadr 3 (.t 1)),
   ir 10 (.ld 1 false (.t 9)),
   iv 11 (.build [.int .i64 0, .int .i64 0, .int .i64 0, .str ⟨#[]⟩] [(0, 1, .t 4), (1, 1, .t 6), (2, 1, .t 8), (3, 1, .t 10)]),
   jc (.st 4 (.t 2) (.t 11))])
 (.ret))
def F_avouchlaw12zOf : AFn := ⟨12, C_avouchlaw12zOf, [.cell 2 4 true]⟩
def Ba_avouchref07zSum : AC := .seq (.seq (.reg [iv 16 (.mv (.t 6)),
        iv 17 (.bin .lss (.t 16) (.k (.int .i64 136)))])
      (.cond (.t 17)
       (.skip)
       (.exit 2)))
      (.seq (.blk 3
       (.draw [⟨(some 20), .v (.mv (.t 4)), none, [4], 0, 0⟩,
         ⟨(some 21), .v (.mv (.t 6)), none, [6], 0, 0⟩,
         ⟨(some 22), .v (.mv (.t 4)), none, [4], 0, 0⟩,
         ⟨(some 23), .v (.mv (.t 6)), none, [6], 0, 0⟩,
         ⟨(some 24), .v (.iadr none 1 (.t 22) (.t 23)), none, [22, 23], 0, 0⟩,
         ⟨(some 25), .r (.ld 1 false (.t 24)), none, [24], 0, 0⟩,
         ⟨(some 26), .v (.mv (.t 3)), none, [3], 0, 0⟩,
         ⟨(some 27), .v (.mv (.t 5)), none, [5], 0, 0⟩,
         ⟨(some 28), .v (.mv (.t 6)), none, [6], 0, 0⟩,
         ⟨(some 29), .v (.bin .add (.t 27) (.t 28)), none, [27, 28], 0, 0⟩,
         ⟨(some 30), .v (.iadr none 1 (.t 26) (.t 29)), none, [26, 29], 0, 0⟩,
         ⟨(some 31), .r (.ld 1 false (.t 30)), none, [30], 0, 0⟩,
         ⟨(some 32), .r (.call i_avouchref07zxor [.t 25, .t 31]), none, [25, 31], 0, 0⟩,
         ⟨(some 33), .v (.iadr none 1 (.t 20) (.t 21)), none, [20, 21], 0, 0⟩,
         ⟨none, .c (.st 1 (.t 33) (.t 32)), none, [33, 32], 0, 0⟩]))
      (.reg [iv 18 (.mv (.t 6)),
        iv 19 (.bin .add (.t 18) (.k (.int .i64 1))),
        iv 6 (.mv (.t 19))]))
def Bb_avouchref07zSum : AC := .seq (.seq (.reg [iv 10 (.mv (.t 5)),
     iv 11 (.mv (.t 3)),
     iv 12 (.lenL (.t 11)),
     iv 13 (.bin .lss (.t 10) (.t 12))])
   (.cond (.t 13)
    (.skip)
    (.exit 0)))
   (.seq (.blk 1
    (.seq (.seq (.reg [iv 6 (.mv (.k (.int .i64 0)))])
    (.blk 2
     (.loop Ba_avouchref07zSum)))
    (.reg [iv 34 (.mv (.t 4)),
      ir 35 (.call i_avouchref06zOfBytes [.t 34]),
      ir 36 (.call i_avouchref06zPermute [.t 35]),
      ic 37 (.call i_avouchref06zBytes [.t 36]),
      iv 4 (.mv (.t 37))])))
   (.reg [iv 14 (.mv (.t 5)),
     iv 15 (.bin .add (.t 14) (.k (.int .i64 136))),
     iv 5 (.mv (.t 15))]))
def C_avouchref07zSum : AC := .seq (.reg [iv 2 (.mv (.k (.nsl)))])
 (.seq (.reg [iv 7 (.mv (.t 0)),
   ir 8 (.call i_avouchref07zPad [.t 7]),
   iv 3 (.mv (.t 8))])
 (.seq (.reg [ic 9 (.mk 1 [.int .u8 0] (.k (.int .i64 200))),
   iv 4 (.mv (.t 9))])
 (.seq (.seq (.reg [iv 5 (.mv (.k (.int .i64 0)))])
 (.blk 0
  (.loop Bb_avouchref07zSum)))
 (.seq (.reg [iv 38 (.mv (.t 4)),
   iv 39 (.slice .slc 1 (.t 38) none (some (.k (.int .i64 32))) none),
   iv 2 (.mv (.t 39))])
 (.ret)))))
def F_avouchref07zSum : AFn := ⟨40, C_avouchref07zSum, [.tmp 2]⟩
def C_avouchref12zEncode : AC := .seq (.reg [iv 1 (.boxv (.t 0)),
   iv 2 (.mv (.k (.nsl))),
   iv 3 (.mv (.k (.int .i64 0)))])
 (.seq (.seq (.reg [ir 6 (.ld 4 true (.t 1)),
   ir 7 (.call i_avouchref12zCheck [.t 6]),
   iv 4 (.mv (.t 7))])
 (.seq (.reg [iv 8 (.mv (.t 4)),
   iv 9 (.bin .neq (.t 8) (.k (.int .i64 0)))])
 (.cond (.t 9)
  (.seq (.reg [iv 10 (.mv (.t 4)),
    iv 2 (.mv (.k (.nsl))),
    iv 3 (.mv (.t 10))])
  (.ret))
  (.skip))))
 (.seq (.draw [⟨(some 11), .v (.fadr 0 (.t 1)), none, [1], 0, 0⟩,
   ⟨(some 12), .r (.ld 1 false (.t 11)), none, [11], 0, 0⟩,
   ⟨(some 13), .c (.call i_avouchref12zNumber [.t 12, .k (.int .i64 1)]), none, [12], 0, 0⟩,
   ⟨(some 14), .v (.fadr 1 (.t 1)), none, [1], 0, 0⟩,
   ⟨(some 15), .r (.ld 1 false (.t 14)), none, [14], 0, 1⟩,
   ⟨(some 16), .c (.call i_avouchref12zNumber [.t 15, .k (.int .i64 1)]), none, [15], 0, 0⟩,
   ⟨(some 17), .c (.app 1 false (.t 13) (.t 16)), none, [13, 16], 0, 0⟩,
   ⟨(some 5), .v (.mv (.t 17)), none, [17], 0, 0⟩])
 (.seq (.draw [⟨(some 18), .v (.mv (.t 5)), none, [5], 0, 0⟩,
   ⟨(some 19), .v (.fadr 2 (.t 1)), none, [1], 0, 0⟩,
   ⟨(some 20), .r (.ld 1 false (.t 19)), none, [19], 0, 0⟩,
   ⟨(some 21), .c (.call i_avouchref12zNumber [.t 20, .k (.int .i64 4)]), none, [20], 0, 0⟩,
   ⟨(some 22), .c (.app 1 false (.t 18) (.t 21)), none, [18, 21], 0, 0⟩,
   ⟨(some 23), .v (.fadr 3 (.t 1)), none, [1], 0, 0⟩,
   ⟨(some 24), .r (.ld 1 false (.t 23)), none, [23], 0, 2⟩,
   ⟨(some 25), .v (.lenS (.t 24)), none, [24], 0, 0⟩,
   ⟨(some 26), .c (.call i_avouchref12zNumber [.t 25, .k (.int .i64 2)]), none, [25], 0, 0⟩,
   ⟨(some 27), .c (.app 1 false (.t 22) (.t 26)), none, [22, 26], 0, 0⟩,
   ⟨(some 5), .v (.mv (.t 27)), none, [27], 0, 0⟩])
 (.seq (.reg [iv 28 (.mv (.t 5)),
   iv 29 (.fadr 3 (.t 1)),
   ir 30 (.ld 1 false (.t 29)),
   ic 31 (.s2b (.t 30)),
   ic 32 (.app 1 false (.t 28) (.t 31)),
   iv 2 (.mv (.t 32)),
   iv 3 (.mv (.k (.int .i64 0)))])
 (.ret)))))
def F_avouchref12zEncode : AFn := ⟨33, C_avouchref12zEncode, [.tmp 2, .tmp 3]⟩
def Ba_digest_Hash_Write : AC := .seq (.reg [iv 9 (.bin .lss (.t 8) (.t 7))])
   (.seq (.cond (.t 9)
    (.skip)
    (.exit 0))
   (.seq (.blk 1
    (.seq (.reg [iv 10 (.iadr none 1 (.t 6) (.t 8)),
      ir 11 (.ld 1 false (.t 10)),
      iv 5 (.mv (.t 11))])
    (.seq (.reg [iv 12 (.mv (.t 0)),
      iv 13 (.mv (.t 0)),
      iv 14 (.nck (.t 13)),
      iv 15 (.fadr 25 (.t 14)),
      ir 16 (.ld 1 false (.t 15)),
      iv 17 (.mv (.t 5)),
      ic 18 (.call i_digest_Hash_put [.t 12, .t 16, .t 17])])
    (.seq (.reg [iv 19 (.mv (.t 0)),
      iv 20 (.nck (.t 19)),
      iv 21 (.fadr 25 (.t 20)),
      ir 22 (.ld 1 false (.t 21)),
      iv 23 (.bin .add (.t 22) (.k (.int .i64 1))),
      iv 24 (.nck (.t 19)),
      iv 25 (.fadr 25 (.t 24)),
      jc (.st 1 (.t 25) (.t 23))])
    (.seq (.reg [iv 26 (.mv (.t 0)),
      iv 27 (.nck (.t 26)),
      iv 28 (.fadr 25 (.t 27)),
      ir 29 (.ld 1 false (.t 28)),
      iv 30 (.bin .eql (.t 29) (.k (.int .i64 136)))])
    (.cond (.t 30)
     (.reg [iv 31 (.mv (.t 0)),
       iv 32 (.mv (.t 0)),
       iv 33 (.mv (.t 0)),
       iv 34 (.nck (.t 33)),
       iv 35 (.fadr 0 (.t 34)),
       ir 36 (.ld 25 true (.t 35)),
       ir 37 (.call i_keccak_State_Permute [.t 36]),
       iv 38 (.nck (.t 31)),
       iv 39 (.fadr 0 (.t 38)),
       jc (.st 25 (.t 39) (.t 37)),
       iv 40 (.nck (.t 32)),
       iv 41 (.fadr 25 (.t 40)),
       jc (.st 1 (.t 41) (.k (.int .i64 0)))])
     (.skip)))))))
   (.reg [iv 42 (.bin .add (.t 8) (.k (.int .i64 1))),
     iv 8 (.mv (.t 42))])))
def C_digest_Hash_Write : AC := .seq (.reg [iv 6 (.mv (.t 1)),
   iv 7 (.lenL (.t 6)),
   iv 8 (.mv (.k (.int .i64 0)))])
 (.blk 0
  (.loop Ba_digest_Hash_Write))
def F_digest_Hash_Write : AFn := ⟨43, C_digest_Hash_Write, []⟩
def C_digest_Hash_Sum : AC := .seq (.reg [ic 2 (.alloc (rep1 (.int .u8 0) 32))])
 (.seq (.reg [iv 5 (.mv (.t 0)),
   iv 6 (.nck (.t 5)),
   ir 7 (.ld 26 true (.t 6)),
   ic 3 (.alloc [.int .u64 0, .int .u64 0, .int .u64 0, .int .u64 0, .int .u64 0, .int .u64 0, .int .u64 0, .int .u64 0, .int .u64 0, .int .u64 0, .int .u64 0, .int .u64 0, .int .u64 0, .int .u64 0, .int .u64 0, .int .u64 0, .int .u64 0, .int .u64 0, .int .u64 0, .int .u64 0, .int .u64 0, .int .u64 0, .int .u64 0, .int .u64 0, .int .u64 0, .int .i64 0]),
   jc (.st 26 (.t 3) (.t 7))])
 (.seq (.reg [iv 8 (.fadr 25 (.t 3)),
   ir 9 (.ld 1 false (.t 8)),
   ic 10 (.call i_digest_Hash_put [.t 3, .t 9, .k (.int .u8 6)])])
 (.seq (.reg [ic 11 (.call i_digest_Hash_put [.t 3, .k (.int .i64 135), .k (.int .u8 128)])])
 (.seq (.reg [iv 12 (.fadr 0 (.t 3)),
   ir 13 (.ld 25 true (.t 12)),
   ir 14 (.call i_keccak_State_Permute [.t 13]),
   ir 15 (.call i_keccak_State_Bytes [.t 14]),
   ic 4 (.alloc (rep1 (.int .u8 0) 200)),
   jc (.st 200 (.t 4) (.t 15))])
 (.seq (.reg [iv 16 (.slice (.arr 200) 1 (.t 4) none (some (.k (.int .i64 32))) none),
   iv 17 (.s2a 32 (.t 16)),
   ir 18 (.ld 32 true (.t 17)),
   jc (.st 32 (.t 2) (.t 18))])
 (.ret))))))
def F_digest_Hash_Sum : AFn := ⟨19, C_digest_Hash_Sum, [.cell 2 32 true]⟩
def C_strings_Builder_WriteString : AC := .seq (.reg [iv 4 (.mv (.k (.int .i64 0))),
   iv 5 (.mv (.k (.nif)))])
 (.seq (.reg [iv 6 (.mv (.t 0)),
   ir 7 (.call i_strings_Builder_copyCheck [.t 6])])
 (.seq (.reg [iv 8 (.mv (.t 0)),
   iv 9 (.mv (.t 0)),
   iv 10 (.nck (.t 9)),
   iv 11 (.fadr 1 (.t 10)),
   ir 12 (.ld 1 false (.t 11)),
   iv 13 (.mv (.t 1)),
   ic 14 (.app 1 false (.t 12) (.t 13)),
   iv 15 (.nck (.t 8)),
   iv 16 (.fadr 1 (.t 15)),
   jc (.st 1 (.t 16) (.t 14))])
 (.seq (.reg [iv 17 (.mv (.t 1)),
   iv 18 (.lenS (.t 17)),
   iv 4 (.mv (.t 18)),
   iv 5 (.mv (.k (.nif)))])
 (.ret))))
def F_strings_Builder_WriteString : AFn := ⟨19, C_strings_Builder_WriteString, [.tmp 4, .tmp 5]⟩
def C_strconv_Itoa : AC := .seq (.reg [iv 2 (.mv (.k (.str ⟨#[]⟩)))])
 (.seq (.reg [iv 3 (.mv (.t 0)),
   ir 4 (.call i_i_strconv_Itoa [.t 3]),
   iv 2 (.mv (.t 4))])
 (.ret))
def F_strconv_Itoa : AFn := ⟨5, C_strconv_Itoa, [.tmp 2]⟩
def C_strings_Builder_WriteByte : AC := .seq (.reg [iv 4 (.mv (.k (.nif)))])
 (.seq (.reg [iv 5 (.mv (.t 0)),
   ir 6 (.call i_strings_Builder_copyCheck [.t 5])])
 (.seq (.reg [iv 7 (.mv (.t 0)),
   iv 8 (.mv (.t 0)),
   iv 9 (.nck (.t 8)),
   iv 10 (.fadr 1 (.t 9)),
   ir 11 (.ld 1 false (.t 10)),
   iv 12 (.mv (.t 1)),
   iv 13 (.slit 1 1 [.int .u8 0] [(0, .t 12)]),
   ic 14 (.app 1 false (.t 11) (.t 13)),
   iv 15 (.nck (.t 7)),
   iv 16 (.fadr 1 (.t 15)),
   jc (.st 1 (.t 16) (.t 14))])
 (.seq (.reg [iv 4 (.mv (.k (.nif)))])
 (.ret))))
def F_strings_Builder_WriteByte : AFn := ⟨17, C_strings_Builder_WriteByte, [.tmp 4]⟩
def C_avouchref19zdecimal : AC := .seq (.reg [iv 2 (.mv (.k (.str ⟨#[]⟩)))])
 (.seq (.seq (.reg [iv 4 (.mv (.t 0)),
   iv 5 (.bin .gtr (.t 4) (.k (.int .i64 (-10)))),
   iv 6 (.mv (.t 5)),
   ⟨(some 7), .v (.mv (.t 0)), (some (6, true)), [], 0, 0⟩,
   ⟨(some 8), .v (.bin .lss (.t 7) (.k (.int .i64 0))), (some (6, true)), [], 0, 0⟩,
   iv 9 (.pick (.t 6) (.t 8) (.k (.bool false)))])
 (.cond (.t 9)
  (.seq (.reg [iv 10 (.mv (.t 0)),
    iv 11 (.un .neg (.t 10)),
    ir 12 (.call i_avouchref19zdecimal [.t 11]),
    iv 13 (.bin .add (.k (.str ⟨#[45]⟩)) (.t 12)),
    iv 2 (.mv (.t 13))])
  (.ret))
  (.skip)))
 (.seq (.seq (.reg [iv 14 (.mv (.t 0)),
   iv 15 (.bin .geq (.t 14) (.k (.int .i64 0))),
   iv 16 (.mv (.t 15)),
   ⟨(some 17), .v (.mv (.t 0)), (some (16, true)), [], 0, 0⟩,
   ⟨(some 18), .v (.bin .lss (.t 17) (.k (.int .i64 10))), (some (16, true)), [], 0, 0⟩,
   iv 19 (.pick (.t 16) (.t 18) (.k (.bool false)))])
 (.cond (.t 19)
  (.seq (.reg [iv 20 (.mv (.t 0)),
    iv 21 (.bin .add (.k (.int .i64 48)) (.t 20)),
    iv 22 (.i2i .u8 (.t 21)),
    iv 23 (.slit 1 1 [.int .u8 0] [(0, .t 22)]),
    ir 24 (.b2s (.t 23)),
    iv 2 (.mv (.t 24))])
  (.ret))
  (.skip)))
 (.seq (.reg [iv 25 (.mv (.t 0)),
   iv 26 (.bin .rem (.t 25) (.k (.int .i64 10))),
   iv 3 (.mv (.t 26))])
 (.seq (.seq (.reg [iv 27 (.mv (.t 3)),
   iv 28 (.bin .lss (.t 27) (.k (.int .i64 0)))])
 (.cond (.t 28)
  (.reg [iv 29 (.mv (.t 3)),
    iv 30 (.un .neg (.t 29)),
    iv 3 (.mv (.t 30))])
  (.skip)))
 (.seq (.reg [iv 31 (.mv (.t 0)),
   iv 32 (.bin .quo (.t 31) (.k (.int .i64 10))),
   ir 33 (.call i_avouchref19zdecimal [.t 32]),
   iv 34 (.mv (.t 3)),
   ir 35 (.call i_avouchref19zdecimal [.t 34]),
   iv 36 (.bin .add (.t 33) (.t 35)),
   iv 2 (.mv (.t 36))])
 (.ret))))))
def F_avouchref19zdecimal : AFn := ⟨37, C_avouchref19zdecimal, [.tmp 2]⟩
def C_avouchref19zdigit : AC := .seq (.reg [iv 2 (.mv (.k (.int .u8 0)))])
 (.seq (.seq (.reg [iv 3 (.mv (.t 0)),
   iv 4 (.bin .lss (.t 3) (.k (.int .i64 10)))])
 (.cond (.t 4)
  (.seq (.reg [iv 5 (.mv (.t 0)),
    iv 6 (.bin .add (.k (.int .i64 48)) (.t 5)),
    iv 7 (.i2i .u8 (.t 6)),
    iv 2 (.mv (.t 7))])
  (.ret))
  (.skip)))
 (.seq (.reg [iv 8 (.mv (.t 0)),
   iv 9 (.bin .add (.k (.int .i64 87)) (.t 8)),
   iv 10 (.i2i .u8 (.t 9)),
   iv 2 (.mv (.t 10))])
 (.ret)))
def F_avouchref19zdigit : AFn := ⟨11, C_avouchref19zdigit, [.tmp 2]⟩
def C_slices_ContainsFuncscript_Call_script_Call : AC := .seq (.reg [iv 4 (.mv (.k (.bool false)))])
 (.seq (.reg [iv 5 (.mv (.t 0)),
   iv 6 (.mv (.t 1)),
   ir 7 (.call i_slices_IndexFuncscript_Call_script_Call [.t 5, .t 6]),
   iv 8 (.bin .geq (.t 7) (.k (.int .i64 0))),
   iv 4 (.mv (.t 8))])
 (.ret))
def F_slices_ContainsFuncscript_Call_script_Call : AFn := ⟨9, C_slices_ContainsFuncscript_Call_script_Call, [.tmp 4]⟩
def C_script_Encode_1 : AC := .seq (.reg [iv 1 (.boxv (.t 0)),
   iv 2 (.mv (.k (.bool false)))])
 (.seq (.reg [ir 3 (.ld 4 true (.t 1)),
   ir 4 (.call i_script_Call_bare [.t 3]),
   iv 5 (.un .not (.t 4)),
   iv 2 (.mv (.t 5))])
 (.ret))
def F_script_Encode_1 : AFn := ⟨6, C_script_Encode_1, [.tmp 2]⟩
def Ba_script_Call_bare : AC := .seq (.reg [iv 32 (.bin .lss (.t 31) (.t 30))])
   (.seq (.cond (.t 32)
    (.skip)
    (.exit 0))
   (.seq (.blk 1
    (.seq (.reg [iv 33 (.mv (.t 31)),
      iv 34 (.iadr none 1 (.t 29) (.t 31)),
      ir 35 (.ld 1 false (.t 34)),
      iv 5 (.mv (.t 33)),
      iv 6 (.mv (.t 35))])
    (.seq (.reg [iv 36 (.mv (.t 6)),
      iv 37 (.bin .lss (.t 36) (.k (.int .i64 0))),
      iv 38 (.mv (.t 37)),
      ⟨(some 39), .v (.mv (.t 6)), (some (38, false)), [], 0, 0⟩,
      ⟨(some 40), .v (.mv (.t 4)), (some (38, false)), [], 0, 0⟩,
      ⟨(some 41), .v (.fadr 0 (.t 1)), (some (38, false)), [], 0, 0⟩,
      ⟨(some 42), .r (.ld 1 false (.t 41)), (some (38, false)), [], 0, 0⟩,
      ⟨(some 43), .v (.iadr none 1 (.t 40) (.t 42)), (some (38, false)), [], 0, 0⟩,
      ⟨(some 44), .r (.ld 1 false (.t 43)), (some (38, false)), [], 0, 0⟩,
      ⟨(some 45), .v (.mv (.t 5)), (some (38, false)), [], 0, 0⟩,
      ⟨(some 46), .v (.iadr none 1 (.t 44) (.t 45)), (some (38, false)), [], 0, 0⟩,
      ⟨(some 47), .r (.ld 1 false (.t 46)), (some (38, false)), [], 0, 0⟩,
      ⟨(some 48), .v (.bin .gtr (.t 39) (.t 47)), (some (38, false)), [], 0, 0⟩,
      iv 49 (.pick (.t 38) (.k (.bool true)) (.t 48))])
    (.cond (.t 49)
     (.seq (.reg [iv 2 (.mv (.k (.bool false)))])
     (.ret))
     (.skip)))))
   (.reg [iv 50 (.bin .add (.t 31) (.k (.int .i64 1))),
     iv 31 (.mv (.t 50))])))
def C_script_Call_bare : AC := .seq (.reg [iv 1 (.boxv (.t 0)),
   iv 2 (.mv (.k (.bool false)))])
 (.seq (.reg [iv 7 (.fadr 1 (.t 1)),
   ir 8 (.ld 1 false (.t 7)),
   iv 9 (.fadr 2 (.t 1)),
   ir 10 (.ld 1 false (.t 9)),
   iv 11 (.fadr 3 (.t 1)),
   ir 12 (.ld 1 false (.t 11)),
   iv 13 (.lenL (.t 12)),
   iv 14 (.slit 1 3 [.int .i64 0] [(0, .t 8), (1, .t 10), (2, .t 13)]),
   iv 3 (.mv (.t 14))])
 (.seq (.reg [iv 15 (.slit 1 3 [.int .i64 0] [(0, .k (.int .i64 255)), (1, .k (.int .i64 0)), (2, .k (.int .i64 65535))]),
   iv 16 (.slit 1 3 [.int .i64 0] [(0, .k (.int .i64 0)), (1, .k (.int .i64 65535)), (2, .k (.int .i64 0))]),
   iv 17 (.slit 1 3 [.int .i64 0] [(0, .k (.int .i64 0)), (1, .k (.int .i64 65535)), (2, .k (.int .i64 0))]),
   iv 18 (.slit 1 3 [.int .i64 0] [(0, .k (.int .i64 0)), (1, .k (.int .i64 0)), (2, .k (.int .i64 0))]),
   iv 19 (.slit 1 3 [.int .i64 0] [(0, .k (.int .i64 0)), (1, .k (.int .i64 0)), (2, .k (.int .i64 0))]),
   iv 20 (.slit 1 5 [.nsl] [(0, .t 15), (1, .t 16), (2, .t 17), (3, .t 18), (4, .t 19)]),
   iv 4 (.mv (.t 20))])
 (.seq (.seq (.reg [iv 21 (.fadr 0 (.t 1)),
   ir 22 (.ld 1 false (.t 21)),
   iv 23 (.bin .lss (.t 22) (.k (.int .i64 0))),
   iv 24 (.mv (.t 23)),
   ⟨(some 25), .v (.fadr 0 (.t 1)), (some (24, false)), [], 0, 0⟩,
   ⟨(some 26), .r (.ld 1 false (.t 25)), (some (24, false)), [], 0, 0⟩,
   ⟨(some 27), .v (.bin .gtr (.t 26) (.k (.int .i64 4))), (some (24, false)), [], 0, 0⟩,
   iv 28 (.pick (.t 24) (.k (.bool true)) (.t 27))])
 (.cond (.t 28)
  (.seq (.reg [iv 2 (.mv (.k (.bool false)))])
  (.ret))
  (.skip)))
 (.seq (.seq (.reg [iv 29 (.mv (.t 3)),
   iv 30 (.lenL (.t 29)),
   iv 31 (.mv (.k (.int .i64 0)))])
 (.blk 0
  (.loop Ba_script_Call_bare)))
 (.seq (.reg [iv 2 (.mv (.k (.bool true)))])
 (.ret))))))
def F_script_Call_bare : AFn := ⟨51, C_script_Call_bare, [.tmp 2]⟩
def C_script_two : AC := .seq (.reg [iv 4 (.mv (.k (.nsl)))])
 (.seq (.reg [iv 5 (.mv (.t 0)),
   iv 6 (.mv (.t 1)),
   iv 7 (.i2i .u8 (.t 6)),
   iv 8 (.mv (.t 1)),
   iv 9 (.bin .shr (.t 8) (.k (.int .u64 8))),
   iv 10 (.i2i .u8 (.t 9)),
   iv 11 (.slit 1 2 [.int .u8 0] [(0, .t 7), (1, .t 10)]),
   ic 12 (.app 1 false (.t 5) (.t 11)),
   iv 4 (.mv (.t 12))])
 (.ret))
def F_script_two : AFn := ⟨13, C_script_two, [.tmp 4]⟩
def C_avouchref19zin : AC := .seq (.reg [iv 4 (.mv (.k (.bool false)))])
 (.seq (.reg [iv 5 (.mv (.t 0)),
   iv 6 (.bin .geq (.t 5) (.k (.int .i64 0))),
   iv 7 (.mv (.t 6)),
   ⟨(some 8), .v (.mv (.t 0)), (some (7, true)), [], 0, 0⟩,
   ⟨(some 9), .v (.mv (.t 1)), (some (7, true)), [], 0, 0⟩,
   ⟨(some 10), .v (.bin .leq (.t 8) (.t 9)), (some (7, true)), [], 0, 0⟩,
   iv 11 (.pick (.t 7) (.t 10) (.k (.bool false))),
   iv 4 (.mv (.t 11))])
 (.ret))
def F_avouchref19zin : AFn := ⟨12, C_avouchref19zin, [.tmp 4]⟩
def Ba_avouchref12zNumber : AC := .seq (.seq (.reg [iv 8 (.mv (.t 6)),
     iv 9 (.mv (.t 1)),
     iv 10 (.bin .lss (.t 8) (.t 9))])
   (.cond (.t 10)
    (.skip)
    (.exit 0)))
   (.seq (.blk 1
    (.seq (.reg [iv 13 (.mv (.t 5)),
      iv 14 (.mv (.t 0)),
      iv 15 (.bin .rem (.t 14) (.k (.int .i64 256))),
      iv 16 (.i2i .u8 (.t 15)),
      iv 17 (.slit 1 1 [.int .u8 0] [(0, .t 16)]),
      ic 18 (.app 1 false (.t 13) (.t 17)),
      iv 5 (.mv (.t 18))])
    (.reg [iv 19 (.mv (.t 0)),
      iv 20 (.bin .quo (.t 19) (.k (.int .i64 256))),
      iv 0 (.mv (.t 20))])))
   (.reg [iv 11 (.mv (.t 6)),
     iv 12 (.bin .add (.t 11) (.k (.int .i64 1))),
     iv 6 (.mv (.t 12))]))
def C_avouchref12zNumber : AC := .seq (.reg [iv 4 (.mv (.k (.nsl)))])
 (.seq (.reg [iv 7 (.slit 1 0 [.int .u8 0] []),
   iv 5 (.mv (.t 7))])
 (.seq (.seq (.reg [iv 6 (.mv (.k (.int .i64 0)))])
 (.blk 0
  (.loop Ba_avouchref12zNumber)))
 (.seq (.reg [iv 21 (.mv (.t 5)),
   iv 4 (.mv (.t 21))])
 (.ret))))
def F_avouchref12zNumber : AFn := ⟨22, C_avouchref12zNumber, [.tmp 4]⟩
def C_avouchref19zright : AC := .seq (.reg [iv 1 (.boxv (.t 0)),
   iv 2 (.mv (.k (.bool false)))])
 (.seq (.seq (.reg [iv 3 (.fadr 0 (.t 1)),
   ir 4 (.ld 1 false (.t 3))])
 (.blk 0
  (.seq (.reg [iv 6 (.bin .eql (.t 4) (.k (.int .i64 0))),
    iv 5 (.mv (.t 6))])
  (.cond (.t 5)
   (.seq (.reg [iv 7 (.fadr 1 (.t 1)),
     ir 8 (.ld 1 false (.t 7)),
     ir 9 (.call i_avouchref19zin [.t 8, .k (.int .i64 255)]),
     iv 10 (.mv (.t 9)),
     ⟨(some 11), .v (.fadr 2 (.t 1)), (some (10, true)), [], 0, 0⟩,
     ⟨(some 12), .r (.ld 1 false (.t 11)), (some (10, true)), [], 0, 0⟩,
     ⟨(some 13), .v (.bin .eql (.t 12) (.k (.int .i64 0))), (some (10, true)), [], 0, 0⟩,
     iv 14 (.pick (.t 10) (.t 13) (.k (.bool false))),
     iv 15 (.mv (.t 14)),
     ⟨(some 16), .v (.fadr 3 (.t 1)), (some (15, true)), [], 0, 0⟩,
     ⟨(some 17), .r (.ld 1 false (.t 16)), (some (15, true)), [], 0, 0⟩,
     ⟨(some 18), .v (.lenL (.t 17)), (some (15, true)), [], 0, 0⟩,
     ⟨(some 19), .v (.bin .leq (.t 18) (.k (.int .i64 65535))), (some (15, true)), [], 0, 0⟩,
     iv 20 (.pick (.t 15) (.t 19) (.k (.bool false))),
     iv 2 (.mv (.t 20))])
   (.ret))
   (.seq (.seq (.reg [iv 22 (.bin .eql (.t 4) (.k (.int .i64 1))),
     iv 21 (.mv (.t 22))])
   (.cond (.t 21)
    (.skip)
    (.reg [iv 23 (.bin .eql (.t 4) (.k (.int .i64 2))),
      iv 21 (.mv (.t 23))])))
   (.cond (.t 21)
    (.seq (.reg [iv 24 (.fadr 1 (.t 1)),
      ir 25 (.ld 1 false (.t 24)),
      iv 26 (.bin .eql (.t 25) (.k (.int .i64 0))),
      iv 27 (.mv (.t 26)),
      ⟨(some 28), .v (.fadr 2 (.t 1)), (some (27, true)), [], 0, 0⟩,
      ⟨(some 29), .r (.ld 1 false (.t 28)), (some (27, true)), [], 0, 0⟩,
      ⟨(some 30), .r (.call i_avouchref19zin [.t 29, .k (.int .i64 65535)]), (some (27, true)), [], 0, 0⟩,
      iv 31 (.pick (.t 27) (.t 30) (.k (.bool false))),
      iv 32 (.mv (.t 31)),
      ⟨(some 33), .v (.fadr 3 (.t 1)), (some (32, true)), [], 0, 0⟩,
      ⟨(some 34), .r (.ld 1 false (.t 33)), (some (32, true)), [], 0, 0⟩,
      ⟨(some 35), .v (.lenL (.t 34)), (some (32, true)), [], 0, 0⟩,
      ⟨(some 36), .v (.bin .eql (.t 35) (.k (.int .i64 0))), (some (32, true)), [], 0, 0⟩,
      iv 37 (.pick (.t 32) (.t 36) (.k (.bool false))),
      iv 2 (.mv (.t 37))])
    (.ret))
    (.seq (.seq (.reg [iv 39 (.bin .eql (.t 4) (.k (.int .i64 3))),
      iv 38 (.mv (.t 39))])
    (.cond (.t 38)
     (.skip)
     (.reg [iv 40 (.bin .eql (.t 4) (.k (.int .i64 4))),
       iv 38 (.mv (.t 40))])))
    (.cond (.t 38)
     (.seq (.reg [iv 41 (.fadr 1 (.t 1)),
       ir 42 (.ld 1 false (.t 41)),
       iv 43 (.bin .eql (.t 42) (.k (.int .i64 0))),
       iv 44 (.mv (.t 43)),
       ⟨(some 45), .v (.fadr 2 (.t 1)), (some (44, true)), [], 0, 0⟩,
       ⟨(some 46), .r (.ld 1 false (.t 45)), (some (44, true)), [], 0, 0⟩,
       ⟨(some 47), .v (.bin .eql (.t 46) (.k (.int .i64 0))), (some (44, true)), [], 0, 0⟩,
       iv 48 (.pick (.t 44) (.t 47) (.k (.bool false))),
       iv 49 (.mv (.t 48)),
       ⟨(some 50), .v (.fadr 3 (.t 1)), (some (49, true)), [], 0, 0⟩,
       ⟨(some 51), .r (.ld 1 false (.t 50)), (some (49, true)), [], 0, 0⟩,
       ⟨(some 52), .v (.lenL (.t 51)), (some (49, true)), [], 0, 0⟩,
       ⟨(some 53), .v (.bin .eql (.t 52) (.k (.int .i64 0))), (some (49, true)), [], 0, 0⟩,
       iv 54 (.pick (.t 49) (.t 53) (.k (.bool false))),
       iv 2 (.mv (.t 54))])
     (.ret))
     (.skip)))))))))
 (.seq (.reg [iv 2 (.mv (.k (.bool false)))])
 (.ret)))
def F_avouchref19zright : AFn := ⟨55, C_avouchref19zright, [.tmp 2]⟩
def Ba_script_reader_number : AC := .seq (.reg [iv 13 (.bin .lss (.t 12) (.t 11))])
   (.seq (.cond (.t 13)
    (.skip)
    (.exit 0))
   (.seq (.blk 1
    (.seq (.reg [iv 14 (.mv (.t 12)),
      iv 15 (.iadr none 1 (.t 10) (.t 12)),
      ir 16 (.ld 1 false (.t 15)),
      iv 6 (.mv (.t 14)),
      iv 7 (.mv (.t 16))])
    (.reg [iv 17 (.mv (.t 5)),
      iv 18 (.mv (.t 7)),
      iv 19 (.i2i .i64 (.t 18)),
      iv 20 (.mv (.t 6)),
      iv 21 (.bin .mul (.k (.int .i64 8)) (.t 20)),
      iv 22 (.bin .shl (.t 19) (.t 21)),
      iv 23 (.bin .or (.t 17) (.t 22)),
      iv 5 (.mv (.t 23))])))
   (.reg [iv 24 (.bin .add (.t 12) (.k (.int .i64 1))),
     iv 12 (.mv (.t 24))])))
def C_script_reader_number : AC := .seq (.reg [iv 4 (.mv (.k (.int .i64 0)))])
 (.seq (.reg [iv 5 (.mv (.k (.int .i64 0)))])
 (.seq (.seq (.reg [iv 8 (.mv (.t 0)),
   iv 9 (.mv (.t 1)),
   ir 10 (.call i_script_reader_take [.t 8, .t 9]),
   iv 11 (.lenL (.t 10)),
   iv 12 (.mv (.k (.int .i64 0)))])
 (.blk 0
  (.loop Ba_script_reader_number)))
 (.seq (.reg [iv 25 (.mv (.t 5)),
   iv 4 (.mv (.t 25))])
 (.ret))))
def F_script_reader_number : AFn := ⟨26, C_script_reader_number, [.tmp 4]⟩
def Ba_avouchref19zSame : AC := .seq (.seq (.reg [iv 11 (.mv (.t 5)),
     iv 12 (.mv (.t 0)),
     iv 13 (.lenL (.t 12)),
     iv 14 (.bin .lss (.t 11) (.t 13))])
   (.cond (.t 14)
    (.skip)
    (.exit 0)))
   (.seq (.blk 1
    (.seq (.draw [⟨(some 17), .v (.mv (.t 0)), none, [0], 0, 0⟩,
      ⟨(some 18), .v (.mv (.t 5)), none, [5], 0, 0⟩,
      ⟨(some 19), .v (.iadr none 4 (.t 17) (.t 18)), none, [17, 18], 0, 0⟩,
      ⟨(some 20), .v (.fadr 0 (.t 19)), none, [19], 0, 0⟩,
      ⟨(some 21), .r (.ld 1 false (.t 20)), none, [20], 0, 0⟩,
      ⟨(some 22), .v (.mv (.t 1)), none, [1], 0, 0⟩,
      ⟨(some 23), .v (.mv (.t 5)), none, [5], 0, 0⟩,
      ⟨(some 24), .v (.iadr none 4 (.t 22) (.t 23)), none, [22, 23], 0, 0⟩,
      ⟨(some 25), .v (.fadr 0 (.t 24)), none, [24], 0, 0⟩,
      ⟨(some 26), .r (.ld 1 false (.t 25)), none, [25], 0, 0⟩,
      ⟨(some 27), .v (.bin .neq (.t 21) (.t 26)), none, [21, 26], 0, 0⟩,
      ⟨(some 28), .v (.mv (.t 27)), none, [27], 0, 0⟩,
      ⟨(some 29), .v (.mv (.t 0)), (some (28, false)), [0, 28], 0, 0⟩,
      ⟨(some 30), .v (.mv (.t 5)), (some (28, false)), [5, 28], 0, 0⟩,
      ⟨(some 31), .v (.iadr none 4 (.t 29) (.t 30)), (some (28, false)), [29, 30, 28], 0, 0⟩,
      ⟨(some 32), .v (.fadr 1 (.t 31)), (some (28, false)), [31, 28], 0, 0⟩,
      ⟨(some 33), .r (.ld 1 false (.t 32)), (some (28, false)), [32, 28], 0, 0⟩,
      ⟨(some 34), .v (.mv (.t 1)), (some (28, false)), [1, 28], 0, 0⟩,
      ⟨(some 35), .v (.mv (.t 5)), (some (28, false)), [5, 28], 0, 0⟩,
      ⟨(some 36), .v (.iadr none 4 (.t 34) (.t 35)), (some (28, false)), [34, 35, 28], 0, 0⟩,
      ⟨(some 37), .v (.fadr 1 (.t 36)), (some (28, false)), [36, 28], 0, 0⟩,
      ⟨(some 38), .r (.ld 1 false (.t 37)), (some (28, false)), [37, 28], 0, 0⟩,
      ⟨(some 39), .v (.bin .neq (.t 33) (.t 38)), (some (28, false)), [33, 38, 28], 0, 0⟩,
      ⟨(some 40), .v (.pick (.t 28) (.k (.bool true)) (.t 39)), none, [28, 39], 0, 0⟩,
      ⟨(some 41), .v (.mv (.t 40)), none, [40], 0, 0⟩,
      ⟨(some 42), .v (.mv (.t 0)), (some (41, false)), [0, 41], 0, 0⟩,
      ⟨(some 43), .v (.mv (.t 5)), (some (41, false)), [5, 41], 0, 0⟩,
      ⟨(some 44), .v (.iadr none 4 (.t 42) (.t 43)), (some (41, false)), [42, 43, 41], 0, 0⟩,
      ⟨(some 45), .v (.fadr 2 (.t 44)), (some (41, false)), [44, 41], 0, 0⟩,
      ⟨(some 46), .r (.ld 1 false (.t 45)), (some (41, false)), [45, 41], 0, 0⟩,
      ⟨(some 47), .v (.mv (.t 1)), (some (41, false)), [1, 41], 0, 0⟩,
      ⟨(some 48), .v (.mv (.t 5)), (some (41, false)), [5, 41], 0, 0⟩,
      ⟨(some 49), .v (.iadr none 4 (.t 47) (.t 48)), (some (41, false)), [47, 48, 41], 0, 0⟩,
      ⟨(some 50), .v (.fadr 2 (.t 49)), (some (41, false)), [49, 41], 0, 0⟩,
      ⟨(some 51), .r (.ld 1 false (.t 50)), (some (41, false)), [50, 41], 0, 0⟩,
      ⟨(some 52), .v (.bin .neq (.t 46) (.t 51)), (some (41, false)), [46, 51, 41], 0, 0⟩,
      ⟨(some 53), .v (.pick (.t 41) (.k (.bool true)) (.t 52)), none, [41, 52], 0, 0⟩,
      ⟨(some 54), .v (.mv (.t 53)), none, [53], 0, 0⟩,
      ⟨(some 55), .v (.mv (.t 0)), (some (54, false)), [0, 54], 0, 0⟩,
      ⟨(some 56), .v (.mv (.t 5)), (some (54, false)), [5, 54], 0, 0⟩,
      ⟨(some 57), .v (.iadr none 4 (.t 55) (.t 56)), (some (54, false)), [55, 56, 54], 0, 0⟩,
      ⟨(some 58), .v (.fadr 3 (.t 57)), (some (54, false)), [57, 54], 0, 0⟩,
      ⟨(some 59), .r (.ld 1 false (.t 58)), (some (54, false)), [58, 54], 0, 0⟩,
      ⟨(some 60), .r (.b2s (.t 59)), (some (54, false)), [59, 54], 0, 0⟩,
      ⟨(some 61), .v (.mv (.t 1)), (some (54, false)), [1, 54], 0, 0⟩,
      ⟨(some 62), .v (.mv (.t 5)), (some (54, false)), [5, 54], 0, 0⟩,
      ⟨(some 63), .v (.iadr none 4 (.t 61) (.t 62)), (some (54, false)), [61, 62, 54], 0, 0⟩,
      ⟨(some 64), .v (.fadr 3 (.t 63)), (some (54, false)), [63, 54], 0, 0⟩,
      ⟨(some 65), .r (.ld 1 false (.t 64)), (some (54, false)), [64, 54], 0, 0⟩,
      ⟨(some 66), .r (.b2s (.t 65)), (some (54, false)), [65, 54], 0, 0⟩,
      ⟨(some 67), .v (.bin .neq (.t 60) (.t 66)), (some (54, false)), [60, 66, 54], 0, 0⟩,
      ⟨(some 68), .v (.pick (.t 54) (.k (.bool true)) (.t 67)), none, [54, 67], 0, 0⟩])
    (.cond (.t 68)
     (.seq (.reg [iv 4 (.mv (.k (.bool false)))])
     (.ret))
     (.skip))))
   (.reg [iv 15 (.mv (.t 5)),
     iv 16 (.bin .add (.t 15) (.k (.int .i64 1))),
     iv 5 (.mv (.t 16))]))
def C_avouchref19zSame : AC := .seq (.reg [iv 4 (.mv (.k (.bool false)))])
 (.seq (.seq (.reg [iv 6 (.mv (.t 0)),
   iv 7 (.lenL (.t 6)),
   iv 8 (.mv (.t 1)),
   iv 9 (.lenL (.t 8)),
   iv 10 (.bin .neq (.t 7) (.t 9))])
 (.cond (.t 10)
  (.seq (.reg [iv 4 (.mv (.k (.bool false)))])
  (.ret))
  (.skip)))
 (.seq (.seq (.reg [iv 5 (.mv (.k (.int .i64 0)))])
 (.blk 0
  (.loop Ba_avouchref19zSame)))
 (.seq (.reg [iv 4 (.mv (.k (.bool true)))])
 (.ret))))
def F_avouchref19zSame : AFn := ⟨69, C_avouchref19zSame, [.tmp 4]⟩
def C_avouchref19zpair : AC := .seq (.reg [iv 4 (.mv (.k (.int .i64 0)))])
 (.seq (.seq (.reg [iv 5 (.mv (.t 1)),
   iv 6 (.bin .add (.t 5) (.k (.int .i64 2))),
   iv 7 (.mv (.t 0)),
   iv 8 (.lenL (.t 7)),
   iv 9 (.bin .gtr (.t 6) (.t 8))])
 (.cond (.t 9)
  (.seq (.reg [iv 4 (.mv (.k (.int .i64 (-1))))])
  (.ret))
  (.skip)))
 (.seq (.draw [⟨(some 10), .v (.mv (.t 0)), none, [0], 0, 0⟩,
   ⟨(some 11), .v (.mv (.t 1)), none, [1], 0, 0⟩,
   ⟨(some 12), .v (.iadr none 1 (.t 10) (.t 11)), none, [10, 11], 0, 0⟩,
   ⟨(some 13), .r (.ld 1 false (.t 12)), none, [12], 0, 0⟩,
   ⟨(some 14), .v (.i2i .i64 (.t 13)), none, [13], 0, 0⟩,
   ⟨(some 15), .v (.mv (.t 0)), none, [0], 0, 0⟩,
   ⟨(some 16), .v (.mv (.t 1)), none, [1], 0, 0⟩,
   ⟨(some 17), .v (.bin .add (.t 16) (.k (.int .i64 1))), none, [16], 0, 0⟩,
   ⟨(some 18), .v (.iadr none 1 (.t 15) (.t 17)), none, [15, 17], 0, 0⟩,
   ⟨(some 19), .r (.ld 1 false (.t 18)), none, [18], 0, 0⟩,
   ⟨(some 20), .v (.i2i .i64 (.t 19)), none, [19], 0, 0⟩,
   ⟨(some 21), .v (.bin .mul (.k (.int .i64 256)) (.t 20)), none, [20], 0, 0⟩,
   ⟨(some 22), .v (.bin .add (.t 14) (.t 21)), none, [14, 21], 0, 0⟩,
   ⟨(some 4), .v (.mv (.t 22)), none, [22], 0, 0⟩])
 (.ret)))
def F_avouchref19zpair : AFn := ⟨23, C_avouchref19zpair, [.tmp 4]⟩
def C_item_Encode : AC := .seq (.reg [iv 1 (.boxv (.t 0)),
   iv 2 (.mv (.k (.nsl))),
   iv 3 (.mv (.k (.int .i64 0)))])
 (.seq (.seq (.reg [ir 6 (.ld 4 true (.t 1)),
   ir 7 (.call i_item_Check [.t 6]),
   iv 4 (.mv (.t 7))])
 (.seq (.reg [iv 8 (.mv (.t 4)),
   iv 9 (.bin .neq (.t 8) (.k (.int .i64 0)))])
 (.cond (.t 9)
  (.seq (.reg [iv 10 (.mv (.t 4)),
    iv 2 (.mv (.k (.nsl))),
    iv 3 (.mv (.t 10))])
  (.ret))
  (.skip))))
 (.seq (.reg [iv 11 (.fadr 0 (.t 1)),
   ir 12 (.ld 1 false (.t 11)),
   iv 13 (.i2i .u8 (.t 12)),
   iv 14 (.fadr 1 (.t 1)),
   ir 15 (.ld 1 false (.t 14)),
   iv 16 (.i2i .u8 (.t 15)),
   iv 17 (.slit 1 2 [.int .u8 0] [(0, .t 13), (1, .t 16)]),
   iv 18 (.fadr 2 (.t 1)),
   ir 19 (.ld 1 false (.t 18)),
   ic 20 (.call i_item_number [.t 17, .t 19, .k (.int .i64 4)]),
   iv 5 (.mv (.t 20))])
 (.seq (.draw [⟨(some 21), .v (.mv (.t 5)), none, [5], 0, 0⟩,
   ⟨(some 22), .v (.fadr 3 (.t 1)), none, [1], 0, 0⟩,
   ⟨(some 23), .r (.ld 1 false (.t 22)), none, [22], 0, 0⟩,
   ⟨(some 24), .v (.lenS (.t 23)), none, [23], 0, 0⟩,
   ⟨(some 25), .c (.call i_item_number [.t 21, .t 24, .k (.int .i64 2)]), none, [21, 24], 0, 0⟩,
   ⟨(some 26), .v (.fadr 3 (.t 1)), none, [1], 0, 0⟩,
   ⟨(some 27), .r (.ld 1 false (.t 26)), none, [26], 0, 1⟩,
   ⟨(some 28), .c (.app 1 false (.t 25) (.t 27)), none, [25, 27], 0, 0⟩,
   ⟨(some 2), .v (.mv (.t 28)), none, [28], 0, 0⟩,
   iv 3 (.mv (.k (.int .i64 0)))])
 (.ret))))
def F_item_Encode : AFn := ⟨29, C_item_Encode, [.tmp 2, .tmp 3]⟩
def Ba_avouchref07zPad : AC := .seq (.seq (.reg [iv 9 (.mv (.t 3)),
     iv 10 (.lenL (.t 9)),
     iv 11 (.bin .rem (.t 10) (.k (.int .i64 136))),
     iv 12 (.bin .neq (.t 11) (.k (.int .i64 0)))])
   (.cond (.t 12)
    (.skip)
    (.exit 0)))
   (.blk 1
    (.reg [iv 13 (.mv (.t 3)),
      iv 14 (.slit 1 1 [.int .u8 0] [(0, .k (.int .u8 0))]),
      ic 15 (.app 1 true (.t 13) (.t 14)),
      iv 3 (.mv (.t 15))]))
def C_avouchref07zPad : AC := .seq (.reg [iv 2 (.mv (.k (.nsl)))])
 (.seq (.reg [iv 4 (.slit 1 0 [.int .u8 0] []),
   iv 5 (.mv (.t 0)),
   ic 6 (.app 1 true (.t 4) (.t 5)),
   iv 7 (.slit 1 1 [.int .u8 0] [(0, .k (.int .u8 6))]),
   ic 8 (.app 1 true (.t 6) (.t 7)),
   iv 3 (.mv (.t 8))])
 (.seq (.blk 0
  (.loop Ba_avouchref07zPad))
 (.seq (.reg [iv 16 (.mv (.t 3)),
   iv 17 (.mv (.t 3)),
   iv 18 (.lenL (.t 17)),
   iv 19 (.bin .sub (.t 18) (.k (.int .i64 1))),
   iv 20 (.mv (.t 3)),
   iv 21 (.mv (.t 3)),
   iv 22 (.lenL (.t 21)),
   iv 23 (.bin .sub (.t 22) (.k (.int .i64 1))),
   iv 24 (.iadr none 1 (.t 20) (.t 23)),
   ir 25 (.ld 1 false (.t 24)),
   iv 26 (.bin .add (.t 25) (.k (.int .u8 128))),
   iv 27 (.iadr none 1 (.t 16) (.t 19)),
   jc (.st 1 (.t 27) (.t 26))])
 (.seq (.reg [iv 28 (.mv (.t 3)),
   iv 2 (.mv (.t 28))])
 (.ret)))))
def F_avouchref07zPad : AFn := ⟨29, C_avouchref07zPad, [.tmp 2]⟩
def Ba_avouchref07zxor : AC := .seq (.seq (.reg [iv 14 (.mv (.t 9)),
     iv 15 (.bin .lss (.t 14) (.k (.int .i64 8)))])
   (.cond (.t 15)
    (.skip)
    (.exit 0)))
   (.seq (.blk 1
    (.seq (.seq (.reg [iv 18 (.mv (.t 7)),
      iv 19 (.bin .rem (.t 18) (.k (.int .i64 2))),
      iv 20 (.mv (.t 8)),
      iv 21 (.bin .rem (.t 20) (.k (.int .i64 2))),
      iv 22 (.bin .neq (.t 19) (.t 21))])
    (.cond (.t 22)
     (.reg [iv 23 (.mv (.t 5)),
       iv 24 (.mv (.t 6)),
       iv 25 (.bin .add (.t 23) (.t 24)),
       iv 5 (.mv (.t 25))])
     (.skip)))
    (.seq (.reg [iv 26 (.mv (.t 7)),
      iv 27 (.bin .quo (.t 26) (.k (.int .i64 2))),
      iv 7 (.mv (.t 27))])
    (.seq (.reg [iv 28 (.mv (.t 8)),
      iv 29 (.bin .quo (.t 28) (.k (.int .i64 2))),
      iv 8 (.mv (.t 29))])
    (.reg [iv 30 (.mv (.t 6)),
      iv 31 (.bin .mul (.t 30) (.k (.int .i64 2))),
      iv 6 (.mv (.t 31))])))))
   (.reg [iv 16 (.mv (.t 9)),
     iv 17 (.bin .add (.t 16) (.k (.int .i64 1))),
     iv 9 (.mv (.t 17))]))
def C_avouchref07zxor : AC := .seq (.reg [iv 4 (.mv (.k (.int .u8 0)))])
 (.seq (.reg [iv 5 (.mv (.k (.int .i64 0)))])
 (.seq (.reg [iv 6 (.mv (.k (.int .i64 1)))])
 (.seq (.reg [iv 10 (.mv (.t 0)),
   iv 11 (.i2i .i64 (.t 10)),
   iv 12 (.mv (.t 1)),
   iv 13 (.i2i .i64 (.t 12)),
   iv 7 (.mv (.t 11)),
   iv 8 (.mv (.t 13))])
 (.seq (.seq (.reg [iv 9 (.mv (.k (.int .i64 0)))])
 (.blk 0
  (.loop Ba_avouchref07zxor)))
 (.seq (.reg [iv 32 (.mv (.t 5)),
   iv 33 (.i2i .u8 (.t 32)),
   iv 4 (.mv (.t 33))])
 (.ret))))))
def F_avouchref07zxor : AFn := ⟨34, C_avouchref07zxor, [.tmp 4]⟩
def Ba_avouchref06zBytes : AC := .seq (.seq (.reg [iv 15 (.mv (.t 6)),
        iv 16 (.bin .lss (.t 15) (.k (.int .i64 8)))])
      (.cond (.t 16)
       (.skip)
       (.exit 2)))
      (.seq (.blk 3
       (.seq (.reg [iv 19 (.mv (.t 3)),
         iv 20 (.mv (.t 5)),
         iv 21 (.bin .rem (.t 20) (.k (.int .u64 256))),
         iv 22 (.i2i .u8 (.t 21)),
         iv 23 (.slit 1 1 [.int .u8 0] [(0, .t 22)]),
         ic 24 (.app 1 true (.t 19) (.t 23)),
         iv 3 (.mv (.t 24))])
       (.reg [iv 25 (.mv (.t 5)),
         iv 26 (.bin .quo (.t 25) (.k (.int .u64 256))),
         iv 5 (.mv (.t 26))])))
      (.reg [iv 17 (.mv (.t 6)),
        iv 18 (.bin .add (.t 17) (.k (.int .i64 1))),
        iv 6 (.mv (.t 18))]))
def Bb_avouchref06zBytes : AC := .seq (.seq (.reg [iv 8 (.mv (.t 4)),
     iv 9 (.bin .lss (.t 8) (.k (.int .i64 25)))])
   (.cond (.t 9)
    (.skip)
    (.exit 0)))
   (.seq (.blk 1
    (.seq (.reg [iv 12 (.mv (.t 4)),
      iv 13 (.iadr (some 25) 1 (.t 1) (.t 12)),
      ir 14 (.ld 1 false (.t 13)),
      iv 5 (.mv (.t 14))])
    (.seq (.reg [iv 6 (.mv (.k (.int .i64 0)))])
    (.blk 2
     (.loop Ba_avouchref06zBytes)))))
   (.reg [iv 10 (.mv (.t 4)),
     iv 11 (.bin .add (.t 10) (.k (.int .i64 1))),
     iv 4 (.mv (.t 11))]))
def C_avouchref06zBytes : AC := .seq (.reg [iv 1 (.boxv (.t 0)),
   iv 2 (.mv (.k (.nsl)))])
 (.seq (.reg [iv 7 (.slit 1 0 [.int .u8 0] []),
   iv 3 (.mv (.t 7))])
 (.seq (.seq (.reg [iv 4 (.mv (.k (.int .i64 0)))])
 (.blk 0
  (.loop Bb_avouchref06zBytes)))
 (.seq (.reg [iv 27 (.mv (.t 3)),
   iv 2 (.mv (.t 27))])
 (.ret))))
def F_avouchref06zBytes : AFn := ⟨28, C_avouchref06zBytes, [.tmp 2]⟩
def Ba_avouchref06zPermute : AC := .seq (.seq (.reg [iv 7 (.mv (.t 4)),
     iv 8 (.bin .lss (.t 7) (.k (.int .i64 24)))])
   (.cond (.t 8)
    (.skip)
    (.exit 0)))
   (.seq (.blk 1
    (.reg [ir 11 (.ld 1600 true (.t 3)),
      iv 12 (.mv (.t 4)),
      ir 13 (.call i_avouchref06zRound [.t 11, .t 12]),
      jc (.st 1600 (.t 3) (.t 13))]))
   (.reg [iv 9 (.mv (.t 4)),
     iv 10 (.bin .add (.t 9) (.k (.int .i64 1))),
     iv 4 (.mv (.t 10))]))
def C_avouchref06zPermute : AC := .seq (.reg [iv 1 (.boxv (.t 0)),
   ic 2 (.alloc (rep1 (.int .u64 0) 25))])
 (.seq (.reg [ir 5 (.ld 25 true (.t 1)),
   ir 6 (.call i_avouchref06zOfWords [.t 5]),
   ic 3 (.alloc (rep1 (.bool false) 1600)),
   jc (.st 1600 (.t 3) (.t 6))])
 (.seq (.seq (.reg [iv 4 (.mv (.k (.int .i64 0)))])
 (.blk 0
  (.loop Ba_avouchref06zPermute)))
 (.seq (.reg [ir 14 (.ld 1600 true (.t 3)),
   ir 15 (.call i_avouchref06zWords [.t 14]),
   jc (.st 25 (.t 2) (.t 15))])
 (.ret))))
def F_avouchref06zPermute : AFn := ⟨16, C_avouchref06zPermute, [.cell 2 25 true]⟩
def Ba_avouchref06zOfBytes : AC := .seq (.seq (.reg [iv 9 (.mv (.t 4)),
     iv 10 (.bin .geq (.t 9) (.k (.int .i64 0)))])
   (.cond (.t 10)
    (.skip)
    (.exit 0)))
   (.seq (.blk 1
    (.draw [⟨(some 13), .v (.mv (.t 4)), none, [4], 0, 0⟩,
      ⟨(some 14), .v (.bin .quo (.t 13) (.k (.int .i64 8))), none, [13], 0, 0⟩,
      ⟨(some 15), .v (.mv (.t 4)), none, [4], 0, 0⟩,
      ⟨(some 16), .v (.bin .quo (.t 15) (.k (.int .i64 8))), none, [15], 0, 0⟩,
      ⟨(some 17), .v (.iadr (some 25) 1 (.t 3) (.t 16)), none, [3, 16], 0, 0⟩,
      ⟨(some 18), .r (.ld 1 false (.t 17)), none, [17], 0, 0⟩,
      ⟨(some 19), .v (.bin .mul (.t 18) (.k (.int .u64 256))), none, [18], 0, 0⟩,
      ⟨(some 20), .v (.mv (.t 0)), none, [0], 0, 0⟩,
      ⟨(some 21), .v (.mv (.t 4)), none, [4], 0, 0⟩,
      ⟨(some 22), .v (.iadr none 1 (.t 20) (.t 21)), none, [20, 21], 0, 0⟩,
      ⟨(some 23), .r (.ld 1 false (.t 22)), none, [22], 0, 0⟩,
      ⟨(some 24), .v (.i2i .u64 (.t 23)), none, [23], 0, 0⟩,
      ⟨(some 25), .v (.bin .add (.t 19) (.t 24)), none, [19, 24], 0, 0⟩,
      ⟨(some 26), .v (.iadr (some 25) 1 (.t 3) (.t 14)), none, [3, 14], 0, 0⟩,
      ⟨none, .c (.st 1 (.t 26) (.t 25)), none, [26, 25], 0, 0⟩]))
   (.reg [iv 11 (.mv (.t 4)),
     iv 12 (.bin .sub (.t 11) (.k (.int .i64 1))),
     iv 4 (.mv (.t 12))]))
def C_avouchref06zOfBytes : AC := .seq (.reg [ic 2 (.alloc (rep1 (.int .u64 0) 25))])
 (.seq (.reg [iv 5 (.build (rep1 (.int .u64 0) 25) []),
   ic 3 (.alloc (rep1 (.int .u64 0) 25)),
   jc (.st 25 (.t 3) (.t 5))])
 (.seq (.seq (.reg [iv 6 (.mv (.t 0)),
   iv 7 (.lenL (.t 6)),
   iv 8 (.bin .sub (.t 7) (.k (.int .i64 1))),
   iv 4 (.mv (.t 8))])
 (.blk 0
  (.loop Ba_avouchref06zOfBytes)))
 (.seq (.reg [ir 27 (.ld 25 true (.t 3)),
   jc (.st 25 (.t 2) (.t 27))])
 (.ret))))
def F_avouchref06zOfBytes : AFn := ⟨28, C_avouchref06zOfBytes, [.cell 2 25 true]⟩
def C_avouchref12zCheck : AC := .seq (.reg [iv 1 (.boxv (.t 0)),
   iv 2 (.mv (.k (.int .i64 0)))])
 (.seq (.seq (.reg [iv 3 (.fadr 0 (.t 1)),
   ir 4 (.ld 1 false (.t 3)),
   iv 5 (.bin .lss (.t 4) (.k (.int .i64 1))),
   iv 6 (.mv (.t 5)),
   ⟨(some 7), .v (.fadr 0 (.t 1)), (some (6, false)), [], 0, 0⟩,
   ⟨(some 8), .r (.ld 1 false (.t 7)), (some (6, false)), [], 0, 0⟩,
   ⟨(some 9), .v (.bin .gtr (.t 8) (.k (.int .i64 3))), (some (6, false)), [], 0, 0⟩,
   iv 10 (.pick (.t 6) (.k (.bool true)) (.t 9))])
 (.cond (.t 10)
  (.seq (.reg [iv 2 (.mv (.k (.int .i64 5)))])
  (.ret))
  (.skip)))
 (.seq (.seq (.reg [iv 11 (.fadr 0 (.t 1)),
   ir 12 (.ld 1 false (.t 11)),
   iv 13 (.bin .eql (.t 12) (.k (.int .i64 1))),
   iv 14 (.mv (.t 13)),
   ⟨(some 15), .v (.fadr 1 (.t 1)), (some (14, true)), [], 0, 0⟩,
   ⟨(some 16), .r (.ld 1 false (.t 15)), (some (14, true)), [], 0, 0⟩,
   ⟨(some 17), .v (.bin .lss (.t 16) (.k (.int .i64 1))), (some (14, true)), [], 0, 0⟩,
   ⟨(some 18), .v (.mv (.t 17)), (some (14, true)), [], 0, 0⟩,
   ⟨(some 19), .v (.fadr 1 (.t 1)), (some (18, false)), [], 0, 0⟩,
   ⟨(some 20), .r (.ld 1 false (.t 19)), (some (18, false)), [], 0, 0⟩,
   ⟨(some 21), .v (.bin .gtr (.t 20) (.k (.int .i64 4))), (some (18, false)), [], 0, 0⟩,
   ⟨(some 22), .v (.pick (.t 18) (.k (.bool true)) (.t 21)), (some (14, true)), [], 0, 0⟩,
   iv 23 (.pick (.t 14) (.t 22) (.k (.bool false))),
   iv 24 (.mv (.t 23)),
   ⟨(some 25), .v (.fadr 0 (.t 1)), (some (24, false)), [], 0, 0⟩,
   ⟨(some 26), .r (.ld 1 false (.t 25)), (some (24, false)), [], 0, 0⟩,
   ⟨(some 27), .v (.bin .eql (.t 26) (.k (.int .i64 2))), (some (24, false)), [], 0, 0⟩,
   ⟨(some 28), .v (.mv (.t 27)), (some (24, false)), [], 0, 0⟩,
   ⟨(some 29), .v (.fadr 1 (.t 1)), (some (28, true)), [], 0, 0⟩,
   ⟨(some 30), .r (.ld 1 false (.t 29)), (some (28, true)), [], 0, 0⟩,
   ⟨(some 31), .v (.bin .neq (.t 30) (.k (.int .i64 1))), (some (28, true)), [], 0, 0⟩,
   ⟨(some 32), .v (.pick (.t 28) (.t 31) (.k (.bool false))), (some (24, false)), [], 0, 0⟩,
   ⟨(some 33), .v (.mv (.t 32)), (some (24, false)), [], 0, 0⟩,
   ⟨(some 34), .v (.fadr 1 (.t 1)), (some (33, true)), [], 0, 0⟩,
   ⟨(some 35), .r (.ld 1 false (.t 34)), (some (33, true)), [], 0, 0⟩,
   ⟨(some 36), .v (.bin .neq (.t 35) (.k (.int .i64 3))), (some (33, true)), [], 0, 0⟩,
   ⟨(some 37), .v (.pick (.t 33) (.t 36) (.k (.bool false))), (some (24, false)), [], 0, 0⟩,
   iv 38 (.pick (.t 24) (.k (.bool true)) (.t 37)),
   iv 39 (.mv (.t 38)),
   ⟨(some 40), .v (.fadr 0 (.t 1)), (some (39, false)), [], 0, 0⟩,
   ⟨(some 41), .r (.ld 1 false (.t 40)), (some (39, false)), [], 0, 0⟩,
   ⟨(some 42), .v (.bin .eql (.t 41) (.k (.int .i64 3))), (some (39, false)), [], 0, 0⟩,
   ⟨(some 43), .v (.mv (.t 42)), (some (39, false)), [], 0, 0⟩,
   ⟨(some 44), .v (.fadr 1 (.t 1)), (some (43, true)), [], 0, 0⟩,
   ⟨(some 45), .r (.ld 1 false (.t 44)), (some (43, true)), [], 0, 0⟩,
   ⟨(some 46), .v (.bin .neq (.t 45) (.k (.int .i64 0))), (some (43, true)), [], 0, 0⟩,
   ⟨(some 47), .v (.pick (.t 43) (.t 46) (.k (.bool false))), (some (39, false)), [], 0, 0⟩,
   iv 48 (.pick (.t 39) (.k (.bool true)) (.t 47))])
 (.cond (.t 48)
  (.seq (.reg [iv 2 (.mv (.k (.int .i64 6)))])
  (.ret))
  (.skip)))
 (.seq (.seq (.reg [iv 49 (.fadr 2 (.t 1)),
   ir 50 (.ld 1 false (.t 49)),
   iv 51 (.bin .lss (.t 50) (.k (.int .i64 1))),
   iv 52 (.mv (.t 51)),
   ⟨(some 53), .v (.fadr 2 (.t 1)), (some (52, false)), [], 0, 0⟩,
   ⟨(some 54), .r (.ld 1 false (.t 53)), (some (52, false)), [], 0, 0⟩,
   ⟨(some 55), .v (.bin .gtr (.t 54) (.k (.int .i64 1048576))), (some (52, false)), [], 0, 0⟩,
   iv 56 (.pick (.t 52) (.k (.bool true)) (.t 55)),
   iv 57 (.mv (.t 56)),
   ⟨(some 58), .v (.fadr 0 (.t 1)), (some (57, false)), [], 0, 0⟩,
   ⟨(some 59), .r (.ld 1 false (.t 58)), (some (57, false)), [], 0, 0⟩,
   ⟨(some 60), .v (.bin .eql (.t 59) (.k (.int .i64 3))), (some (57, false)), [], 0, 0⟩,
   ⟨(some 61), .v (.mv (.t 60)), (some (57, false)), [], 0, 0⟩,
   ⟨(some 62), .v (.fadr 2 (.t 1)), (some (61, true)), [], 0, 0⟩,
   ⟨(some 63), .r (.ld 1 false (.t 62)), (some (61, true)), [], 0, 0⟩,
   ⟨(some 64), .v (.bin .neq (.t 63) (.k (.int .i64 1))), (some (61, true)), [], 0, 0⟩,
   ⟨(some 65), .v (.pick (.t 61) (.t 64) (.k (.bool false))), (some (57, false)), [], 0, 0⟩,
   iv 66 (.pick (.t 57) (.k (.bool true)) (.t 65))])
 (.cond (.t 66)
  (.seq (.reg [iv 2 (.mv (.k (.int .i64 7)))])
  (.ret))
  (.skip)))
 (.seq (.seq (.reg [iv 67 (.fadr 3 (.t 1)),
   ir 68 (.ld 1 false (.t 67)),
   iv 69 (.lenS (.t 68)),
   iv 70 (.bin .gtr (.t 69) (.k (.int .i64 255)))])
 (.cond (.t 70)
  (.seq (.reg [iv 2 (.mv (.k (.int .i64 8)))])
  (.ret))
  (.skip)))
 (.seq (.reg [iv 2 (.mv (.k (.int .i64 0)))])
 (.ret))))))
def F_avouchref12zCheck : AFn := ⟨71, C_avouchref12zCheck, [.tmp 2]⟩
def C_digest_Hash_put : AC := .draw [⟨(some 6), .v (.mv (.t 0)), none, [0], 0, 0⟩,
   ⟨(some 7), .v (.mv (.t 1)), none, [1], 0, 0⟩,
   ⟨(some 8), .v (.bin .quo (.t 7) (.k (.int .i64 8))), none, [7], 0, 0⟩,
   ⟨(some 9), .v (.nck (.t 6)), none, [6], 0, 0⟩,
   ⟨(some 10), .v (.fadr 0 (.t 9)), none, [9], 0, 0⟩,
   ⟨(some 11), .v (.iadr (some 25) 1 (.t 10) (.t 8)), none, [10, 8], 0, 0⟩,
   ⟨(some 12), .r (.ld 1 false (.t 11)), none, [11], 0, 0⟩,
   ⟨(some 13), .v (.mv (.t 2)), none, [2], 0, 0⟩,
   ⟨(some 14), .v (.i2i .u64 (.t 13)), none, [13], 0, 0⟩,
   ⟨(some 15), .v (.mv (.t 1)), none, [1], 0, 0⟩,
   ⟨(some 16), .v (.bin .rem (.t 15) (.k (.int .i64 8))), none, [15], 0, 0⟩,
   ⟨(some 17), .v (.bin .mul (.k (.int .i64 8)) (.t 16)), none, [16], 0, 0⟩,
   ⟨(some 18), .v (.bin .shl (.t 14) (.t 17)), none, [14, 17], 0, 0⟩,
   ⟨(some 19), .v (.bin .xor (.t 12) (.t 18)), none, [12, 18], 0, 0⟩,
   ⟨(some 20), .v (.nck (.t 6)), none, [6], 0, 0⟩,
   ⟨(some 21), .v (.fadr 0 (.t 20)), none, [20], 0, 0⟩,
   ⟨(some 22), .v (.iadr (some 25) 1 (.t 21) (.t 8)), none, [21, 8], 0, 0⟩,
   ⟨none, .c (.st 1 (.t 22) (.t 19)), none, [22, 19], 0, 0⟩]
def F_digest_Hash_put : AFn := ⟨23, C_digest_Hash_put, []⟩
def Ba_keccak_State_Permute : AC := .seq (.reg [iv 5 (.bin .lss (.t 4) (.k (.int .i64 24)))])
   (.seq (.cond (.t 5)
    (.skip)
    (.exit 0))
   (.seq (.blk 1
    (.seq (.reg [iv 6 (.mv (.t 4)),
      iv 3 (.mv (.t 6))])
    (.reg [ir 7 (.ld 25 true (.t 1)),
      iv 8 (.mv (.t 3)),
      ir 9 (.call i_keccak_State_Round [.t 7, .t 8]),
      jc (.st 25 (.t 1) (.t 9))])))
   (.reg [iv 10 (.bin .add (.t 4) (.k (.int .i64 1))),
     iv 4 (.mv (.t 10))])))
def C_keccak_State_Permute : AC := .seq (.reg [ic 1 (.box (.t 0)),
   ic 2 (.alloc (rep1 (.int .u64 0) 25))])
 (.seq (.seq (.reg [iv 4 (.mv (.k (.int .i64 0)))])
 (.blk 0
  (.loop Ba_keccak_State_Permute)))
 (.seq (.reg [ir 11 (.ld 25 true (.t 1)),
   jc (.st 25 (.t 2) (.t 11))])
 (.ret)))
def F_keccak_State_Permute : AFn := ⟨12, C_keccak_State_Permute, [.cell 2 25 true]⟩
def C_keccak_State_Bytes : AC := .seq (.reg [ic 1 (.box (.t 0)),
   ic 2 (.alloc (rep1 (.int .u8 0) 200))])
 (.seq (.reg [iv 3 (.slice (.arr 25) 1 (.t 1) none none none),
   ir 4 (.call i_limb_Bytes [.t 3]),
   iv 5 (.s2a 200 (.t 4)),
   ir 6 (.ld 200 true (.t 5)),
   jc (.st 200 (.t 2) (.t 6))])
 (.ret))
def F_keccak_State_Bytes : AFn := ⟨7, C_keccak_State_Bytes, [.cell 2 200 true]⟩
def C_i_strconv_Itoa : AC := .seq (.reg [iv 2 (.mv (.k (.str ⟨#[]⟩)))])
 (.seq (.reg [iv 3 (.mv (.t 0)),
   ir 4 (.call i_i_strconv_FormatInt [.t 3, .k (.int .i64 10)]),
   iv 2 (.mv (.t 4))])
 (.ret))
def F_i_strconv_Itoa : AFn := ⟨5, C_i_strconv_Itoa, [.tmp 2]⟩
def Ba_slices_IndexFuncscript_Call_script_Call : AC := .seq (.reg [iv 9 (.bin .lss (.t 8) (.t 7))])
   (.seq (.cond (.t 9)
    (.skip)
    (.exit 0))
   (.seq (.blk 1
    (.seq (.reg [iv 10 (.mv (.t 8)),
      iv 5 (.mv (.t 10))])
    (.seq (.reg [iv 11 (.mv (.t 1)),
      iv 12 (.mv (.t 0)),
      iv 13 (.mv (.t 5)),
      iv 14 (.iadr none 4 (.t 12) (.t 13)),
      ir 15 (.ld 4 true (.t 14)),
      ic 16 (.callv (.t 11) [.t 15])])
    (.cond (.t 16)
     (.seq (.reg [iv 17 (.mv (.t 5)),
       iv 4 (.mv (.t 17))])
     (.ret))
     (.skip)))))
   (.reg [iv 18 (.bin .add (.t 8) (.k (.int .i64 1))),
     iv 8 (.mv (.t 18))])))
def C_slices_IndexFuncscript_Call_script_Call : AC := .seq (.reg [iv 4 (.mv (.k (.int .i64 0)))])
 (.seq (.seq (.reg [iv 6 (.mv (.t 0)),
   iv 7 (.lenL (.t 6)),
   iv 8 (.mv (.k (.int .i64 0)))])
 (.blk 0
  (.loop Ba_slices_IndexFuncscript_Call_script_Call)))
 (.seq (.reg [iv 4 (.mv (.k (.int .i64 (-1))))])
 (.ret)))
def F_slices_IndexFuncscript_Call_script_Call : AFn := ⟨19, C_slices_IndexFuncscript_Call_script_Call, [.tmp 4]⟩
def C_slices_Clonescript_reader_byte : AC := .seq (.reg [iv 2 (.mv (.k (.nsl)))])
 (.seq (.seq (.reg [iv 3 (.mv (.t 0)),
   iv 4 (.eq .slc false (.t 3) (.k (.nsl)))])
 (.cond (.t 4)
  (.seq (.reg [iv 2 (.mv (.k (.nsl)))])
  (.ret))
  (.skip)))
 (.seq (.reg [iv 5 (.slit 1 0 [.int .u8 0] []),
   iv 6 (.mv (.t 0)),
   ic 7 (.app 1 false (.t 5) (.t 6)),
   iv 2 (.mv (.t 7))])
 (.ret)))
def F_slices_Clonescript_reader_byte : AFn := ⟨8, C_slices_Clonescript_reader_byte, [.tmp 2]⟩
def C_item_Check : AC := .seq (.reg [iv 1 (.boxv (.t 0)),
   iv 2 (.mv (.k (.int .i64 0)))])
 (.seq (.reg [iv 6 (.fadr 0 (.t 1)),
   ir 7 (.ld 1 false (.t 6)),
   ir 8 (.call i_item_types [.t 7]),
   iv 5 (.mv (.t 8)),
   iv 9 (.ext (.t 5) 0),
   iv 10 (.ext (.t 5) 1),
   iv 3 (.mv (.t 9)),
   iv 4 (.mv (.t 10))])
 (.seq (.blk 0
  (.seq (.reg [iv 12 (.mv (.t 3)),
    iv 13 (.lenL (.t 12)),
    iv 14 (.bin .eql (.t 13) (.k (.int .i64 0))),
    iv 11 (.mv (.t 14))])
  (.cond (.t 11)
   (.seq (.reg [iv 2 (.mv (.k (.int .i64 5)))])
   (.ret))
   (.seq (.reg [iv 16 (.mv (.t 3)),
     iv 17 (.fadr 1 (.t 1)),
     ir 18 (.ld 1 false (.t 17)),
     ir 19 (.call i_slices_Containsint_int [.t 16, .t 18]),
     iv 20 (.un .not (.t 19)),
     iv 15 (.mv (.t 20))])
   (.cond (.t 15)
    (.seq (.reg [iv 2 (.mv (.k (.int .i64 6)))])
    (.ret))
    (.seq (.reg [iv 22 (.fadr 2 (.t 1)),
      ir 23 (.ld 1 false (.t 22)),
      iv 24 (.bin .lss (.t 23) (.k (.int .i64 1))),
      iv 25 (.mv (.t 24)),
      ⟨(some 26), .v (.fadr 2 (.t 1)), (some (25, false)), [], 0, 0⟩,
      ⟨(some 27), .r (.ld 1 false (.t 26)), (some (25, false)), [], 0, 0⟩,
      ⟨(some 28), .v (.mv (.t 4)), (some (25, false)), [], 0, 0⟩,
      ⟨(some 29), .v (.bin .gtr (.t 27) (.t 28)), (some (25, false)), [], 0, 0⟩,
      iv 30 (.pick (.t 25) (.k (.bool true)) (.t 29)),
      iv 21 (.mv (.t 30))])
    (.cond (.t 21)
     (.seq (.reg [iv 2 (.mv (.k (.int .i64 7)))])
     (.ret))
     (.seq (.reg [iv 32 (.fadr 3 (.t 1)),
       ir 33 (.ld 1 false (.t 32)),
       iv 34 (.lenS (.t 33)),
       iv 35 (.bin .gtr (.t 34) (.k (.int .i64 255))),
       iv 31 (.mv (.t 35))])
     (.cond (.t 31)
      (.seq (.reg [iv 2 (.mv (.k (.int .i64 8)))])
      (.ret))
      (.skip))))))))))
 (.seq (.reg [iv 2 (.mv (.k (.int .i64 0)))])
 (.ret))))
def F_item_Check : AFn := ⟨36, C_item_Check, [.tmp 2]⟩
def Ba_item_number : AC := .seq (.reg [iv 10 (.bin .lss (.t 9) (.t 8))])
   (.seq (.cond (.t 10)
    (.skip)
    (.exit 0))
   (.seq (.blk 1
    (.seq (.reg [iv 11 (.mv (.t 9)),
      iv 7 (.mv (.t 11))])
    (.reg [iv 12 (.mv (.t 0)),
      iv 13 (.mv (.t 1)),
      iv 14 (.mv (.t 7)),
      iv 15 (.bin .mul (.k (.int .i64 8)) (.t 14)),
      iv 16 (.bin .shr (.t 13) (.t 15)),
      iv 17 (.i2i .u8 (.t 16)),
      iv 18 (.slit 1 1 [.int .u8 0] [(0, .t 17)]),
      ic 19 (.app 1 false (.t 12) (.t 18)),
      iv 0 (.mv (.t 19))])))
   (.reg [iv 20 (.bin .add (.t 9) (.k (.int .i64 1))),
     iv 9 (.mv (.t 20))])))
def C_item_number : AC := .seq (.reg [iv 6 (.mv (.k (.nsl)))])
 (.seq (.seq (.reg [iv 8 (.mv (.t 2)),
   iv 9 (.mv (.k (.int .i64 0)))])
 (.blk 0
  (.loop Ba_item_number)))
 (.seq (.reg [iv 21 (.mv (.t 0)),
   iv 6 (.mv (.t 21))])
 (.ret)))
def F_item_number : AFn := ⟨22, C_item_number, [.tmp 6]⟩
def Ba_avouchref06zOfWords : AC := .seq (.seq (.reg [iv 15 (.mv (.t 6)),
        iv 16 (.bin .lss (.t 15) (.k (.int .i64 64)))])
      (.cond (.t 16)
       (.skip)
       (.exit 2)))
      (.seq (.blk 3
       (.seq (.reg [iv 19 (.mv (.t 4)),
         iv 20 (.bin .rem (.t 19) (.k (.int .i64 5))),
         iv 21 (.mv (.t 4)),
         iv 22 (.bin .quo (.t 21) (.k (.int .i64 5))),
         iv 23 (.mv (.t 6)),
         iv 24 (.mv (.t 5)),
         iv 25 (.bin .rem (.t 24) (.k (.int .u64 2))),
         iv 26 (.bin .eql (.t 25) (.k (.int .u64 1))),
         iv 27 (.iadr (some 5) 320 (.t 3) (.t 20)),
         iv 28 (.iadr (some 5) 64 (.t 27) (.t 22)),
         iv 29 (.iadr (some 64) 1 (.t 28) (.t 23)),
         jc (.st 1 (.t 29) (.t 26))])
       (.reg [iv 30 (.mv (.t 5)),
         iv 31 (.bin .quo (.t 30) (.k (.int .u64 2))),
         iv 5 (.mv (.t 31))])))
      (.reg [iv 17 (.mv (.t 6)),
        iv 18 (.bin .add (.t 17) (.k (.int .i64 1))),
        iv 6 (.mv (.t 18))]))
def Bb_avouchref06zOfWords : AC := .seq (.seq (.reg [iv 8 (.mv (.t 4)),
     iv 9 (.bin .lss (.t 8) (.k (.int .i64 25)))])
   (.cond (.t 9)
    (.skip)
    (.exit 0)))
   (.seq (.blk 1
    (.seq (.reg [iv 12 (.mv (.t 4)),
      iv 13 (.iadr (some 25) 1 (.t 1) (.t 12)),
      ir 14 (.ld 1 false (.t 13)),
      iv 5 (.mv (.t 14))])
    (.seq (.reg [iv 6 (.mv (.k (.int .i64 0)))])
    (.blk 2
     (.loop Ba_avouchref06zOfWords)))))
   (.reg [iv 10 (.mv (.t 4)),
     iv 11 (.bin .add (.t 10) (.k (.int .i64 1))),
     iv 4 (.mv (.t 11))]))
def C_avouchref06zOfWords : AC := .seq (.reg [iv 1 (.boxv (.t 0)),
   ic 2 (.alloc (rep1 (.bool false) 1600))])
 (.seq (.reg [iv 7 (.build (rep1 (.bool false) 1600) []),
   ic 3 (.alloc (rep1 (.bool false) 1600)),
   jc (.st 1600 (.t 3) (.t 7))])
 (.seq (.seq (.reg [iv 4 (.mv (.k (.int .i64 0)))])
 (.blk 0
  (.loop Bb_avouchref06zOfWords)))
 (.seq (.reg [ir 32 (.ld 1600 true (.t 3)),
   jc (.st 1600 (.t 2) (.t 32))])
 (.ret))))
def F_avouchref06zOfWords : AFn := ⟨33, C_avouchref06zOfWords, [.cell 2 1600 true]⟩
def Ba_avouchref06zRound : AC := .seq (.seq (.reg [iv 14 (.mv (.t 6)),
     iv 15 (.bin .lss (.t 14) (.k (.int .i64 64)))])
   (.cond (.t 15)
    (.skip)
    (.exit 0)))
   (.seq (.blk 1
    (.draw [⟨(some 18), .v (.mv (.t 6)), none, [6], 0, 0⟩,
      ⟨(some 19), .v (.mv (.t 6)), none, [6], 0, 0⟩,
      ⟨(some 20), .v (.iadr (some 5) 320 (.t 2) (.k (.int .i64 0))), none, [2], 0, 0⟩,
      ⟨(some 21), .v (.iadr (some 5) 64 (.t 20) (.k (.int .i64 0))), none, [20], 0, 0⟩,
      ⟨(some 22), .v (.iadr (some 64) 1 (.t 21) (.t 19)), none, [21, 19], 0, 0⟩,
      ⟨(some 23), .r (.ld 1 false (.t 22)), none, [22], 0, 0⟩,
      ⟨(some 24), .v (.mv (.t 6)), none, [6], 0, 0⟩,
      ⟨(some 25), .v (.iadr (some 64) 1 (.t 5) (.t 24)), none, [5, 24], 0, 0⟩,
      ⟨(some 26), .r (.ld 1 false (.t 25)), none, [25], 0, 0⟩,
      ⟨(some 27), .v (.eq .bool true (.t 23) (.t 26)), none, [23, 26], 0, 0⟩,
      ⟨(some 28), .v (.iadr (some 5) 320 (.t 2) (.k (.int .i64 0))), none, [2], 0, 0⟩,
      ⟨(some 29), .v (.iadr (some 5) 64 (.t 28) (.k (.int .i64 0))), none, [28], 0, 0⟩,
      ⟨(some 30), .v (.iadr (some 64) 1 (.t 29) (.t 18)), none, [29, 18], 0, 0⟩,
      ⟨none, .c (.st 1 (.t 30) (.t 27)), none, [30, 27], 0, 0⟩]))
   (.reg [iv 16 (.mv (.t 6)),
     iv 17 (.bin .add (.t 16) (.k (.int .i64 1))),
     iv 6 (.mv (.t 17))]))
def C_avouchref06zRound : AC := .seq (.reg [ic 2 (.box (.t 0)),
   ic 4 (.alloc (rep1 (.bool false) 1600))])
 (.seq (.reg [ir 7 (.ld 1600 true (.t 2)),
   ir 8 (.call i_avouchref06ztheta [.t 7]),
   ir 9 (.call i_avouchref06zrho [.t 8]),
   ir 10 (.call i_avouchref06zpi [.t 9]),
   ir 11 (.call i_avouchref06zchi [.t 10]),
   jc (.st 1600 (.t 2) (.t 11))])
 (.seq (.reg [iv 12 (.mv (.t 1)),
   ir 13 (.call i_avouchref06zConstant [.t 12]),
   ic 5 (.alloc (rep1 (.bool false) 64)),
   jc (.st 64 (.t 5) (.t 13))])
 (.seq (.seq (.reg [iv 6 (.mv (.k (.int .i64 0)))])
 (.blk 0
  (.loop Ba_avouchref06zRound)))
 (.seq (.reg [ir 31 (.ld 1600 true (.t 2)),
   jc (.st 1600 (.t 4) (.t 31))])
 (.ret)))))
def F_avouchref06zRound : AFn := ⟨32, C_avouchref06zRound, [.cell 4 1600 true]⟩
def Ba_avouchref06zWords : AC := .seq (.seq (.reg [iv 12 (.mv (.t 6)),
        iv 13 (.bin .geq (.t 12) (.k (.int .i64 0)))])
      (.cond (.t 13)
       (.skip)
       (.exit 2)))
      (.seq (.blk 3
       (.seq (.reg [iv 16 (.mv (.t 5)),
         iv 17 (.bin .mul (.t 16) (.k (.int .u64 2))),
         iv 5 (.mv (.t 17))])
       (.seq (.reg [iv 18 (.mv (.t 4)),
         iv 19 (.bin .rem (.t 18) (.k (.int .i64 5))),
         iv 20 (.mv (.t 4)),
         iv 21 (.bin .quo (.t 20) (.k (.int .i64 5))),
         iv 22 (.mv (.t 6)),
         iv 23 (.iadr (some 5) 320 (.t 1) (.t 19)),
         iv 24 (.iadr (some 5) 64 (.t 23) (.t 21)),
         iv 25 (.iadr (some 64) 1 (.t 24) (.t 22)),
         ir 26 (.ld 1 false (.t 25))])
       (.cond (.t 26)
        (.reg [iv 27 (.mv (.t 5)),
          iv 28 (.bin .add (.t 27) (.k (.int .u64 1))),
          iv 5 (.mv (.t 28))])
        (.skip)))))
      (.reg [iv 14 (.mv (.t 6)),
        iv 15 (.bin .sub (.t 14) (.k (.int .i64 1))),
        iv 6 (.mv (.t 15))]))
def Bb_avouchref06zWords : AC := .seq (.seq (.reg [iv 8 (.mv (.t 4)),
     iv 9 (.bin .lss (.t 8) (.k (.int .i64 25)))])
   (.cond (.t 9)
    (.skip)
    (.exit 0)))
   (.seq (.blk 1
    (.seq (.reg [iv 5 (.mv (.k (.int .u64 0)))])
    (.seq (.seq (.reg [iv 6 (.mv (.k (.int .i64 63)))])
    (.blk 2
     (.loop Ba_avouchref06zWords)))
    (.reg [iv 29 (.mv (.t 4)),
      iv 30 (.mv (.t 5)),
      iv 31 (.iadr (some 25) 1 (.t 3) (.t 29)),
      jc (.st 1 (.t 31) (.t 30))]))))
   (.reg [iv 10 (.mv (.t 4)),
     iv 11 (.bin .add (.t 10) (.k (.int .i64 1))),
     iv 4 (.mv (.t 11))]))
def C_avouchref06zWords : AC := .seq (.reg [iv 1 (.boxv (.t 0)),
   ic 2 (.alloc (rep1 (.int .u64 0) 25))])
 (.seq (.reg [iv 7 (.build (rep1 (.int .u64 0) 25) []),
   ic 3 (.alloc (rep1 (.int .u64 0) 25)),
   jc (.st 25 (.t 3) (.t 7))])
 (.seq (.seq (.reg [iv 4 (.mv (.k (.int .i64 0)))])
 (.blk 0
  (.loop Bb_avouchref06zWords)))
 (.seq (.reg [ir 32 (.ld 25 true (.t 3)),
   jc (.st 25 (.t 2) (.t 32))])
 (.ret))))
def F_avouchref06zWords : AFn := ⟨33, C_avouchref06zWords, [.cell 2 25 true]⟩
def C_keccak_State_Round : AC := .seq (.reg [ic 2 (.box (.t 0)),
   ic 4 (.alloc (rep1 (.int .u64 0) 25))])
 (.seq (.reg [ir 5 (.ld 25 true (.t 2)),
   ir 6 (.call i_keccak_State_theta [.t 5]),
   ir 7 (.call i_keccak_State_rhoPi [.t 6]),
   ir 8 (.call i_keccak_State_chi [.t 7]),
   jc (.st 25 (.t 2) (.t 8))])
 (.seq (.draw [⟨(some 9), .v (.iadr (some 25) 1 (.t 2) (.k (.int .i64 0))), none, [2], 0, 0⟩,
   ⟨(some 10), .r (.ld 1 false (.t 9)), none, [9], 0, 0⟩,
   ⟨(some 11), .v (.mv (.t 1)), none, [1], 0, 0⟩,
   ⟨(some 12), .r (.call i_keccak_Constant [.t 11]), none, [11], 0, 0⟩,
   ⟨(some 13), .v (.bin .xor (.t 10) (.t 12)), none, [10, 12], 0, 0⟩,
   ⟨(some 14), .v (.iadr (some 25) 1 (.t 2) (.k (.int .i64 0))), none, [2], 0, 0⟩,
   ⟨none, .c (.st 1 (.t 14) (.t 13)), none, [14, 13], 0, 0⟩])
 (.seq (.reg [ir 15 (.ld 25 true (.t 2)),
   jc (.st 25 (.t 4) (.t 15))])
 (.ret))))
def F_keccak_State_Round : AFn := ⟨16, C_keccak_State_Round, [.cell 4 25 true]⟩
def Ba_limb_Bytes : AC := .seq (.reg [iv 13 (.bin .lss (.t 12) (.k (.int .i64 8)))])
      (.seq (.cond (.t 13)
       (.skip)
       (.exit 2))
      (.seq (.blk 3
       (.seq (.reg [iv 14 (.mv (.t 3)),
         iv 15 (.mv (.t 5)),
         iv 16 (.i2i .u8 (.t 15)),
         iv 17 (.slit 1 1 [.int .u8 0] [(0, .t 16)]),
         ic 18 (.app 1 false (.t 14) (.t 17)),
         iv 3 (.mv (.t 18))])
       (.reg [iv 19 (.mv (.t 5)),
         iv 20 (.bin .shr (.t 19) (.k (.int .u64 8))),
         iv 5 (.mv (.t 20))])))
      (.reg [iv 21 (.bin .add (.t 12) (.k (.int .i64 1))),
        iv 12 (.mv (.t 21))])))
def Bb_limb_Bytes : AC := .seq (.reg [iv 9 (.bin .lss (.t 8) (.t 7))])
   (.seq (.cond (.t 9)
    (.skip)
    (.exit 0))
   (.seq (.blk 1
    (.seq (.reg [iv 10 (.iadr none 1 (.t 6) (.t 8)),
      ir 11 (.ld 1 false (.t 10)),
      iv 5 (.mv (.t 11))])
    (.seq (.reg [iv 12 (.mv (.k (.int .i64 0)))])
    (.blk 2
     (.loop Ba_limb_Bytes)))))
   (.reg [iv 22 (.bin .add (.t 8) (.k (.int .i64 1))),
     iv 8 (.mv (.t 22))])))
def C_limb_Bytes : AC := .seq (.reg [iv 2 (.mv (.k (.nsl)))])
 (.seq (.reg [iv 3 (.mv (.k (.nsl)))])
 (.seq (.seq (.reg [iv 6 (.mv (.t 0)),
   iv 7 (.lenL (.t 6)),
   iv 8 (.mv (.k (.int .i64 0)))])
 (.blk 0
  (.loop Bb_limb_Bytes)))
 (.seq (.reg [iv 23 (.mv (.t 3)),
   iv 2 (.mv (.t 23))])
 (.ret))))
def F_limb_Bytes : AFn := ⟨24, C_limb_Bytes, [.tmp 2]⟩
def C_i_strconv_FormatInt : AC := .seq (.reg [iv 4 (.mv (.k (.str ⟨#[]⟩)))])
 (.seq (.seq (.reg [iv 10 (.mv (.t 1)),
   iv 11 (.bin .eql (.t 10) (.k (.int .i64 10)))])
 (.cond (.t 11)
  (.seq (.seq (.reg [iv 12 (.mv (.t 0)),
    iv 13 (.bin .leq (.k (.int .i64 0)) (.t 12)),
    iv 14 (.mv (.t 13)),
    ⟨(some 15), .v (.mv (.t 0)), (some (14, true)), [], 0, 0⟩,
    ⟨(some 16), .v (.bin .lss (.t 15) (.k (.int .i64 100))), (some (14, true)), [], 0, 0⟩,
    iv 17 (.pick (.t 14) (.t 16) (.k (.bool false)))])
  (.cond (.t 17)
   (.seq (.reg [iv 18 (.mv (.t 0)),
     ir 19 (.call i_i_strconv_small [.t 18]),
     iv 4 (.mv (.t 19))])
   (.ret))
   (.skip)))
  (.seq (.reg [ic 5 (.alloc (rep1 (.int .u8 0) 24))])
  (.seq (.reg [iv 20 (.mv (.t 0)),
    iv 21 (.i2i .u64 (.t 20)),
    iv 6 (.mv (.t 21))])
  (.seq (.seq (.reg [iv 22 (.mv (.t 0)),
    iv 23 (.bin .lss (.t 22) (.k (.int .i64 0)))])
  (.cond (.t 23)
   (.reg [iv 24 (.mv (.t 6)),
     iv 25 (.un .neg (.t 24)),
     iv 6 (.mv (.t 25))])
   (.skip)))
  (.seq (.reg [iv 26 (.mv (.t 6)),
    ir 27 (.call i_i_strconv_numDigits [.t 26]),
    iv 7 (.mv (.t 27))])
  (.seq (.reg [iv 28 (.mv (.t 7)),
    iv 29 (.bin .add (.k (.int .i64 1)) (.t 28)),
    iv 30 (.slice (.arr 24) 1 (.t 5) (some (.k (.int .i64 1))) (some (.t 29)) none),
    iv 31 (.mv (.t 6)),
    ir 32 (.call i_i_strconv_formatBase10 [.t 30, .t 31])])
  (.seq (.seq (.reg [iv 33 (.mv (.t 0)),
    iv 34 (.bin .lss (.t 33) (.k (.int .i64 0)))])
  (.cond (.t 34)
   (.seq (.reg [iv 35 (.iadr (some 24) 1 (.t 5) (.k (.int .i64 0))),
     jc (.st 1 (.t 35) (.k (.int .u8 45)))])
   (.seq (.reg [iv 36 (.mv (.t 7)),
     iv 37 (.bin .add (.k (.int .i64 1)) (.t 36)),
     iv 38 (.slice (.arr 24) 1 (.t 5) none (some (.t 37)) none),
     ir 39 (.b2s (.t 38)),
     iv 4 (.mv (.t 39))])
   (.ret)))
   (.skip)))
  (.seq (.reg [iv 40 (.mv (.t 7)),
    iv 41 (.bin .add (.k (.int .i64 1)) (.t 40)),
    iv 42 (.slice (.arr 24) 1 (.t 5) (some (.k (.int .i64 1))) (some (.t 41)) none),
    ir 43 (.b2s (.t 42)),
    iv 4 (.mv (.t 43))])
  (.ret)))))))))
  (.skip)))
 (.seq (.reg [iv 45 (.mv (.t 0)),
   iv 46 (.i2i .u64 (.t 45)),
   iv 47 (.mv (.t 1)),
   iv 48 (.mv (.t 0)),
   iv 49 (.bin .lss (.t 48) (.k (.int .i64 0))),
   ir 50 (.call i_i_strconv_formatBits [.k (.nsl), .t 46, .t 47, .t 49, .k (.bool false)]),
   iv 44 (.mv (.t 50)),
   iv 51 (.ext (.t 44) 0),
   iv 52 (.ext (.t 44) 1),
   iv 8 (.mv (.t 51)),
   iv 9 (.mv (.t 52))])
 (.seq (.reg [iv 53 (.mv (.t 9)),
   iv 4 (.mv (.t 53))])
 (.ret))))
def F_i_strconv_FormatInt : AFn := ⟨54, C_i_strconv_FormatInt, [.tmp 4]⟩
def C_item_types : AC := .seq (.reg [iv 2 (.mv (.k (.nsl))),
   iv 3 (.mv (.k (.int .i64 0)))])
 (.seq (.seq (.reg [iv 4 (.mv (.t 0))])
 (.blk 0
  (.seq (.reg [iv 6 (.bin .eql (.t 4) (.k (.int .i64 1))),
    iv 5 (.mv (.t 6))])
  (.cond (.t 5)
   (.seq (.reg [iv 7 (.slit 1 4 [.int .i64 0] [(0, .k (.int .i64 1)), (1, .k (.int .i64 2)), (2, .k (.int .i64 3)), (3, .k (.int .i64 4))]),
     iv 2 (.mv (.t 7)),
     iv 3 (.mv (.k (.int .i64 1048576)))])
   (.ret))
   (.seq (.reg [iv 9 (.bin .eql (.t 4) (.k (.int .i64 2))),
     iv 8 (.mv (.t 9))])
   (.cond (.t 8)
    (.seq (.reg [iv 10 (.slit 1 2 [.int .i64 0] [(0, .k (.int .i64 1)), (1, .k (.int .i64 3))]),
      iv 2 (.mv (.t 10)),
      iv 3 (.mv (.k (.int .i64 1048576)))])
    (.ret))
    (.seq (.reg [iv 12 (.bin .eql (.t 4) (.k (.int .i64 3))),
      iv 11 (.mv (.t 12))])
    (.cond (.t 11)
     (.seq (.reg [iv 13 (.slit 1 1 [.int .i64 0] [(0, .k (.int .i64 0))]),
       iv 2 (.mv (.t 13)),
       iv 3 (.mv (.k (.int .i64 1)))])
     (.ret))
     (.skip)))))))))
 (.seq (.reg [iv 2 (.mv (.k (.nsl))),
   iv 3 (.mv (.k (.int .i64 0)))])
 (.ret)))
def F_item_types : AFn := ⟨14, C_item_types, [.tmp 2, .tmp 3]⟩
def C_slices_Containsint_int : AC := .seq (.reg [iv 4 (.mv (.k (.bool false)))])
 (.seq (.reg [iv 5 (.mv (.t 0)),
   iv 6 (.mv (.t 1)),
   ir 7 (.call i_slices_Indexint_int [.t 5, .t 6]),
   iv 8 (.bin .geq (.t 7) (.k (.int .i64 0))),
   iv 4 (.mv (.t 8))])
 (.ret))
def F_slices_Containsint_int : AFn := ⟨9, C_slices_Containsint_int, [.tmp 4]⟩
def Ba_avouchref06zchi : AC := .seq (.seq (.reg [iv 16 (.mv (.t 6)),
           iv 17 (.bin .lss (.t 16) (.k (.int .i64 64)))])
         (.cond (.t 17)
          (.skip)
          (.exit 4)))
         (.seq (.blk 5
          (.draw [⟨(some 20), .v (.mv (.t 4)), none, [4], 0, 0⟩,
            ⟨(some 21), .v (.mv (.t 5)), none, [5], 0, 0⟩,
            ⟨(some 22), .v (.mv (.t 6)), none, [6], 0, 0⟩,
            ⟨(some 23), .v (.mv (.t 4)), none, [4], 0, 0⟩,
            ⟨(some 24), .v (.mv (.t 5)), none, [5], 0, 0⟩,
            ⟨(some 25), .v (.mv (.t 6)), none, [6], 0, 0⟩,
            ⟨(some 26), .v (.iadr (some 5) 320 (.t 1) (.t 23)), none, [1, 23], 0, 0⟩,
            ⟨(some 27), .v (.iadr (some 5) 64 (.t 26) (.t 24)), none, [26, 24], 0, 0⟩,
            ⟨(some 28), .v (.iadr (some 64) 1 (.t 27) (.t 25)), none, [27, 25], 0, 0⟩,
            ⟨(some 29), .r (.ld 1 false (.t 28)), none, [28], 0, 0⟩,
            ⟨(some 30), .v (.mv (.t 4)), none, [4], 0, 0⟩,
            ⟨(some 31), .v (.bin .add (.t 30) (.k (.int .i64 1))), none, [30], 0, 0⟩,
            ⟨(some 32), .v (.bin .rem (.t 31) (.k (.int .i64 5))), none, [31], 0, 0⟩,
            ⟨(some 33), .v (.mv (.t 5)), none, [5], 0, 0⟩,
            ⟨(some 34), .v (.mv (.t 6)), none, [6], 0, 0⟩,
            ⟨(some 35), .v (.iadr (some 5) 320 (.t 1) (.t 32)), none, [1, 32], 0, 0⟩,
            ⟨(some 36), .v (.iadr (some 5) 64 (.t 35) (.t 33)), none, [35, 33], 0, 0⟩,
            ⟨(some 37), .v (.iadr (some 64) 1 (.t 36) (.t 34)), none, [36, 34], 0, 0⟩,
            ⟨(some 38), .r (.ld 1 false (.t 37)), none, [37], 0, 0⟩,
            ⟨(some 39), .v (.un .not (.t 38)), none, [38], 0, 0⟩,
            ⟨(some 40), .v (.mv (.t 39)), none, [39], 0, 0⟩,
            ⟨(some 41), .v (.mv (.t 4)), (some (40, true)), [4, 40], 0, 0⟩,
            ⟨(some 42), .v (.bin .add (.t 41) (.k (.int .i64 2))), (some (40, true)), [41, 40], 0, 0⟩,
            ⟨(some 43), .v (.bin .rem (.t 42) (.k (.int .i64 5))), (some (40, true)), [42, 40], 0, 0⟩,
            ⟨(some 44), .v (.mv (.t 5)), (some (40, true)), [5, 40], 0, 0⟩,
            ⟨(some 45), .v (.mv (.t 6)), (some (40, true)), [6, 40], 0, 0⟩,
            ⟨(some 46), .v (.iadr (some 5) 320 (.t 1) (.t 43)), (some (40, true)), [1, 43, 40], 0, 0⟩,
            ⟨(some 47), .v (.iadr (some 5) 64 (.t 46) (.t 44)), (some (40, true)), [46, 44, 40], 0, 0⟩,
            ⟨(some 48), .v (.iadr (some 64) 1 (.t 47) (.t 45)), (some (40, true)), [47, 45, 40], 0, 0⟩,
            ⟨(some 49), .r (.ld 1 false (.t 48)), (some (40, true)), [48, 40], 0, 0⟩,
            ⟨(some 50), .v (.pick (.t 40) (.t 49) (.k (.bool false))), none, [40, 49], 0, 0⟩,
            ⟨(some 51), .v (.eq .bool true (.t 29) (.t 50)), none, [29, 50], 0, 0⟩,
            ⟨(some 52), .v (.iadr (some 5) 320 (.t 3) (.t 20)), none, [3, 20], 0, 0⟩,
            ⟨(some 53), .v (.iadr (some 5) 64 (.t 52) (.t 21)), none, [52, 21], 0, 0⟩,
            ⟨(some 54), .v (.iadr (some 64) 1 (.t 53) (.t 22)), none, [53, 22], 0, 0⟩,
            ⟨none, .c (.st 1 (.t 54) (.t 51)), none, [54, 51], 0, 0⟩]))
         (.reg [iv 18 (.mv (.t 6)),
           iv 19 (.bin .add (.t 18) (.k (.int .i64 1))),
           iv 6 (.mv (.t 19))]))
def Bb_avouchref06zchi : AC := .seq (.seq (.reg [iv 12 (.mv (.t 5)),
        iv 13 (.bin .lss (.t 12) (.k (.int .i64 5)))])
      (.cond (.t 13)
       (.skip)
       (.exit 2)))
      (.seq (.blk 3
       (.seq (.reg [iv 6 (.mv (.k (.int .i64 0)))])
       (.blk 4
        (.loop Ba_avouchref06zchi))))
      (.reg [iv 14 (.mv (.t 5)),
        iv 15 (.bin .add (.t 14) (.k (.int .i64 1))),
        iv 5 (.mv (.t 15))]))
def Bc_avouchref06zchi : AC := .seq (.seq (.reg [iv 8 (.mv (.t 4)),
     iv 9 (.bin .lss (.t 8) (.k (.int .i64 5)))])
   (.cond (.t 9)
    (.skip)
    (.exit 0)))
   (.seq (.blk 1
    (.seq (.reg [iv 5 (.mv (.k (.int .i64 0)))])
    (.blk 2
     (.loop Bb_avouchref06zchi))))
   (.reg [iv 10 (.mv (.t 4)),
     iv 11 (.bin .add (.t 10) (.k (.int .i64 1))),
     iv 4 (.mv (.t 11))]))
def C_avouchref06zchi : AC := .seq (.reg [iv 1 (.boxv (.t 0)),
   ic 2 (.alloc (rep1 (.bool false) 1600))])
 (.seq (.reg [iv 7 (.build (rep1 (.bool false) 1600) []),
   ic 3 (.alloc (rep1 (.bool false) 1600)),
   jc (.st 1600 (.t 3) (.t 7))])
 (.seq (.seq (.reg [iv 4 (.mv (.k (.int .i64 0)))])
 (.blk 0
  (.loop Bc_avouchref06zchi)))
 (.seq (.reg [ir 55 (.ld 1600 true (.t 3)),
   jc (.st 1600 (.t 2) (.t 55))])
 (.ret))))
def F_avouchref06zchi : AFn := ⟨56, C_avouchref06zchi, [.cell 2 1600 true]⟩
def Ba_avouchref06zpi : AC := .seq (.seq (.reg [iv 11 (.mv (.t 5)),
        iv 12 (.bin .lss (.t 11) (.k (.int .i64 5)))])
      (.cond (.t 12)
       (.skip)
       (.exit 2)))
      (.seq (.blk 3
       (.draw [⟨(some 15), .v (.mv (.t 5)), none, [5], 0, 0⟩,
         ⟨(some 16), .v (.mv (.t 4)), none, [4], 0, 0⟩,
         ⟨(some 17), .v (.bin .mul (.k (.int .i64 2)) (.t 16)), none, [16], 0, 0⟩,
         ⟨(some 18), .v (.mv (.t 5)), none, [5], 0, 0⟩,
         ⟨(some 19), .v (.bin .mul (.k (.int .i64 3)) (.t 18)), none, [18], 0, 0⟩,
         ⟨(some 20), .v (.bin .add (.t 17) (.t 19)), none, [17, 19], 0, 0⟩,
         ⟨(some 21), .v (.bin .rem (.t 20) (.k (.int .i64 5))), none, [20], 0, 0⟩,
         ⟨(some 22), .v (.mv (.t 4)), none, [4], 0, 0⟩,
         ⟨(some 23), .v (.mv (.t 5)), none, [5], 0, 0⟩,
         ⟨(some 24), .v (.iadr (some 5) 320 (.t 1) (.t 22)), none, [1, 22], 0, 0⟩,
         ⟨(some 25), .v (.iadr (some 5) 64 (.t 24) (.t 23)), none, [24, 23], 0, 0⟩,
         ⟨(some 26), .r (.ld 64 true (.t 25)), none, [25], 0, 0⟩,
         ⟨(some 27), .v (.iadr (some 5) 320 (.t 3) (.t 15)), none, [3, 15], 0, 0⟩,
         ⟨(some 28), .v (.iadr (some 5) 64 (.t 27) (.t 21)), none, [27, 21], 0, 0⟩,
         ⟨none, .c (.st 64 (.t 28) (.t 26)), none, [28, 26], 0, 0⟩]))
      (.reg [iv 13 (.mv (.t 5)),
        iv 14 (.bin .add (.t 13) (.k (.int .i64 1))),
        iv 5 (.mv (.t 14))]))
def Bb_avouchref06zpi : AC := .seq (.seq (.reg [iv 7 (.mv (.t 4)),
     iv 8 (.bin .lss (.t 7) (.k (.int .i64 5)))])
   (.cond (.t 8)
    (.skip)
    (.exit 0)))
   (.seq (.blk 1
    (.seq (.reg [iv 5 (.mv (.k (.int .i64 0)))])
    (.blk 2
     (.loop Ba_avouchref06zpi))))
   (.reg [iv 9 (.mv (.t 4)),
     iv 10 (.bin .add (.t 9) (.k (.int .i64 1))),
     iv 4 (.mv (.t 10))]))
def C_avouchref06zpi : AC := .seq (.reg [iv 1 (.boxv (.t 0)),
   ic 2 (.alloc (rep1 (.bool false) 1600))])
 (.seq (.reg [iv 6 (.build (rep1 (.bool false) 1600) []),
   ic 3 (.alloc (rep1 (.bool false) 1600)),
   jc (.st 1600 (.t 3) (.t 6))])
 (.seq (.seq (.reg [iv 4 (.mv (.k (.int .i64 0)))])
 (.blk 0
  (.loop Bb_avouchref06zpi)))
 (.seq (.reg [ir 29 (.ld 1600 true (.t 3)),
   jc (.st 1600 (.t 2) (.t 29))])
 (.ret))))
def F_avouchref06zpi : AFn := ⟨30, C_avouchref06zpi, [.cell 2 1600 true]⟩
def Ba_avouchref06zrho : AC := .seq (.seq (.reg [iv 18 (.mv (.t 7)),
        iv 19 (.bin .lss (.t 18) (.k (.int .i64 64)))])
      (.cond (.t 19)
       (.skip)
       (.exit 2)))
      (.seq (.blk 3
       (.draw [⟨(some 22), .v (.mv (.t 4)), none, [4], 0, 0⟩,
         ⟨(some 23), .v (.mv (.t 5)), none, [5], 0, 0⟩,
         ⟨(some 24), .v (.mv (.t 7)), none, [7], 0, 0⟩,
         ⟨(some 25), .v (.mv (.t 6)), none, [6], 0, 0⟩,
         ⟨(some 26), .v (.bin .add (.t 25) (.k (.int .i64 1))), none, [25], 0, 0⟩,
         ⟨(some 27), .v (.mv (.t 6)), none, [6], 0, 0⟩,
         ⟨(some 28), .v (.bin .add (.t 27) (.k (.int .i64 2))), none, [27], 0, 0⟩,
         ⟨(some 29), .v (.bin .mul (.t 26) (.t 28)), none, [26, 28], 0, 0⟩,
         ⟨(some 30), .v (.bin .quo (.t 29) (.k (.int .i64 2))), none, [29], 0, 0⟩,
         ⟨(some 31), .v (.bin .add (.t 24) (.t 30)), none, [24, 30], 0, 0⟩,
         ⟨(some 32), .v (.bin .rem (.t 31) (.k (.int .i64 64))), none, [31], 0, 0⟩,
         ⟨(some 33), .v (.mv (.t 4)), none, [4], 0, 0⟩,
         ⟨(some 34), .v (.mv (.t 5)), none, [5], 0, 0⟩,
         ⟨(some 35), .v (.mv (.t 7)), none, [7], 0, 0⟩,
         ⟨(some 36), .v (.iadr (some 5) 320 (.t 1) (.t 33)), none, [1, 33], 0, 0⟩,
         ⟨(some 37), .v (.iadr (some 5) 64 (.t 36) (.t 34)), none, [36, 34], 0, 0⟩,
         ⟨(some 38), .v (.iadr (some 64) 1 (.t 37) (.t 35)), none, [37, 35], 0, 0⟩,
         ⟨(some 39), .r (.ld 1 false (.t 38)), none, [38], 0, 0⟩,
         ⟨(some 40), .v (.iadr (some 5) 320 (.t 3) (.t 22)), none, [3, 22], 0, 0⟩,
         ⟨(some 41), .v (.iadr (some 5) 64 (.t 40) (.t 23)), none, [40, 23], 0, 0⟩,
         ⟨(some 42), .v (.iadr (some 64) 1 (.t 41) (.t 32)), none, [41, 32], 0, 0⟩,
         ⟨none, .c (.st 1 (.t 42) (.t 39)), none, [42, 39], 0, 0⟩]))
      (.reg [iv 20 (.mv (.t 7)),
        iv 21 (.bin .add (.t 20) (.k (.int .i64 1))),
        iv 7 (.mv (.t 21))]))
def Bb_avouchref06zrho : AC := .seq (.seq (.reg [iv 14 (.mv (.t 6)),
     iv 15 (.bin .lss (.t 14) (.k (.int .i64 24)))])
   (.cond (.t 15)
    (.skip)
    (.exit 0)))
   (.seq (.blk 1
    (.seq (.seq (.reg [iv 7 (.mv (.k (.int .i64 0)))])
    (.blk 2
     (.loop Ba_avouchref06zrho)))
    (.reg [iv 43 (.mv (.t 5)),
      iv 44 (.mv (.t 4)),
      iv 45 (.bin .mul (.k (.int .i64 2)) (.t 44)),
      iv 46 (.mv (.t 5)),
      iv 47 (.bin .mul (.k (.int .i64 3)) (.t 46)),
      iv 48 (.bin .add (.t 45) (.t 47)),
      iv 49 (.bin .rem (.t 48) (.k (.int .i64 5))),
      iv 4 (.mv (.t 43)),
      iv 5 (.mv (.t 49))])))
   (.reg [iv 16 (.mv (.t 6)),
     iv 17 (.bin .add (.t 16) (.k (.int .i64 1))),
     iv 6 (.mv (.t 17))]))
def C_avouchref06zrho : AC := .seq (.reg [iv 1 (.boxv (.t 0)),
   ic 2 (.alloc (rep1 (.bool false) 1600))])
 (.seq (.reg [iv 8 (.build (rep1 (.bool false) 1600) []),
   ic 3 (.alloc (rep1 (.bool false) 1600)),
   jc (.st 1600 (.t 3) (.t 8))])
 (.seq (.reg [iv 9 (.iadr (some 5) 320 (.t 1) (.k (.int .i64 0))),
   iv 10 (.iadr (some 5) 64 (.t 9) (.k (.int .i64 0))),
   ir 11 (.ld 64 true (.t 10)),
   iv 12 (.iadr (some 5) 320 (.t 3) (.k (.int .i64 0))),
   iv 13 (.iadr (some 5) 64 (.t 12) (.k (.int .i64 0))),
   jc (.st 64 (.t 13) (.t 11))])
 (.seq (.reg [iv 4 (.mv (.k (.int .i64 1))),
   iv 5 (.mv (.k (.int .i64 0)))])
 (.seq (.seq (.reg [iv 6 (.mv (.k (.int .i64 0)))])
 (.blk 0
  (.loop Bb_avouchref06zrho)))
 (.seq (.reg [ir 50 (.ld 1600 true (.t 3)),
   jc (.st 1600 (.t 2) (.t 50))])
 (.ret))))))
def F_avouchref06zrho : AFn := ⟨51, C_avouchref06zrho, [.cell 2 1600 true]⟩
def Ba_avouchref06ztheta : AC := .seq (.seq (.reg [iv 22 (.mv (.t 7)),
           iv 23 (.bin .lss (.t 22) (.k (.int .i64 5)))])
         (.cond (.t 23)
          (.skip)
          (.exit 4)))
         (.seq (.blk 5
          (.seq (.reg [iv 26 (.mv (.t 4)),
            iv 27 (.mv (.t 7)),
            iv 28 (.mv (.t 5)),
            iv 29 (.iadr (some 5) 320 (.t 1) (.t 26)),
            iv 30 (.iadr (some 5) 64 (.t 29) (.t 27)),
            iv 31 (.iadr (some 64) 1 (.t 30) (.t 28)),
            ir 32 (.ld 1 false (.t 31))])
          (.cond (.t 32)
           (.reg [iv 33 (.mv (.t 6)),
             iv 34 (.bin .add (.t 33) (.k (.int .i64 1))),
             iv 6 (.mv (.t 34))])
           (.skip))))
         (.reg [iv 24 (.mv (.t 7)),
           iv 25 (.bin .add (.t 24) (.k (.int .i64 1))),
           iv 7 (.mv (.t 25))]))
def Bb_avouchref06ztheta : AC := .seq (.seq (.reg [iv 18 (.mv (.t 5)),
        iv 19 (.bin .lss (.t 18) (.k (.int .i64 64)))])
      (.cond (.t 19)
       (.skip)
       (.exit 2)))
      (.seq (.blk 3
       (.seq (.reg [iv 6 (.mv (.k (.int .i64 0)))])
       (.seq (.seq (.reg [iv 7 (.mv (.k (.int .i64 0)))])
       (.blk 4
        (.loop Ba_avouchref06ztheta)))
       (.reg [iv 35 (.mv (.t 4)),
         iv 36 (.mv (.t 5)),
         iv 37 (.mv (.t 6)),
         iv 38 (.bin .rem (.t 37) (.k (.int .i64 2))),
         iv 39 (.bin .eql (.t 38) (.k (.int .i64 1))),
         iv 40 (.iadr (some 5) 64 (.t 3) (.t 35)),
         iv 41 (.iadr (some 64) 1 (.t 40) (.t 36)),
         jc (.st 1 (.t 41) (.t 39))]))))
      (.reg [iv 20 (.mv (.t 5)),
        iv 21 (.bin .add (.t 20) (.k (.int .i64 1))),
        iv 5 (.mv (.t 21))]))
def Bc_avouchref06ztheta : AC := .seq (.seq (.reg [iv 14 (.mv (.t 4)),
     iv 15 (.bin .lss (.t 14) (.k (.int .i64 5)))])
   (.cond (.t 15)
    (.skip)
    (.exit 0)))
   (.seq (.blk 1
    (.seq (.reg [iv 5 (.mv (.k (.int .i64 0)))])
    (.blk 2
     (.loop Bb_avouchref06ztheta))))
   (.reg [iv 16 (.mv (.t 4)),
     iv 17 (.bin .add (.t 16) (.k (.int .i64 1))),
     iv 4 (.mv (.t 17))]))
def Bd_avouchref06ztheta : AC := .seq (.seq (.reg [iv 51 (.mv (.t 11)),
           iv 52 (.bin .lss (.t 51) (.k (.int .i64 64)))])
         (.cond (.t 52)
          (.skip)
          (.exit 10)))
         (.seq (.blk 11
          (.seq (.draw [⟨(some 55), .v (.mv (.t 9)), none, [9], 0, 0⟩,
            ⟨(some 56), .v (.bin .add (.t 55) (.k (.int .i64 4))), none, [55], 0, 0⟩,
            ⟨(some 57), .v (.bin .rem (.t 56) (.k (.int .i64 5))), none, [56], 0, 0⟩,
            ⟨(some 58), .v (.mv (.t 11)), none, [11], 0, 0⟩,
            ⟨(some 59), .v (.iadr (some 5) 64 (.t 3) (.t 57)), none, [3, 57], 0, 0⟩,
            ⟨(some 60), .v (.iadr (some 64) 1 (.t 59) (.t 58)), none, [59, 58], 0, 0⟩,
            ⟨(some 61), .r (.ld 1 false (.t 60)), none, [60], 0, 0⟩,
            ⟨(some 62), .v (.mv (.t 9)), none, [9], 0, 0⟩,
            ⟨(some 63), .v (.bin .add (.t 62) (.k (.int .i64 1))), none, [62], 0, 0⟩,
            ⟨(some 64), .v (.bin .rem (.t 63) (.k (.int .i64 5))), none, [63], 0, 0⟩,
            ⟨(some 65), .v (.mv (.t 11)), none, [11], 0, 0⟩,
            ⟨(some 66), .v (.bin .add (.t 65) (.k (.int .i64 63))), none, [65], 0, 0⟩,
            ⟨(some 67), .v (.bin .rem (.t 66) (.k (.int .i64 64))), none, [66], 0, 0⟩,
            ⟨(some 68), .v (.iadr (some 5) 64 (.t 3) (.t 64)), none, [3, 64], 0, 0⟩,
            ⟨(some 69), .v (.iadr (some 64) 1 (.t 68) (.t 67)), none, [68, 67], 0, 0⟩,
            ⟨(some 70), .r (.ld 1 false (.t 69)), none, [69], 0, 0⟩,
            ⟨(some 71), .v (.eq .bool true (.t 61) (.t 70)), none, [61, 70], 0, 0⟩,
            ⟨(some 12), .v (.mv (.t 71)), none, [71], 0, 0⟩])
          (.draw [⟨(some 72), .v (.mv (.t 9)), none, [9], 0, 0⟩,
            ⟨(some 73), .v (.mv (.t 10)), none, [10], 0, 0⟩,
            ⟨(some 74), .v (.mv (.t 11)), none, [11], 0, 0⟩,
            ⟨(some 75), .v (.mv (.t 9)), none, [9], 0, 0⟩,
            ⟨(some 76), .v (.mv (.t 10)), none, [10], 0, 0⟩,
            ⟨(some 77), .v (.mv (.t 11)), none, [11], 0, 0⟩,
            ⟨(some 78), .v (.iadr (some 5) 320 (.t 1) (.t 75)), none, [1, 75], 0, 0⟩,
            ⟨(some 79), .v (.iadr (some 5) 64 (.t 78) (.t 76)), none, [78, 76], 0, 0⟩,
            ⟨(some 80), .v (.iadr (some 64) 1 (.t 79) (.t 77)), none, [79, 77], 0, 0⟩,
            ⟨(some 81), .r (.ld 1 false (.t 80)), none, [80], 0, 0⟩,
            ⟨(some 82), .v (.mv (.t 12)), none, [12], 0, 0⟩,
            ⟨(some 83), .v (.eq .bool true (.t 81) (.t 82)), none, [81, 82], 0, 0⟩,
            ⟨(some 84), .v (.iadr (some 5) 320 (.t 8) (.t 72)), none, [8, 72], 0, 0⟩,
            ⟨(some 85), .v (.iadr (some 5) 64 (.t 84) (.t 73)), none, [84, 73], 0, 0⟩,
            ⟨(some 86), .v (.iadr (some 64) 1 (.t 85) (.t 74)), none, [85, 74], 0, 0⟩,
            ⟨none, .c (.st 1 (.t 86) (.t 83)), none, [86, 83], 0, 0⟩])))
         (.reg [iv 53 (.mv (.t 11)),
           iv 54 (.bin .add (.t 53) (.k (.int .i64 1))),
           iv 11 (.mv (.t 54))]))
def Be_avouchref06ztheta : AC := .seq (.seq (.reg [iv 47 (.mv (.t 10)),
        iv 48 (.bin .lss (.t 47) (.k (.int .i64 5)))])
      (.cond (.t 48)
       (.skip)
       (.exit 8)))
      (.seq (.blk 9
       (.seq (.reg [iv 11 (.mv (.k (.int .i64 0)))])
       (.blk 10
        (.loop Bd_avouchref06ztheta))))
      (.reg [iv 49 (.mv (.t 10)),
        iv 50 (.bin .add (.t 49) (.k (.int .i64 1))),
        iv 10 (.mv (.t 50))]))
def Bf_avouchref06ztheta : AC := .seq (.seq (.reg [iv 43 (.mv (.t 9)),
     iv 44 (.bin .lss (.t 43) (.k (.int .i64 5)))])
   (.cond (.t 44)
    (.skip)
    (.exit 6)))
   (.seq (.blk 7
    (.seq (.reg [iv 10 (.mv (.k (.int .i64 0)))])
    (.blk 8
     (.loop Be_avouchref06ztheta))))
   (.reg [iv 45 (.mv (.t 9)),
     iv 46 (.bin .add (.t 45) (.k (.int .i64 1))),
     iv 9 (.mv (.t 46))]))
def C_avouchref06ztheta : AC := .seq (.reg [iv 1 (.boxv (.t 0)),
   ic 2 (.alloc (rep1 (.bool false) 1600))])
 (.seq (.reg [iv 13 (.build (rep1 (.bool false) 320) []),
   ic 3 (.alloc (rep1 (.bool false) 320)),
   jc (.st 320 (.t 3) (.t 13))])
 (.seq (.seq (.reg [iv 4 (.mv (.k (.int .i64 0)))])
 (.blk 0
  (.loop Bc_avouchref06ztheta)))
 (.seq (.reg [iv 42 (.build (rep1 (.bool false) 1600) []),
   ic 8 (.alloc (rep1 (.bool false) 1600)),
   jc (.st 1600 (.t 8) (.t 42))])
 (.seq (.seq (.reg [iv 9 (.mv (.k (.int .i64 0)))])
 (.blk 6
  (.loop Bf_avouchref06ztheta)))
 (.seq (.reg [ir 87 (.ld 1600 true (.t 8)),
   jc (.st 1600 (.t 2) (.t 87))])
 (.ret))))))
def F_avouchref06ztheta : AFn := ⟨88, C_avouchref06ztheta, [.cell 2 1600 true]⟩
def Ba_avouchref06zConstant : AC := .seq (.seq (.reg [iv 14 (.mv (.t 5)),
     iv 15 (.bin .lss (.t 14) (.k (.int .i64 7)))])
   (.cond (.t 15)
    (.skip)
    (.exit 0)))
   (.seq (.blk 1
    (.seq (.reg [iv 18 (.mv (.t 4)),
      iv 19 (.bin .sub (.t 18) (.k (.int .i64 1))),
      iv 20 (.mv (.t 5)),
      iv 21 (.mv (.t 0)),
      iv 22 (.bin .mul (.k (.int .i64 7)) (.t 21)),
      iv 23 (.bin .add (.t 20) (.t 22)),
      ir 24 (.call i_avouchref06zrc [.t 23]),
      iv 25 (.iadr (some 64) 1 (.t 3) (.t 19)),
      jc (.st 1 (.t 25) (.t 24))])
    (.reg [iv 26 (.mv (.t 4)),
      iv 27 (.bin .mul (.t 26) (.k (.int .i64 2))),
      iv 4 (.mv (.t 27))])))
   (.reg [iv 16 (.mv (.t 5)),
     iv 17 (.bin .add (.t 16) (.k (.int .i64 1))),
     iv 5 (.mv (.t 17))]))
def C_avouchref06zConstant : AC := .seq (.reg [ic 2 (.alloc (rep1 (.bool false) 64))])
 (.seq (.reg [iv 6 (.build (rep1 (.bool false) 64) []),
   ic 3 (.alloc (rep1 (.bool false) 64)),
   jc (.st 64 (.t 3) (.t 6))])
 (.seq (.seq (.reg [iv 7 (.mv (.t 0)),
   iv 8 (.bin .lss (.t 7) (.k (.int .i64 0))),
   iv 9 (.mv (.t 8)),
   ⟨(some 10), .v (.mv (.t 0)), (some (9, false)), [], 0, 0⟩,
   ⟨(some 11), .v (.bin .gtr (.t 10) (.k (.int .i64 23))), (some (9, false)), [], 0, 0⟩,
   iv 12 (.pick (.t 9) (.k (.bool true)) (.t 11))])
 (.cond (.t 12)
  (.seq (.reg [ir 13 (.ld 64 true (.t 3)),
    jc (.st 64 (.t 2) (.t 13))])
  (.ret))
  (.skip)))
 (.seq (.reg [iv 4 (.mv (.k (.int .i64 1)))])
 (.seq (.seq (.reg [iv 5 (.mv (.k (.int .i64 0)))])
 (.blk 0
  (.loop Ba_avouchref06zConstant)))
 (.seq (.reg [ir 28 (.ld 64 true (.t 3)),
   jc (.st 64 (.t 2) (.t 28))])
 (.ret))))))
def F_avouchref06zConstant : AFn := ⟨29, C_avouchref06zConstant, [.cell 2 64 true]⟩
def Ba_keccak_State_theta : AC := .seq (.reg [iv 10 (.bin .lss (.t 9) (.k (.int .i64 25)))])
   (.seq (.cond (.t 10)
    (.skip)
    (.exit 0))
   (.seq (.blk 1
    (.seq (.reg [iv 11 (.mv (.t 9)),
      iv 12 (.idxA 25 1 false (.t 8) (.t 9)),
      iv 4 (.mv (.t 11)),
      iv 5 (.mv (.t 12))])
    (.reg [iv 13 (.mv (.t 4)),
      iv 14 (.bin .rem (.t 13) (.k (.int .i64 5))),
      iv 15 (.iadr (some 5) 1 (.t 3) (.t 14)),
      ir 16 (.ld 1 false (.t 15)),
      iv 17 (.mv (.t 5)),
      iv 18 (.bin .xor (.t 16) (.t 17)),
      iv 19 (.iadr (some 5) 1 (.t 3) (.t 14)),
      jc (.st 1 (.t 19) (.t 18))])))
   (.reg [iv 20 (.bin .add (.t 9) (.k (.int .i64 1))),
     iv 9 (.mv (.t 20))])))
def Bb_keccak_State_theta : AC := .seq (.reg [iv 22 (.bin .lss (.t 21) (.k (.int .i64 25)))])
   (.seq (.cond (.t 22)
    (.skip)
    (.exit 2))
   (.seq (.blk 3
    (.seq (.reg [iv 23 (.mv (.t 21)),
      iv 6 (.mv (.t 23))])
    (.seq (.reg [iv 24 (.mv (.t 6)),
      iv 25 (.bin .rem (.t 24) (.k (.int .i64 5))),
      iv 7 (.mv (.t 25))])
    (.draw [⟨(some 26), .v (.mv (.t 6)), none, [6], 0, 0⟩,
      ⟨(some 27), .v (.iadr (some 25) 1 (.t 1) (.t 26)), none, [1, 26], 0, 0⟩,
      ⟨(some 28), .r (.ld 1 false (.t 27)), none, [27], 0, 0⟩,
      ⟨(some 29), .v (.mv (.t 7)), none, [7], 0, 0⟩,
      ⟨(some 30), .v (.bin .add (.t 29) (.k (.int .i64 4))), none, [29], 0, 0⟩,
      ⟨(some 31), .v (.bin .rem (.t 30) (.k (.int .i64 5))), none, [30], 0, 0⟩,
      ⟨(some 32), .v (.iadr (some 5) 1 (.t 3) (.t 31)), none, [3, 31], 0, 0⟩,
      ⟨(some 33), .r (.ld 1 false (.t 32)), none, [32], 0, 0⟩,
      ⟨(some 34), .v (.mv (.t 7)), none, [7], 0, 0⟩,
      ⟨(some 35), .v (.bin .add (.t 34) (.k (.int .i64 1))), none, [34], 0, 0⟩,
      ⟨(some 36), .v (.bin .rem (.t 35) (.k (.int .i64 5))), none, [35], 0, 0⟩,
      ⟨(some 37), .v (.iadr (some 5) 1 (.t 3) (.t 36)), none, [3, 36], 0, 0⟩,
      ⟨(some 38), .r (.ld 1 false (.t 37)), none, [37], 0, 0⟩,
      ⟨(some 39), .r (.call i_math_bits_RotateLeft64 [.t 38, .k (.int .i64 1)]), none, [38], 0, 0⟩,
      ⟨(some 40), .v (.bin .xor (.t 33) (.t 39)), none, [33, 39], 0, 0⟩,
      ⟨(some 41), .v (.bin .xor (.t 28) (.t 40)), none, [28, 40], 0, 0⟩,
      ⟨(some 42), .v (.iadr (some 25) 1 (.t 1) (.t 26)), none, [1, 26], 0, 0⟩,
      ⟨none, .c (.st 1 (.t 42) (.t 41)), none, [42, 41], 0, 0⟩]))))
   (.reg [iv 43 (.bin .add (.t 21) (.k (.int .i64 1))),
     iv 21 (.mv (.t 43))])))
def C_keccak_State_theta : AC := .seq (.reg [ic 1 (.box (.t 0)),
   ic 2 (.alloc (rep1 (.int .u64 0) 25))])
 (.seq (.reg [ic 3 (.alloc (rep1 (.int .u64 0) 5))])
 (.seq (.seq (.reg [ir 8 (.ld 25 true (.t 1)),
   iv 9 (.mv (.k (.int .i64 0)))])
 (.blk 0
  (.loop Ba_keccak_State_theta)))
 (.seq (.seq (.reg [iv 21 (.mv (.k (.int .i64 0)))])
 (.blk 2
  (.loop Bb_keccak_State_theta)))
 (.seq (.reg [ir 44 (.ld 25 true (.t 1)),
   jc (.st 25 (.t 2) (.t 44))])
 (.ret)))))
def F_keccak_State_theta : AFn := ⟨45, C_keccak_State_theta, [.cell 2 25 true]⟩
def Ba_keccak_State_rhoPi : AC := .seq (.reg [iv 12 (.bin .lss (.t 11) (.k (.int .i64 24)))])
   (.seq (.cond (.t 12)
    (.skip)
    (.exit 0))
   (.seq (.blk 1
    (.seq (.reg [iv 13 (.mv (.t 11)),
      iv 6 (.mv (.t 13))])
    (.seq (.reg [iv 14 (.mv (.t 4)),
      iv 15 (.bin .mul (.k (.int .i64 2)) (.t 14)),
      iv 16 (.mv (.t 5)),
      iv 17 (.bin .mul (.k (.int .i64 3)) (.t 16)),
      iv 18 (.bin .add (.t 15) (.t 17)),
      iv 19 (.bin .rem (.t 18) (.k (.int .i64 5))),
      iv 7 (.mv (.t 19))])
    (.seq (.reg [iv 20 (.mv (.t 5)),
      iv 21 (.mv (.t 7)),
      iv 22 (.bin .mul (.k (.int .i64 5)) (.t 21)),
      iv 23 (.bin .add (.t 20) (.t 22)),
      iv 24 (.mv (.t 4)),
      iv 25 (.mv (.t 5)),
      iv 26 (.bin .mul (.k (.int .i64 5)) (.t 25)),
      iv 27 (.bin .add (.t 24) (.t 26)),
      iv 28 (.iadr (some 25) 1 (.t 1) (.t 27)),
      ir 29 (.ld 1 false (.t 28)),
      iv 30 (.mv (.t 6)),
      iv 31 (.bin .add (.t 30) (.k (.int .i64 1))),
      iv 32 (.mv (.t 6)),
      iv 33 (.bin .add (.t 32) (.k (.int .i64 2))),
      iv 34 (.bin .mul (.t 31) (.t 33)),
      iv 35 (.bin .quo (.t 34) (.k (.int .i64 2))),
      ir 36 (.call i_math_bits_RotateLeft64 [.t 29, .t 35]),
      iv 37 (.iadr (some 25) 1 (.t 3) (.t 23)),
      jc (.st 1 (.t 37) (.t 36))])
    (.reg [iv 38 (.mv (.t 5)),
      iv 39 (.mv (.t 7)),
      iv 4 (.mv (.t 38)),
      iv 5 (.mv (.t 39))])))))
   (.reg [iv 40 (.bin .add (.t 11) (.k (.int .i64 1))),
     iv 11 (.mv (.t 40))])))
def C_keccak_State_rhoPi : AC := .seq (.reg [iv 1 (.boxv (.t 0)),
   ic 2 (.alloc (rep1 (.int .u64 0) 25))])
 (.seq (.reg [iv 8 (.iadr (some 25) 1 (.t 1) (.k (.int .i64 0))),
   ir 9 (.ld 1 false (.t 8)),
   iv 10 (.build (rep1 (.int .u64 0) 25) [(0, 1, .t 9)]),
   ic 3 (.alloc (rep1 (.int .u64 0) 25)),
   jc (.st 25 (.t 3) (.t 10))])
 (.seq (.reg [iv 4 (.mv (.k (.int .i64 1))),
   iv 5 (.mv (.k (.int .i64 0)))])
 (.seq (.seq (.reg [iv 11 (.mv (.k (.int .i64 0)))])
 (.blk 0
  (.loop Ba_keccak_State_rhoPi)))
 (.seq (.reg [ir 41 (.ld 25 true (.t 3)),
   jc (.st 25 (.t 2) (.t 41))])
 (.ret)))))
def F_keccak_State_rhoPi : AFn := ⟨42, C_keccak_State_rhoPi, [.cell 2 25 true]⟩
def Ba_keccak_State_chi : AC := .seq (.reg [iv 8 (.bin .lss (.t 7) (.k (.int .i64 25)))])
   (.seq (.cond (.t 8)
    (.skip)
    (.exit 0))
   (.seq (.blk 1
    (.seq (.reg [iv 9 (.mv (.t 7)),
      iv 4 (.mv (.t 9))])
    (.seq (.reg [iv 10 (.mv (.t 4)),
      iv 11 (.mv (.t 4)),
      iv 12 (.bin .rem (.t 11) (.k (.int .i64 5))),
      iv 13 (.bin .sub (.t 10) (.t 12)),
      iv 5 (.mv (.t 13))])
    (.draw [⟨(some 14), .v (.mv (.t 4)), none, [4], 0, 0⟩,
      ⟨(some 15), .v (.iadr (some 25) 1 (.t 3) (.t 14)), none, [3, 14], 0, 0⟩,
      ⟨(some 16), .r (.ld 1 false (.t 15)), none, [15], 0, 0⟩,
      ⟨(some 17), .v (.mv (.t 5)), none, [5], 0, 0⟩,
      ⟨(some 18), .v (.mv (.t 4)), none, [4], 0, 0⟩,
      ⟨(some 19), .v (.bin .add (.t 18) (.k (.int .i64 2))), none, [18], 0, 0⟩,
      ⟨(some 20), .v (.bin .rem (.t 19) (.k (.int .i64 5))), none, [19], 0, 0⟩,
      ⟨(some 21), .v (.bin .add (.t 17) (.t 20)), none, [17, 20], 0, 0⟩,
      ⟨(some 22), .v (.iadr (some 25) 1 (.t 1) (.t 21)), none, [1, 21], 0, 0⟩,
      ⟨(some 23), .r (.ld 1 false (.t 22)), none, [22], 0, 0⟩,
      ⟨(some 24), .v (.mv (.t 5)), none, [5], 0, 0⟩,
      ⟨(some 25), .v (.mv (.t 4)), none, [4], 0, 0⟩,
      ⟨(some 26), .v (.bin .add (.t 25) (.k (.int .i64 1))), none, [25], 0, 0⟩,
      ⟨(some 27), .v (.bin .rem (.t 26) (.k (.int .i64 5))), none, [26], 0, 0⟩,
      ⟨(some 28), .v (.bin .add (.t 24) (.t 27)), none, [24, 27], 0, 0⟩,
      ⟨(some 29), .v (.iadr (some 25) 1 (.t 1) (.t 28)), none, [1, 28], 0, 0⟩,
      ⟨(some 30), .r (.ld 1 false (.t 29)), none, [29], 0, 0⟩,
      ⟨(some 31), .v (.bin .andNot (.t 23) (.t 30)), none, [23, 30], 0, 0⟩,
      ⟨(some 32), .v (.bin .xor (.t 16) (.t 31)), none, [16, 31], 0, 0⟩,
      ⟨(some 33), .v (.iadr (some 25) 1 (.t 3) (.t 14)), none, [3, 14], 0, 0⟩,
      ⟨none, .c (.st 1 (.t 33) (.t 32)), none, [33, 32], 0, 0⟩]))))
   (.reg [iv 34 (.bin .add (.t 7) (.k (.int .i64 1))),
     iv 7 (.mv (.t 34))])))
def C_keccak_State_chi : AC := .seq (.reg [iv 1 (.boxv (.t 0)),
   ic 2 (.alloc (rep1 (.int .u64 0) 25))])
 (.seq (.reg [ir 6 (.ld 25 true (.t 1)),
   ic 3 (.alloc (rep1 (.int .u64 0) 25)),
   jc (.st 25 (.t 3) (.t 6))])
 (.seq (.seq (.reg [iv 7 (.mv (.k (.int .i64 0)))])
 (.blk 0
  (.loop Ba_keccak_State_chi)))
 (.seq (.reg [ir 35 (.ld 25 true (.t 3)),
   jc (.st 25 (.t 2) (.t 35))])
 (.ret))))
def F_keccak_State_chi : AFn := ⟨36, C_keccak_State_chi, [.cell 2 25 true]⟩
def C_keccak_Constant : AC := .seq (.reg [iv 2 (.mv (.k (.int .u64 0)))])
 (.seq (.seq (.reg [iv 3 (.mv (.t 0)),
   iv 4 (.bin .lss (.t 3) (.k (.int .i64 0))),
   iv 5 (.mv (.t 4)),
   ⟨(some 6), .v (.mv (.t 0)), (some (5, false)), [], 0, 0⟩,
   ⟨(some 7), .v (.bin .geq (.t 6) (.k (.int .i64 24))), (some (5, false)), [], 0, 0⟩,
   iv 8 (.pick (.t 5) (.k (.bool true)) (.t 7))])
 (.cond (.t 8)
  (.seq (.reg [iv 2 (.mv (.k (.int .u64 0)))])
  (.ret))
  (.skip)))
 (.seq (.reg [iv 9 (.mv (.t 0)),
   iv 10 (.iadr (some 24) 1 (.g 0) (.t 9)),
   ir 11 (.ld 1 false (.t 10)),
   iv 2 (.mv (.t 11))])
 (.ret)))
def F_keccak_Constant : AFn := ⟨12, C_keccak_Constant, [.tmp 2]⟩
def C_i_strconv_small : AC := .seq (.reg [iv 2 (.mv (.k (.str ⟨#[]⟩)))])
 (.seq (.seq (.reg [iv 3 (.mv (.t 0)),
   iv 4 (.bin .lss (.t 3) (.k (.int .i64 10)))])
 (.cond (.t 4)
  (.seq (.reg [iv 5 (.mv (.t 0)),
    iv 6 (.mv (.t 0)),
    iv 7 (.bin .add (.t 6) (.k (.int .i64 1))),
    iv 8 (.slice .str 0 (.k (.str ⟨#[48, 49, 50, 51, 52, 53, 54, 55, 56, 57, 97, 98, 99, 100, 101, 102, 103, 104, 105, 106, 107, 108, 109, 110, 111, 112, 113, 114, 115, 116, 117, 118, 119, 120, 121, 122]⟩)) (some (.t 5)) (some (.t 7)) none),
    iv 2 (.mv (.t 8))])
  (.ret))
  (.skip)))
 (.seq (.reg [iv 9 (.mv (.t 0)),
   iv 10 (.bin .mul (.t 9) (.k (.int .i64 2))),
   iv 11 (.mv (.t 0)),
   iv 12 (.bin .mul (.t 11) (.k (.int .i64 2))),
   iv 13 (.bin .add (.t 12) (.k (.int .i64 2))),
   iv 14 (.slice .str 0 (.k (.str ⟨#[48, 48, 48, 49, 48, 50, 48, 51, 48, 52, 48, 53, 48, 54, 48, 55, 48, 56, 48, 57, 49, 48, 49, 49, 49, 50, 49, 51, 49, 52, 49, 53, 49, 54, 49, 55, 49, 56, 49, 57, 50, 48, 50, 49, 50, 50, 50, 51, 50, 52, 50, 53, 50, 54, 50, 55, 50, 56, 50, 57, 51, 48, 51, 49, 51, 50, 51, 51, 51, 52, 51, 53, 51, 54, 51, 55, 51, 56, 51, 57, 52, 48, 52, 49, 52, 50, 52, 51, 52, 52, 52, 53, 52, 54, 52, 55, 52, 56, 52, 57, 53, 48, 53, 49, 53, 50, 53, 51, 53, 52, 53, 53, 53, 54, 53, 55, 53, 56, 53, 57, 54, 48, 54, 49, 54, 50, 54, 51, 54, 52, 54, 53, 54, 54, 54, 55, 54, 56, 54, 57, 55, 48, 55, 49, 55, 50, 55, 51, 55, 52, 55, 53, 55, 54, 55, 55, 55, 56, 55, 57, 56, 48, 56, 49, 56, 50, 56, 51, 56, 52, 56, 53, 56, 54, 56, 55, 56, 56, 56, 57, 57, 48, 57, 49, 57, 50, 57, 51, 57, 52, 57, 53, 57, 54, 57, 55, 57, 56, 57, 57]⟩)) (some (.t 10)) (some (.t 13)) none),
   iv 2 (.mv (.t 14))])
 (.ret)))
def F_i_strconv_small : AFn := ⟨15, C_i_strconv_small, [.tmp 2]⟩
def Ba_slices_Indexint_int : AC := .seq (.reg [iv 9 (.bin .lss (.t 8) (.t 7))])
   (.seq (.cond (.t 9)
    (.skip)
    (.exit 0))
   (.seq (.blk 1
    (.seq (.reg [iv 10 (.mv (.t 8)),
      iv 5 (.mv (.t 10))])
    (.seq (.reg [iv 11 (.mv (.t 1)),
      iv 12 (.mv (.t 0)),
      iv 13 (.mv (.t 5)),
      iv 14 (.iadr none 1 (.t 12) (.t 13)),
      ir 15 (.ld 1 false (.t 14)),
      iv 16 (.bin .eql (.t 11) (.t 15))])
    (.cond (.t 16)
     (.seq (.reg [iv 17 (.mv (.t 5)),
       iv 4 (.mv (.t 17))])
     (.ret))
     (.skip)))))
   (.reg [iv 18 (.bin .add (.t 8) (.k (.int .i64 1))),
     iv 8 (.mv (.t 18))])))
def C_slices_Indexint_int : AC := .seq (.reg [iv 4 (.mv (.k (.int .i64 0)))])
 (.seq (.seq (.reg [iv 6 (.mv (.t 0)),
   iv 7 (.lenL (.t 6)),
   iv 8 (.mv (.k (.int .i64 0)))])
 (.blk 0
  (.loop Ba_slices_Indexint_int)))
 (.seq (.reg [iv 4 (.mv (.k (.int .i64 (-1))))])
 (.ret)))
def F_slices_Indexint_int : AFn := ⟨19, C_slices_Indexint_int, [.tmp 4]⟩
def Ba_avouchref06zrc : AC := .seq (.reg [iv 21 (.bin .lss (.t 20) (.t 19))])
       (.seq (.cond (.t 21)
        (.skip)
        (.exit 2))
       (.seq (.blk 3
        (.seq (.reg [iv 22 (.iadr none 1 (.t 18) (.t 20)),
          ir 23 (.ld 1 false (.t 22)),
          iv 6 (.mv (.t 23))])
        (.seq (.reg [iv 24 (.mv (.t 3)),
          iv 25 (.mv (.t 6)),
          iv 26 (.bin .quo (.t 24) (.t 25)),
          iv 27 (.bin .rem (.t 26) (.k (.int .i64 2))),
          iv 28 (.bin .eql (.t 27) (.k (.int .i64 1)))])
        (.cond (.t 28)
         (.reg [iv 29 (.mv (.t 3)),
           iv 30 (.mv (.t 6)),
           iv 31 (.bin .sub (.t 29) (.t 30)),
           iv 3 (.mv (.t 31))])
         (.reg [iv 32 (.mv (.t 3)),
           iv 33 (.mv (.t 6)),
           iv 34 (.bin .add (.t 32) (.t 33)),
           iv 3 (.mv (.t 34))])))))
       (.reg [iv 35 (.bin .add (.t 20) (.k (.int .i64 1))),
         iv 20 (.mv (.t 35))])))
def Bb_avouchref06zrc : AC := .seq (.seq (.reg [iv 7 (.mv (.t 4)),
     iv 8 (.mv (.t 0)),
     iv 9 (.bin .lss (.t 7) (.t 8))])
   (.cond (.t 9)
    (.skip)
    (.exit 0)))
   (.seq (.blk 1
    (.seq (.reg [iv 12 (.mv (.t 3)),
      iv 13 (.bin .mul (.t 12) (.k (.int .i64 2))),
      iv 3 (.mv (.t 13))])
    (.seq (.reg [iv 14 (.mv (.t 3)),
      iv 15 (.bin .geq (.t 14) (.k (.int .i64 256)))])
    (.cond (.t 15)
     (.seq (.reg [iv 16 (.mv (.t 3)),
       iv 17 (.bin .sub (.t 16) (.k (.int .i64 256))),
       iv 3 (.mv (.t 17))])
     (.seq (.reg [iv 18 (.slit 1 4 [.int .i64 0] [(0, .k (.int .i64 64)), (1, .k (.int .i64 32)), (2, .k (.int .i64 16)), (3, .k (.int .i64 1))]),
       iv 19 (.lenL (.t 18)),
       iv 20 (.mv (.k (.int .i64 0)))])
     (.blk 2
      (.loop Ba_avouchref06zrc))))
     (.skip)))))
   (.reg [iv 10 (.mv (.t 4)),
     iv 11 (.bin .add (.t 10) (.k (.int .i64 1))),
     iv 4 (.mv (.t 11))]))
def C_avouchref06zrc : AC := .seq (.reg [iv 2 (.mv (.k (.bool false)))])
 (.seq (.reg [iv 3 (.mv (.k (.int .i64 1)))])
 (.seq (.seq (.reg [iv 4 (.mv (.k (.int .i64 0)))])
 (.blk 0
  (.loop Bb_avouchref06zrc)))
 (.seq (.reg [iv 36 (.mv (.t 3)),
   iv 37 (.bin .rem (.t 36) (.k (.int .i64 2))),
   iv 38 (.bin .eql (.t 37) (.k (.int .i64 1))),
   iv 2 (.mv (.t 38))])
 (.ret))))
def F_avouchref06zrc : AFn := ⟨39, C_avouchref06zrc, [.tmp 2]⟩
def C_math_bits_RotateLeft64 : AC := .seq (.reg [iv 4 (.mv (.k (.int .u64 0)))])
 (.seq (.reg [iv 6 (.mv (.t 1)),
   iv 7 (.i2i .u64 (.t 6)),
   iv 8 (.bin .and (.t 7) (.k (.int .u64 63))),
   iv 5 (.mv (.t 8))])
 (.seq (.reg [iv 9 (.mv (.t 0)),
   iv 10 (.mv (.t 5)),
   iv 11 (.bin .shl (.t 9) (.t 10)),
   iv 12 (.mv (.t 0)),
   iv 13 (.mv (.t 5)),
   iv 14 (.bin .sub (.k (.int .u64 64)) (.t 13)),
   iv 15 (.bin .shr (.t 12) (.t 14)),
   iv 16 (.bin .or (.t 11) (.t 15)),
   iv 4 (.mv (.t 16))])
 (.ret)))
def F_math_bits_RotateLeft64 : AFn := ⟨17, C_math_bits_RotateLeft64, [.tmp 4]⟩
def C_i_strconv_log10Pow2 : AC := .seq (.reg [iv 2 (.mv (.k (.int .i64 0)))])
 (.seq (.reg [iv 3 (.mv (.t 0)),
   iv 4 (.bin .mul (.t 3) (.k (.int .i64 78913))),
   iv 5 (.bin .shr (.t 4) (.k (.int .u64 18))),
   iv 2 (.mv (.t 5))])
 (.ret))
def F_i_strconv_log10Pow2 : AFn := ⟨6, C_i_strconv_log10Pow2, [.tmp 2]⟩
def C_math_bits_Len64 : AC := .seq (.reg [iv 2 (.mv (.k (.int .i64 0)))])
 (.seq (.seq (.reg [iv 3 (.mv (.t 0)),
   iv 4 (.bin .geq (.t 3) (.k (.int .u64 4294967296)))])
 (.cond (.t 4)
  (.seq (.reg [iv 5 (.mv (.t 0)),
    iv 6 (.bin .shr (.t 5) (.k (.int .u64 32))),
    iv 0 (.mv (.t 6))])
  (.reg [iv 2 (.mv (.k (.int .i64 32)))]))
  (.skip)))
 (.seq (.seq (.reg [iv 7 (.mv (.t 0)),
   iv 8 (.bin .geq (.t 7) (.k (.int .u64 65536)))])
 (.cond (.t 8)
  (.seq (.reg [iv 9 (.mv (.t 0)),
    iv 10 (.bin .shr (.t 9) (.k (.int .u64 16))),
    iv 0 (.mv (.t 10))])
  (.reg [iv 11 (.mv (.t 2)),
    iv 12 (.bin .add (.t 11) (.k (.int .i64 16))),
    iv 2 (.mv (.t 12))]))
  (.skip)))
 (.seq (.seq (.reg [iv 13 (.mv (.t 0)),
   iv 14 (.bin .geq (.t 13) (.k (.int .u64 256)))])
 (.cond (.t 14)
  (.seq (.reg [iv 15 (.mv (.t 0)),
    iv 16 (.bin .shr (.t 15) (.k (.int .u64 8))),
    iv 0 (.mv (.t 16))])
  (.reg [iv 17 (.mv (.t 2)),
    iv 18 (.bin .add (.t 17) (.k (.int .i64 8))),
    iv 2 (.mv (.t 18))]))
  (.skip)))
 (.seq (.reg [iv 19 (.mv (.t 2)),
   iv 20 (.mv (.t 0)),
   iv 21 (.i2i .u8 (.t 20)),
   iv 22 (.idxS (.k (.str ⟨#[0, 1, 2, 2, 3, 3, 3, 3, 4, 4, 4, 4, 4, 4, 4, 4, 5, 5, 5, 5, 5, 5, 5, 5, 5, 5, 5, 5, 5, 5, 5, 5, 6, 6, 6, 6, 6, 6, 6, 6, 6, 6, 6, 6, 6, 6, 6, 6, 6, 6, 6, 6, 6, 6, 6, 6, 6, 6, 6, 6, 6, 6, 6, 6, 7, 7, 7, 7, 7, 7, 7, 7, 7, 7, 7, 7, 7, 7, 7, 7, 7, 7, 7, 7, 7, 7, 7, 7, 7, 7, 7, 7, 7, 7, 7, 7, 7, 7, 7, 7, 7, 7, 7, 7, 7, 7, 7, 7, 7, 7, 7, 7, 7, 7, 7, 7, 7, 7, 7, 7, 7, 7, 7, 7, 7, 7, 7, 7, 8, 8, 8, 8, 8, 8, 8, 8, 8, 8, 8, 8, 8, 8, 8, 8, 8, 8, 8, 8, 8, 8, 8, 8, 8, 8, 8, 8, 8, 8, 8, 8, 8, 8, 8, 8, 8, 8, 8, 8, 8, 8, 8, 8, 8, 8, 8, 8, 8, 8, 8, 8, 8, 8, 8, 8, 8, 8, 8, 8, 8, 8, 8, 8, 8, 8, 8, 8, 8, 8, 8, 8, 8, 8, 8, 8, 8, 8, 8, 8, 8, 8, 8, 8, 8, 8, 8, 8, 8, 8, 8, 8, 8, 8, 8, 8, 8, 8, 8, 8, 8, 8, 8, 8, 8, 8, 8, 8, 8, 8, 8, 8, 8, 8, 8, 8, 8, 8, 8, 8, 8, 8, 8, 8, 8, 8, 8, 8]⟩)) (.t 21)),
   iv 23 (.i2i .i64 (.t 22)),
   iv 24 (.bin .add (.t 19) (.t 23)),
   iv 2 (.mv (.t 24))])
 (.ret)))))
def F_math_bits_Len64 : AFn := ⟨25, C_math_bits_Len64, [.tmp 2]⟩
def C_i_strconv_bool2int : AC := .seq (.reg [iv 2 (.mv (.k (.int .i64 0)))])
 (.seq (.seq (.reg [iv 3 (.mv (.t 0))])
 (.cond (.t 3)
  (.seq (.reg [iv 2 (.mv (.k (.int .i64 1)))])
  (.ret))
  (.skip)))
 (.seq (.reg [iv 2 (.mv (.k (.int .i64 0)))])
 (.ret)))
def F_i_strconv_bool2int : AFn := ⟨4, C_i_strconv_bool2int, [.tmp 2]⟩
def C_i_strconv_isPowerOfTwo : AC := .seq (.reg [iv 2 (.mv (.k (.bool false)))])
 (.seq (.reg [iv 3 (.mv (.t 0)),
   iv 4 (.mv (.t 0)),
   iv 5 (.bin .sub (.t 4) (.k (.int .i64 1))),
   iv 6 (.bin .and (.t 3) (.t 5)),
   iv 7 (.bin .eql (.t 6) (.k (.int .i64 0))),
   iv 2 (.mv (.t 7))])
 (.ret))
def F_i_strconv_isPowerOfTwo : AFn := ⟨8, C_i_strconv_isPowerOfTwo, [.tmp 2]⟩
def C_math_bits_TrailingZeros : AC := .seq (.reg [iv 2 (.mv (.k (.int .i64 0)))])
 (.seq (.cond (.k (.bool false))
  (.seq (.reg [iv 3 (.mv (.t 0)),
    iv 4 (.i2i .u32 (.t 3)),
    ir 5 (.call i_math_bits_TrailingZeros32 [.t 4]),
    iv 2 (.mv (.t 5))])
  (.ret))
  (.skip))
 (.seq (.reg [iv 6 (.mv (.t 0)),
   ir 7 (.call i_math_bits_TrailingZeros64 [.t 6]),
   iv 2 (.mv (.t 7))])
 (.ret)))
def F_math_bits_TrailingZeros : AFn := ⟨8, C_math_bits_TrailingZeros, [.tmp 2]⟩
def fnsT : FuncId → Option AFn
  | 2 => some F_gosem_cut_init
  | 3 => some F_avouchlaw14zTagTells
  | 4 => some F_avouchlaw14zTagUnlike
  | 5 => some F_avouchlaw19zScriptTexts
  | 6 => some F_avouchlaw19zScriptTells
  | 7 => some F_avouchlaw19zScriptReads
  | 8 => some F_avouchlaw14zspeaks
  | 9 => some F_tag_Tag
  | 10 => some F_avouchlaw13zOfs
  | 11 => some F_avouchref14zTag
  | 12 => some F_avouchref13zSerialise
  | 13 => some F_avouchref13zSame
  | 14 => some F_digest_Sum
  | 15 => some F_avouchlaw19zspeaks
  | 16 => some F_script_Text
  | 17 => some F_avouchref19zText
  | 18 => some F_script_Encode
  | 19 => some F_avouchlaw19zOf
  | 20 => some F_avouchref19zEncode
  | 22 => some F_avouchlaw19zis
  | 23 => some F_avouchref19zDecode
  | 24 => some F_pattern_Serialise
  | 25 => some F_avouchlaw12zOf
  | 26 => some F_avouchref07zSum
  | 27 => some F_avouchref12zEncode
  | 28 => some F_digest_Hash_Write
  | 29 => some F_digest_Hash_Sum
  | 30 => some F_strings_Builder_WriteString
  | 31 => some F_strconv_Itoa
  | 32 => some F_strings_Builder_WriteByte
  | 34 => some F_avouchref19zdecimal
  | 35 => some F_avouchref19zdigit
  | 36 => some F_slices_ContainsFuncscript_Call_script_Call
  | 37 => some F_script_Encode_1
  | 38 => some F_script_Call_bare
  | 39 => some F_script_two
  | 40 => some F_avouchref19zin
  | 41 => some F_avouchref12zNumber
  | 42 => some F_avouchref19zright
  | 44 => some F_script_reader_number
  | 46 => some F_avouchref19zSame
  | 47 => some F_avouchref19zpair
  | 48 => some F_item_Encode
  | 49 => some F_avouchref07zPad
  | 50 => some F_avouchref07zxor
  | 51 => some F_avouchref06zBytes
  | 52 => some F_avouchref06zPermute
  | 53 => some F_avouchref06zOfBytes
  | 54 => some F_avouchref12zCheck
  | 55 => some F_digest_Hash_put
  | 56 => some F_keccak_State_Permute
  | 57 => some F_keccak_State_Bytes
  | 59 => some F_i_strconv_Itoa
  | 60 => some F_slices_IndexFuncscript_Call_script_Call
  | 61 => some F_slices_Clonescript_reader_byte
  | 62 => some F_item_Check
  | 63 => some F_item_number
  | 64 => some F_avouchref06zOfWords
  | 65 => some F_avouchref06zRound
  | 66 => some F_avouchref06zWords
  | 67 => some F_keccak_State_Round
  | 68 => some F_limb_Bytes
  | 70 => some F_i_strconv_FormatInt
  | 71 => some F_item_types
  | 72 => some F_slices_Containsint_int
  | 73 => some F_avouchref06zchi
  | 74 => some F_avouchref06zpi
  | 75 => some F_avouchref06zrho
  | 76 => some F_avouchref06ztheta
  | 77 => some F_avouchref06zConstant
  | 78 => some F_keccak_State_theta
  | 79 => some F_keccak_State_rhoPi
  | 80 => some F_keccak_State_chi
  | 81 => some F_keccak_Constant
  | 82 => some F_i_strconv_small
  | 86 => some F_slices_Indexint_int
  | 87 => some F_avouchref06zrc
  | 88 => some F_math_bits_RotateLeft64
  | 89 => some F_i_strconv_log10Pow2
  | 90 => some F_math_bits_Len64
  | 91 => some F_i_strconv_bool2int
  | 92 => some F_i_strconv_isPowerOfTwo
  | 93 => some F_math_bits_TrailingZeros
  | _ => none
def modeT : FuncId → Av.Mode
  | 28 => ⟨false, false, false, false⟩
  | 39 => ⟨false, false, false, true⟩
  | 41 => ⟨true, true, false, true⟩
  | 51 => ⟨false, false, true, false⟩
  | 55 => ⟨false, false, false, false⟩
  | 63 => ⟨false, false, false, true⟩
  | 68 => ⟨true, false, false, false⟩
  | _ => Mode.pure
def globT : Nat → Option (List AVal)
  | 0 => some ([.int .u64 1, .int .u64 32898, .int .u64 9223372036854808714, .int .u64 9223372039002292224, .int .u64 32907, .int .u64 2147483649, .int .u64 9223372039002292353, .int .u64 9223372036854808585, .int .u64 138, .int .u64 136, .int .u64 2147516425, .int .u64 2147483658, .int .u64 2147516555, .int .u64 9223372036854775947, .int .u64 9223372036854808713, .int .u64 9223372036854808579, .int .u64 9223372036854808578, .int .u64 9223372036854775936, .int .u64 32778, .int .u64 9223372039002259466, .int .u64 9223372039002292353, .int .u64 9223372036854808704, .int .u64 2147483649, .int .u64 9223372039002292232])
  | _ => none
def ctx : Ctx := { fns := fnsT, mode := modeT, glob := globT, meth := fun _ _ => none, ext := fun _ => none }
theorem call_gosem_cut_init (L : Lim) (args : List AVal) (h : AHeap) : acall ctx L i_gosem_cut_init args h = callR ctx L Mode.pure h 1 C_gosem_cut_init [] (argsA Mode.pure h args) := acall_at h L (f := i_gosem_cut_init) rfl rfl args
@[simp] theorem quiet_gosem_cut_init : quietMode ctx i_gosem_cut_init = true := rfl
theorem call_avouchlaw14zTagTells (L : Lim) (args : List AVal) (h : AHeap) : acall ctx L i_avouchlaw14zTagTells args h = callR ctx L Mode.pure h 62 C_avouchlaw14zTagTells [.tmp 4] (argsA Mode.pure h args) := acall_at h L (f := i_avouchlaw14zTagTells) rfl rfl args
@[simp] theorem quiet_avouchlaw14zTagTells : quietMode ctx i_avouchlaw14zTagTells = true := rfl
theorem call_avouchlaw14zTagUnlike (L : Lim) (args : List AVal) (h : AHeap) : acall ctx L i_avouchlaw14zTagUnlike args h = callR ctx L Mode.pure h 116 C_avouchlaw14zTagUnlike [.tmp 8] (argsA Mode.pure h args) := acall_at h L (f := i_avouchlaw14zTagUnlike) rfl rfl args
@[simp] theorem quiet_avouchlaw14zTagUnlike : quietMode ctx i_avouchlaw14zTagUnlike = true := rfl
theorem call_avouchlaw19zScriptTexts (L : Lim) (args : List AVal) (h : AHeap) : acall ctx L i_avouchlaw19zScriptTexts args h = callR ctx L Mode.pure h 38 C_avouchlaw19zScriptTexts [.tmp 2] (argsA Mode.pure h args) := acall_at h L (f := i_avouchlaw19zScriptTexts) rfl rfl args
@[simp] theorem quiet_avouchlaw19zScriptTexts : quietMode ctx i_avouchlaw19zScriptTexts = true := rfl
theorem call_avouchlaw19zScriptTells (L : Lim) (args : List AVal) (h : AHeap) : acall ctx L i_avouchlaw19zScriptTells args h = callR ctx L Mode.pure h 73 C_avouchlaw19zScriptTells [.tmp 2] (argsA Mode.pure h args) := acall_at h L (f := i_avouchlaw19zScriptTells) rfl rfl args
@[simp] theorem quiet_avouchlaw19zScriptTells : quietMode ctx i_avouchlaw19zScriptTells = true := rfl
theorem call_avouchlaw19zScriptReads (L : Lim) (args : List AVal) (h : AHeap) : acall ctx L i_avouchlaw19zScriptReads args h = callR ctx L Mode.pure h 52 C_avouchlaw19zScriptReads [.tmp 2] (argsA Mode.pure h args) := acall_at h L (f := i_avouchlaw19zScriptReads) rfl rfl args
@[simp] theorem quiet_avouchlaw19zScriptReads : quietMode ctx i_avouchlaw19zScriptReads = true := rfl
theorem call_avouchlaw14zspeaks (L : Lim) (args : List AVal) (h : AHeap) : acall ctx L i_avouchlaw14zspeaks args h = callR ctx L Mode.pure h 30 C_avouchlaw14zspeaks [.tmp 0] (argsA Mode.pure h args) := acall_at h L (f := i_avouchlaw14zspeaks) rfl rfl args
@[simp] theorem quiet_avouchlaw14zspeaks : quietMode ctx i_avouchlaw14zspeaks = true := rfl
theorem call_tag_Tag (L : Lim) (args : List AVal) (h : AHeap) : acall ctx L i_tag_Tag args h = callR ctx L Mode.pure h 36 C_tag_Tag [.cell 4 32 true, .tmp 5, .tmp 6] (argsA Mode.pure h args) := acall_at h L (f := i_tag_Tag) rfl rfl args
@[simp] theorem quiet_tag_Tag : quietMode ctx i_tag_Tag = true := rfl
theorem call_avouchlaw13zOfs (L : Lim) (args : List AVal) (h : AHeap) : acall ctx L i_avouchlaw13zOfs args h = callR ctx L Mode.pure h 19 C_avouchlaw13zOfs [.tmp 2] (argsA Mode.pure h args) := acall_at h L (f := i_avouchlaw13zOfs) rfl rfl args
@[simp] theorem quiet_avouchlaw13zOfs : quietMode ctx i_avouchlaw13zOfs = true := rfl
theorem call_avouchref14zTag (L : Lim) (args : List AVal) (h : AHeap) : acall ctx L i_avouchref14zTag args h = callR ctx L Mode.pure h 41 C_avouchref14zTag [.tmp 4, .tmp 5, .tmp 6] (argsA Mode.pure h args) := acall_at h L (f := i_avouchref14zTag) rfl rfl args
@[simp] theorem quiet_avouchref14zTag : quietMode ctx i_avouchref14zTag = true := rfl
theorem call_avouchref13zSerialise (L : Lim) (args : List AVal) (h : AHeap) : acall ctx L i_avouchref13zSerialise args h = callR ctx L Mode.pure h 35 C_avouchref13zSerialise [.tmp 2, .tmp 3, .tmp 4] (argsA Mode.pure h args) := acall_at h L (f := i_avouchref13zSerialise) rfl rfl args
@[simp] theorem quiet_avouchref13zSerialise : quietMode ctx i_avouchref13zSerialise = true := rfl
theorem call_avouchref13zSame (L : Lim) (args : List AVal) (h : AHeap) : acall ctx L i_avouchref13zSame args h = callR ctx L Mode.pure h 26 C_avouchref13zSame [.tmp 4] (argsA Mode.pure h args) := acall_at h L (f := i_avouchref13zSame) rfl rfl args
@[simp] theorem quiet_avouchref13zSame : quietMode ctx i_avouchref13zSame = true := rfl
theorem call_digest_Sum (L : Lim) (args : List AVal) (h : AHeap) : acall ctx L i_digest_Sum args h = callR ctx L Mode.pure h 16 C_digest_Sum [.cell 2 32 true] (argsA Mode.pure h args) := acall_at h L (f := i_digest_Sum) rfl rfl args
@[simp] theorem quiet_digest_Sum : quietMode ctx i_digest_Sum = true := rfl
theorem call_avouchlaw19zspeaks (L : Lim) (args : List AVal) (h : AHeap) : acall ctx L i_avouchlaw19zspeaks args h = callR ctx L Mode.pure h 6 C_avouchlaw19zspeaks [.tmp 0] (argsA Mode.pure h args) := acall_at h L (f := i_avouchlaw19zspeaks) rfl rfl args
@[simp] theorem quiet_avouchlaw19zspeaks : quietMode ctx i_avouchlaw19zspeaks = true := rfl
theorem call_script_Text (L : Lim) (args : List AVal) (h : AHeap) : acall ctx L i_script_Text args h = callR ctx L Mode.pure h 42 C_script_Text [.tmp 2] (argsA Mode.pure h args) := acall_at h L (f := i_script_Text) rfl rfl args
@[simp] theorem quiet_script_Text : quietMode ctx i_script_Text = true := rfl
theorem call_avouchref19zText (L : Lim) (args : List AVal) (h : AHeap) : acall ctx L i_avouchref19zText args h = callR ctx L Mode.pure h 62 C_avouchref19zText [.tmp 2] (argsA Mode.pure h args) := acall_at h L (f := i_avouchref19zText) rfl rfl args
@[simp] theorem quiet_avouchref19zText : quietMode ctx i_avouchref19zText = true := rfl
theorem call_script_Encode (L : Lim) (args : List AVal) (h : AHeap) : acall ctx L i_script_Encode args h = callR ctx L Mode.pure h 80 C_script_Encode [.tmp 2, .tmp 3] (argsA Mode.pure h args) := acall_at h L (f := i_script_Encode) rfl rfl args
@[simp] theorem quiet_script_Encode : quietMode ctx i_script_Encode = true := rfl
theorem call_avouchlaw19zOf (L : Lim) (args : List AVal) (h : AHeap) : acall ctx L i_avouchlaw19zOf args h = callR ctx L Mode.pure h 34 C_avouchlaw19zOf [.cell 2 3 true] (argsA Mode.pure h args) := acall_at h L (f := i_avouchlaw19zOf) rfl rfl args
@[simp] theorem quiet_avouchlaw19zOf : quietMode ctx i_avouchlaw19zOf = true := rfl
theorem call_avouchref19zEncode (L : Lim) (args : List AVal) (h : AHeap) : acall ctx L i_avouchref19zEncode args h = callR ctx L Mode.pure h 85 C_avouchref19zEncode [.tmp 2, .tmp 3] (argsA Mode.pure h args) := acall_at h L (f := i_avouchref19zEncode) rfl rfl args
@[simp] theorem quiet_avouchref19zEncode : quietMode ctx i_avouchref19zEncode = true := rfl
theorem call_avouchlaw19zis (L : Lim) (args : List AVal) (h : AHeap) : acall ctx L i_avouchlaw19zis args h = callR ctx L Mode.pure h 49 C_avouchlaw19zis [.tmp 4] (argsA Mode.pure h args) := acall_at h L (f := i_avouchlaw19zis) rfl rfl args
@[simp] theorem quiet_avouchlaw19zis : quietMode ctx i_avouchlaw19zis = true := rfl
theorem call_avouchref19zDecode (L : Lim) (args : List AVal) (h : AHeap) : acall ctx L i_avouchref19zDecode args h = callR ctx L Mode.pure h 118 C_avouchref19zDecode [.cell 2 3 true, .tmp 3] (argsA Mode.pure h args) := acall_at h L (f := i_avouchref19zDecode) rfl rfl args
@[simp] theorem quiet_avouchref19zDecode : quietMode ctx i_avouchref19zDecode = true := rfl
theorem call_pattern_Serialise (L : Lim) (args : List AVal) (h : AHeap) : acall ctx L i_pattern_Serialise args h = callR ctx L Mode.pure h 34 C_pattern_Serialise [.tmp 2, .tmp 3, .tmp 4] (argsA Mode.pure h args) := acall_at h L (f := i_pattern_Serialise) rfl rfl args
@[simp] theorem quiet_pattern_Serialise : quietMode ctx i_pattern_Serialise = true := rfl
theorem call_avouchlaw12zOf (L : Lim) (args : List AVal) (h : AHeap) : acall ctx L i_avouchlaw12zOf args h = callR ctx L Mode.pure h 12 C_avouchlaw12zOf [.cell 2 4 true] (argsA Mode.pure h args) := acall_at h L (f := i_avouchlaw12zOf) rfl rfl args
@[simp] theorem quiet_avouchlaw12zOf : quietMode ctx i_avouchlaw12zOf = true := rfl
theorem call_avouchref07zSum (L : Lim) (args : List AVal) (h : AHeap) : acall ctx L i_avouchref07zSum args h = callR ctx L Mode.pure h 40 C_avouchref07zSum [.tmp 2] (argsA Mode.pure h args) := acall_at h L (f := i_avouchref07zSum) rfl rfl args
@[simp] theorem quiet_avouchref07zSum : quietMode ctx i_avouchref07zSum = true := rfl
theorem call_avouchref12zEncode (L : Lim) (args : List AVal) (h : AHeap) : acall ctx L i_avouchref12zEncode args h = callR ctx L Mode.pure h 33 C_avouchref12zEncode [.tmp 2, .tmp 3] (argsA Mode.pure h args) := acall_at h L (f := i_avouchref12zEncode) rfl rfl args
@[simp] theorem quiet_avouchref12zEncode : quietMode ctx i_avouchref12zEncode = true := rfl
theorem call_digest_Hash_Write (L : Lim) (args : List AVal) (h : AHeap) : acall ctx L i_digest_Hash_Write args h = callR ctx L ⟨false, false, false, false⟩ h 43 C_digest_Hash_Write [] (argsA ⟨false, false, false, false⟩ h args) := acall_at h L (f := i_digest_Hash_Write) rfl rfl args
@[simp] theorem quiet_digest_Hash_Write : quietMode ctx i_digest_Hash_Write = false := rfl
theorem call_digest_Hash_Sum (L : Lim) (args : List AVal) (h : AHeap) : acall ctx L i_digest_Hash_Sum args h = callR ctx L Mode.pure h 19 C_digest_Hash_Sum [.cell 2 32 true] (argsA Mode.pure h args) := acall_at h L (f := i_digest_Hash_Sum) rfl rfl args
@[simp] theorem quiet_digest_Hash_Sum : quietMode ctx i_digest_Hash_Sum = true := rfl
theorem call_strings_Builder_WriteString (L : Lim) (args : List AVal) (h : AHeap) : acall ctx L i_strings_Builder_WriteString args h = callR ctx L Mode.pure h 19 C_strings_Builder_WriteString [.tmp 4, .tmp 5] (argsA Mode.pure h args) := acall_at h L (f := i_strings_Builder_WriteString) rfl rfl args
@[simp] theorem quiet_strings_Builder_WriteString : quietMode ctx i_strings_Builder_WriteString = true := rfl
theorem call_strconv_Itoa (L : Lim) (args : List AVal) (h : AHeap) : acall ctx L i_strconv_Itoa args h = callR ctx L Mode.pure h 5 C_strconv_Itoa [.tmp 2] (argsA Mode.pure h args) := acall_at h L (f := i_strconv_Itoa) rfl rfl args
@[simp] theorem quiet_strconv_Itoa : quietMode ctx i_strconv_Itoa = true := rfl
theorem call_strings_Builder_WriteByte (L : Lim) (args : List AVal) (h : AHeap) : acall ctx L i_strings_Builder_WriteByte args h = callR ctx L Mode.pure h 17 C_strings_Builder_WriteByte [.tmp 4] (argsA Mode.pure h args) := acall_at h L (f := i_strings_Builder_WriteByte) rfl rfl args
@[simp] theorem quiet_strings_Builder_WriteByte : quietMode ctx i_strings_Builder_WriteByte = true := rfl
theorem call_avouchref19zdecimal (L : Lim) (args : List AVal) (h : AHeap) : acall ctx L i_avouchref19zdecimal args h = callR ctx L Mode.pure h 37 C_avouchref19zdecimal [.tmp 2] (argsA Mode.pure h args) := acall_at h L (f := i_avouchref19zdecimal) rfl rfl args
@[simp] theorem quiet_avouchref19zdecimal : quietMode ctx i_avouchref19zdecimal = true := rfl
theorem call_avouchref19zdigit (L : Lim) (args : List AVal) (h : AHeap) : acall ctx L i_avouchref19zdigit args h = callR ctx L Mode.pure h 11 C_avouchref19zdigit [.tmp 2] (argsA Mode.pure h args) := acall_at h L (f := i_avouchref19zdigit) rfl rfl args
@[simp] theorem quiet_avouchref19zdigit : quietMode ctx i_avouchref19zdigit = true := rfl
theorem call_slices_ContainsFuncscript_Call_script_Call (L : Lim) (args : List AVal) (h : AHeap) : acall ctx L i_slices_ContainsFuncscript_Call_script_Call args h = callR ctx L Mode.pure h 9 C_slices_ContainsFuncscript_Call_script_Call [.tmp 4] (argsA Mode.pure h args) := acall_at h L (f := i_slices_ContainsFuncscript_Call_script_Call) rfl rfl args
@[simp] theorem quiet_slices_ContainsFuncscript_Call_script_Call : quietMode ctx i_slices_ContainsFuncscript_Call_script_Call = true := rfl
theorem call_script_Encode_1 (L : Lim) (args : List AVal) (h : AHeap) : acall ctx L i_script_Encode_1 args h = callR ctx L Mode.pure h 6 C_script_Encode_1 [.tmp 2] (argsA Mode.pure h args) := acall_at h L (f := i_script_Encode_1) rfl rfl args
@[simp] theorem quiet_script_Encode_1 : quietMode ctx i_script_Encode_1 = true := rfl
theorem call_script_Call_bare (L : Lim) (args : List AVal) (h : AHeap) : acall ctx L i_script_Call_bare args h = callR ctx L Mode.pure h 51 C_script_Call_bare [.tmp 2] (argsA Mode.pure h args) := acall_at h L (f := i_script_Call_bare) rfl rfl args
@[simp] theorem quiet_script_Call_bare : quietMode ctx i_script_Call_bare = true := rfl
theorem call_script_two (L : Lim) (args : List AVal) (h : AHeap) : acall ctx L i_script_two args h = callR ctx L ⟨false, false, false, true⟩ h 13 C_script_two [.tmp 4] (argsA ⟨false, false, false, true⟩ h args) := acall_at h L (f := i_script_two) rfl rfl args
@[simp] theorem quiet_script_two : quietMode ctx i_script_two = false := rfl
theorem call_avouchref19zin (L : Lim) (args : List AVal) (h : AHeap) : acall ctx L i_avouchref19zin args h = callR ctx L Mode.pure h 12 C_avouchref19zin [.tmp 4] (argsA Mode.pure h args) := acall_at h L (f := i_avouchref19zin) rfl rfl args
@[simp] theorem quiet_avouchref19zin : quietMode ctx i_avouchref19zin = true := rfl
theorem call_avouchref12zNumber (L : Lim) (args : List AVal) (h : AHeap) : acall ctx L i_avouchref12zNumber args h = callR ctx L ⟨true, true, false, true⟩ h 22 C_avouchref12zNumber [.tmp 4] (argsA ⟨true, true, false, true⟩ h args) := acall_at h L (f := i_avouchref12zNumber) rfl rfl args
@[simp] theorem quiet_avouchref12zNumber : quietMode ctx i_avouchref12zNumber = false := rfl
theorem call_avouchref19zright (L : Lim) (args : List AVal) (h : AHeap) : acall ctx L i_avouchref19zright args h = callR ctx L Mode.pure h 55 C_avouchref19zright [.tmp 2] (argsA Mode.pure h args) := acall_at h L (f := i_avouchref19zright) rfl rfl args
@[simp] theorem quiet_avouchref19zright : quietMode ctx i_avouchref19zright = true := rfl
theorem call_script_reader_number (L : Lim) (args : List AVal) (h : AHeap) : acall ctx L i_script_reader_number args h = callR ctx L Mode.pure h 26 C_script_reader_number [.tmp 4] (argsA Mode.pure h args) := acall_at h L (f := i_script_reader_number) rfl rfl args
@[simp] theorem quiet_script_reader_number : quietMode ctx i_script_reader_number = true := rfl
theorem call_avouchref19zSame (L : Lim) (args : List AVal) (h : AHeap) : acall ctx L i_avouchref19zSame args h = callR ctx L Mode.pure h 69 C_avouchref19zSame [.tmp 4] (argsA Mode.pure h args) := acall_at h L (f := i_avouchref19zSame) rfl rfl args
@[simp] theorem quiet_avouchref19zSame : quietMode ctx i_avouchref19zSame = true := rfl
theorem call_avouchref19zpair (L : Lim) (args : List AVal) (h : AHeap) : acall ctx L i_avouchref19zpair args h = callR ctx L Mode.pure h 23 C_avouchref19zpair [.tmp 4] (argsA Mode.pure h args) := acall_at h L (f := i_avouchref19zpair) rfl rfl args
@[simp] theorem quiet_avouchref19zpair : quietMode ctx i_avouchref19zpair = true := rfl
theorem call_item_Encode (L : Lim) (args : List AVal) (h : AHeap) : acall ctx L i_item_Encode args h = callR ctx L Mode.pure h 29 C_item_Encode [.tmp 2, .tmp 3] (argsA Mode.pure h args) := acall_at h L (f := i_item_Encode) rfl rfl args
@[simp] theorem quiet_item_Encode : quietMode ctx i_item_Encode = true := rfl
theorem call_avouchref07zPad (L : Lim) (args : List AVal) (h : AHeap) : acall ctx L i_avouchref07zPad args h = callR ctx L Mode.pure h 29 C_avouchref07zPad [.tmp 2] (argsA Mode.pure h args) := acall_at h L (f := i_avouchref07zPad) rfl rfl args
@[simp] theorem quiet_avouchref07zPad : quietMode ctx i_avouchref07zPad = true := rfl
theorem call_avouchref07zxor (L : Lim) (args : List AVal) (h : AHeap) : acall ctx L i_avouchref07zxor args h = callR ctx L Mode.pure h 34 C_avouchref07zxor [.tmp 4] (argsA Mode.pure h args) := acall_at h L (f := i_avouchref07zxor) rfl rfl args
@[simp] theorem quiet_avouchref07zxor : quietMode ctx i_avouchref07zxor = true := rfl
theorem call_avouchref06zBytes (L : Lim) (args : List AVal) (h : AHeap) : acall ctx L i_avouchref06zBytes args h = callR ctx L ⟨false, false, true, false⟩ h 28 C_avouchref06zBytes [.tmp 2] (argsA ⟨false, false, true, false⟩ h args) := acall_at h L (f := i_avouchref06zBytes) rfl rfl args
@[simp] theorem quiet_avouchref06zBytes : quietMode ctx i_avouchref06zBytes = false := rfl
theorem call_avouchref06zPermute (L : Lim) (args : List AVal) (h : AHeap) : acall ctx L i_avouchref06zPermute args h = callR ctx L Mode.pure h 16 C_avouchref06zPermute [.cell 2 25 true] (argsA Mode.pure h args) := acall_at h L (f := i_avouchref06zPermute) rfl rfl args
@[simp] theorem quiet_avouchref06zPermute : quietMode ctx i_avouchref06zPermute = true := rfl
theorem call_avouchref06zOfBytes (L : Lim) (args : List AVal) (h : AHeap) : acall ctx L i_avouchref06zOfBytes args h = callR ctx L Mode.pure h 28 C_avouchref06zOfBytes [.cell 2 25 true] (argsA Mode.pure h args) := acall_at h L (f := i_avouchref06zOfBytes) rfl rfl args
@[simp] theorem quiet_avouchref06zOfBytes : quietMode ctx i_avouchref06zOfBytes = true := rfl
theorem call_avouchref12zCheck (L : Lim) (args : List AVal) (h : AHeap) : acall ctx L i_avouchref12zCheck args h = callR ctx L Mode.pure h 71 C_avouchref12zCheck [.tmp 2] (argsA Mode.pure h args) := acall_at h L (f := i_avouchref12zCheck) rfl rfl args
@[simp] theorem quiet_avouchref12zCheck : quietMode ctx i_avouchref12zCheck = true := rfl
theorem call_digest_Hash_put (L : Lim) (args : List AVal) (h : AHeap) : acall ctx L i_digest_Hash_put args h = callR ctx L ⟨false, false, false, false⟩ h 23 C_digest_Hash_put [] (argsA ⟨false, false, false, false⟩ h args) := acall_at h L (f := i_digest_Hash_put) rfl rfl args
@[simp] theorem quiet_digest_Hash_put : quietMode ctx i_digest_Hash_put = false := rfl
theorem call_keccak_State_Permute (L : Lim) (args : List AVal) (h : AHeap) : acall ctx L i_keccak_State_Permute args h = callR ctx L Mode.pure h 12 C_keccak_State_Permute [.cell 2 25 true] (argsA Mode.pure h args) := acall_at h L (f := i_keccak_State_Permute) rfl rfl args
@[simp] theorem quiet_keccak_State_Permute : quietMode ctx i_keccak_State_Permute = true := rfl
theorem call_keccak_State_Bytes (L : Lim) (args : List AVal) (h : AHeap) : acall ctx L i_keccak_State_Bytes args h = callR ctx L Mode.pure h 7 C_keccak_State_Bytes [.cell 2 200 true] (argsA Mode.pure h args) := acall_at h L (f := i_keccak_State_Bytes) rfl rfl args
@[simp] theorem quiet_keccak_State_Bytes : quietMode ctx i_keccak_State_Bytes = true := rfl
theorem call_i_strconv_Itoa (L : Lim) (args : List AVal) (h : AHeap) : acall ctx L i_i_strconv_Itoa args h = callR ctx L Mode.pure h 5 C_i_strconv_Itoa [.tmp 2] (argsA Mode.pure h args) := acall_at h L (f := i_i_strconv_Itoa) rfl rfl args
@[simp] theorem quiet_i_strconv_Itoa : quietMode ctx i_i_strconv_Itoa = true := rfl
theorem call_slices_IndexFuncscript_Call_script_Call (L : Lim) (args : List AVal) (h : AHeap) : acall ctx L i_slices_IndexFuncscript_Call_script_Call args h = callR ctx L Mode.pure h 19 C_slices_IndexFuncscript_Call_script_Call [.tmp 4] (argsA Mode.pure h args) := acall_at h L (f := i_slices_IndexFuncscript_Call_script_Call) rfl rfl args
@[simp] theorem quiet_slices_IndexFuncscript_Call_script_Call : quietMode ctx i_slices_IndexFuncscript_Call_script_Call = true := rfl
theorem call_slices_Clonescript_reader_byte (L : Lim) (args : List AVal) (h : AHeap) : acall ctx L i_slices_Clonescript_reader_byte args h = callR ctx L Mode.pure h 8 C_slices_Clonescript_reader_byte [.tmp 2] (argsA Mode.pure h args) := acall_at h L (f := i_slices_Clonescript_reader_byte) rfl rfl args
@[simp] theorem quiet_slices_Clonescript_reader_byte : quietMode ctx i_slices_Clonescript_reader_byte = true := rfl
theorem call_item_Check (L : Lim) (args : List AVal) (h : AHeap) : acall ctx L i_item_Check args h = callR ctx L Mode.pure h 36 C_item_Check [.tmp 2] (argsA Mode.pure h args) := acall_at h L (f := i_item_Check) rfl rfl args
@[simp] theorem quiet_item_Check : quietMode ctx i_item_Check = true := rfl
theorem call_item_number (L : Lim) (args : List AVal) (h : AHeap) : acall ctx L i_item_number args h = callR ctx L ⟨false, false, false, true⟩ h 22 C_item_number [.tmp 6] (argsA ⟨false, false, false, true⟩ h args) := acall_at h L (f := i_item_number) rfl rfl args
@[simp] theorem quiet_item_number : quietMode ctx i_item_number = false := rfl
theorem call_avouchref06zOfWords (L : Lim) (args : List AVal) (h : AHeap) : acall ctx L i_avouchref06zOfWords args h = callR ctx L Mode.pure h 33 C_avouchref06zOfWords [.cell 2 1600 true] (argsA Mode.pure h args) := acall_at h L (f := i_avouchref06zOfWords) rfl rfl args
@[simp] theorem quiet_avouchref06zOfWords : quietMode ctx i_avouchref06zOfWords = true := rfl
theorem call_avouchref06zRound (L : Lim) (args : List AVal) (h : AHeap) : acall ctx L i_avouchref06zRound args h = callR ctx L Mode.pure h 32 C_avouchref06zRound [.cell 4 1600 true] (argsA Mode.pure h args) := acall_at h L (f := i_avouchref06zRound) rfl rfl args
@[simp] theorem quiet_avouchref06zRound : quietMode ctx i_avouchref06zRound = true := rfl
theorem call_avouchref06zWords (L : Lim) (args : List AVal) (h : AHeap) : acall ctx L i_avouchref06zWords args h = callR ctx L Mode.pure h 33 C_avouchref06zWords [.cell 2 25 true] (argsA Mode.pure h args) := acall_at h L (f := i_avouchref06zWords) rfl rfl args
@[simp] theorem quiet_avouchref06zWords : quietMode ctx i_avouchref06zWords = true := rfl
theorem call_keccak_State_Round (L : Lim) (args : List AVal) (h : AHeap) : acall ctx L i_keccak_State_Round args h = callR ctx L Mode.pure h 16 C_keccak_State_Round [.cell 4 25 true] (argsA Mode.pure h args) := acall_at h L (f := i_keccak_State_Round) rfl rfl args
@[simp] theorem quiet_keccak_State_Round : quietMode ctx i_keccak_State_Round = true := rfl
theorem call_limb_Bytes (L : Lim) (args : List AVal) (h : AHeap) : acall ctx L i_limb_Bytes args h = callR ctx L ⟨true, false, false, false⟩ h 24 C_limb_Bytes [.tmp 2] (argsA ⟨true, false, false, false⟩ h args) := acall_at h L (f := i_limb_Bytes) rfl rfl args
@[simp] theorem quiet_limb_Bytes : quietMode ctx i_limb_Bytes = true := rfl
theorem call_i_strconv_FormatInt (L : Lim) (args : List AVal) (h : AHeap) : acall ctx L i_i_strconv_FormatInt args h = callR ctx L Mode.pure h 54 C_i_strconv_FormatInt [.tmp 4] (argsA Mode.pure h args) := acall_at h L (f := i_i_strconv_FormatInt) rfl rfl args
@[simp] theorem quiet_i_strconv_FormatInt : quietMode ctx i_i_strconv_FormatInt = true := rfl
theorem call_item_types (L : Lim) (args : List AVal) (h : AHeap) : acall ctx L i_item_types args h = callR ctx L Mode.pure h 14 C_item_types [.tmp 2, .tmp 3] (argsA Mode.pure h args) := acall_at h L (f := i_item_types) rfl rfl args
@[simp] theorem quiet_item_types : quietMode ctx i_item_types = true := rfl
theorem call_slices_Containsint_int (L : Lim) (args : List AVal) (h : AHeap) : acall ctx L i_slices_Containsint_int args h = callR ctx L Mode.pure h 9 C_slices_Containsint_int [.tmp 4] (argsA Mode.pure h args) := acall_at h L (f := i_slices_Containsint_int) rfl rfl args
@[simp] theorem quiet_slices_Containsint_int : quietMode ctx i_slices_Containsint_int = true := rfl
theorem call_avouchref06zchi (L : Lim) (args : List AVal) (h : AHeap) : acall ctx L i_avouchref06zchi args h = callR ctx L Mode.pure h 56 C_avouchref06zchi [.cell 2 1600 true] (argsA Mode.pure h args) := acall_at h L (f := i_avouchref06zchi) rfl rfl args
@[simp] theorem quiet_avouchref06zchi : quietMode ctx i_avouchref06zchi = true := rfl
theorem call_avouchref06zpi (L : Lim) (args : List AVal) (h : AHeap) : acall ctx L i_avouchref06zpi args h = callR ctx L Mode.pure h 30 C_avouchref06zpi [.cell 2 1600 true] (argsA Mode.pure h args) := acall_at h L (f := i_avouchref06zpi) rfl rfl args
@[simp] theorem quiet_avouchref06zpi : quietMode ctx i_avouchref06zpi = true := rfl
theorem call_avouchref06zrho (L : Lim) (args : List AVal) (h : AHeap) : acall ctx L i_avouchref06zrho args h = callR ctx L Mode.pure h 51 C_avouchref06zrho [.cell 2 1600 true] (argsA Mode.pure h args) := acall_at h L (f := i_avouchref06zrho) rfl rfl args
@[simp] theorem quiet_avouchref06zrho : quietMode ctx i_avouchref06zrho = true := rfl
theorem call_avouchref06ztheta (L : Lim) (args : List AVal) (h : AHeap) : acall ctx L i_avouchref06ztheta args h = callR ctx L Mode.pure h 88 C_avouchref06ztheta [.cell 2 1600 true] (argsA Mode.pure h args) := acall_at h L (f := i_avouchref06ztheta) rfl rfl args
@[simp] theorem quiet_avouchref06ztheta : quietMode ctx i_avouchref06ztheta = true := rfl
theorem call_avouchref06zConstant (L : Lim) (args : List AVal) (h : AHeap) : acall ctx L i_avouchref06zConstant args h = callR ctx L Mode.pure h 29 C_avouchref06zConstant [.cell 2 64 true] (argsA Mode.pure h args) := acall_at h L (f := i_avouchref06zConstant) rfl rfl args
@[simp] theorem quiet_avouchref06zConstant : quietMode ctx i_avouchref06zConstant = true := rfl
theorem call_keccak_State_theta (L : Lim) (args : List AVal) (h : AHeap) : acall ctx L i_keccak_State_theta args h = callR ctx L Mode.pure h 45 C_keccak_State_theta [.cell 2 25 true] (argsA Mode.pure h args) := acall_at h L (f := i_keccak_State_theta) rfl rfl args
@[simp] theorem quiet_keccak_State_theta : quietMode ctx i_keccak_State_theta = true := rfl
theorem call_keccak_State_rhoPi (L : Lim) (args : List AVal) (h : AHeap) : acall ctx L i_keccak_State_rhoPi args h = callR ctx L Mode.pure h 42 C_keccak_State_rhoPi [.cell 2 25 true] (argsA Mode.pure h args) := acall_at h L (f := i_keccak_State_rhoPi) rfl rfl args
@[simp] theorem quiet_keccak_State_rhoPi : quietMode ctx i_keccak_State_rhoPi = true := rfl
theorem call_keccak_State_chi (L : Lim) (args : List AVal) (h : AHeap) : acall ctx L i_keccak_State_chi args h = callR ctx L Mode.pure h 36 C_keccak_State_chi [.cell 2 25 true] (argsA Mode.pure h args) := acall_at h L (f := i_keccak_State_chi) rfl rfl args
@[simp] theorem quiet_keccak_State_chi : quietMode ctx i_keccak_State_chi = true := rfl
theorem call_keccak_Constant (L : Lim) (args : List AVal) (h : AHeap) : acall ctx L i_keccak_Constant args h = callR ctx L Mode.pure h 12 C_keccak_Constant [.tmp 2] (argsA Mode.pure h args) := acall_at h L (f := i_keccak_Constant) rfl rfl args
@[simp] theorem quiet_keccak_Constant : quietMode ctx i_keccak_Constant = true := rfl
theorem call_i_strconv_small (L : Lim) (args : List AVal) (h : AHeap) : acall ctx L i_i_strconv_small args h = callR ctx L Mode.pure h 15 C_i_strconv_small [.tmp 2] (argsA Mode.pure h args) := acall_at h L (f := i_i_strconv_small) rfl rfl args
@[simp] theorem quiet_i_strconv_small : quietMode ctx i_i_strconv_small = true := rfl
theorem call_slices_Indexint_int (L : Lim) (args : List AVal) (h : AHeap) : acall ctx L i_slices_Indexint_int args h = callR ctx L Mode.pure h 19 C_slices_Indexint_int [.tmp 4] (argsA Mode.pure h args) := acall_at h L (f := i_slices_Indexint_int) rfl rfl args
@[simp] theorem quiet_slices_Indexint_int : quietMode ctx i_slices_Indexint_int = true := rfl
theorem call_avouchref06zrc (L : Lim) (args : List AVal) (h : AHeap) : acall ctx L i_avouchref06zrc args h = callR ctx L Mode.pure h 39 C_avouchref06zrc [.tmp 2] (argsA Mode.pure h args) := acall_at h L (f := i_avouchref06zrc) rfl rfl args
@[simp] theorem quiet_avouchref06zrc : quietMode ctx i_avouchref06zrc = true := rfl
theorem call_math_bits_RotateLeft64 (L : Lim) (args : List AVal) (h : AHeap) : acall ctx L i_math_bits_RotateLeft64 args h = callR ctx L Mode.pure h 17 C_math_bits_RotateLeft64 [.tmp 4] (argsA Mode.pure h args) := acall_at h L (f := i_math_bits_RotateLeft64) rfl rfl args
@[simp] theorem quiet_math_bits_RotateLeft64 : quietMode ctx i_math_bits_RotateLeft64 = true := rfl
theorem call_i_strconv_log10Pow2 (L : Lim) (args : List AVal) (h : AHeap) : acall ctx L i_i_strconv_log10Pow2 args h = callR ctx L Mode.pure h 6 C_i_strconv_log10Pow2 [.tmp 2] (argsA Mode.pure h args) := acall_at h L (f := i_i_strconv_log10Pow2) rfl rfl args
@[simp] theorem quiet_i_strconv_log10Pow2 : quietMode ctx i_i_strconv_log10Pow2 = true := rfl
theorem call_math_bits_Len64 (L : Lim) (args : List AVal) (h : AHeap) : acall ctx L i_math_bits_Len64 args h = callR ctx L Mode.pure h 25 C_math_bits_Len64 [.tmp 2] (argsA Mode.pure h args) := acall_at h L (f := i_math_bits_Len64) rfl rfl args
@[simp] theorem quiet_math_bits_Len64 : quietMode ctx i_math_bits_Len64 = true := rfl
theorem call_i_strconv_bool2int (L : Lim) (args : List AVal) (h : AHeap) : acall ctx L i_i_strconv_bool2int args h = callR ctx L Mode.pure h 4 C_i_strconv_bool2int [.tmp 2] (argsA Mode.pure h args) := acall_at h L (f := i_i_strconv_bool2int) rfl rfl args
@[simp] theorem quiet_i_strconv_bool2int : quietMode ctx i_i_strconv_bool2int = true := rfl
theorem call_i_strconv_isPowerOfTwo (L : Lim) (args : List AVal) (h : AHeap) : acall ctx L i_i_strconv_isPowerOfTwo args h = callR ctx L Mode.pure h 8 C_i_strconv_isPowerOfTwo [.tmp 2] (argsA Mode.pure h args) := acall_at h L (f := i_i_strconv_isPowerOfTwo) rfl rfl args
@[simp] theorem quiet_i_strconv_isPowerOfTwo : quietMode ctx i_i_strconv_isPowerOfTwo = true := rfl
theorem call_math_bits_TrailingZeros (L : Lim) (args : List AVal) (h : AHeap) : acall ctx L i_math_bits_TrailingZeros args h = callR ctx L Mode.pure h 8 C_math_bits_TrailingZeros [.tmp 2] (argsA Mode.pure h args) := acall_at h L (f := i_math_bits_TrailingZeros) rfl rfl args
@[simp] theorem quiet_math_bits_TrailingZeros : quietMode ctx i_math_bits_TrailingZeros = true := rfl
end Go.Av
