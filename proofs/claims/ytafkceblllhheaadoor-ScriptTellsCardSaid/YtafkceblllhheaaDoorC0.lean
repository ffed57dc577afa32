/- The functions of the program as the machine's code, printed by a program of mine. -/
import Derived.Test.YtafkceblllhheaaDoorV6
namespace Go.Av
set_option maxRecDepth 100000
def i_main_main : FuncId := 0
def i_gosem_cut : FuncId := 1
def i_gosem_cut_init : FuncId := 2
def i_avouchlaw19zScriptTexts : FuncId := 3
def i_avouchlaw19zScriptTells : FuncId := 4
def i_avouchlaw19zScriptReads : FuncId := 5
def i_avouchlaw19zspeaks : FuncId := 6
def i_script_Text : FuncId := 7
def i_avouchref19zText : FuncId := 8
def i_script_Encode : FuncId := 9
def i_avouchlaw19zOf : FuncId := 10
def i_avouchref19zEncode : FuncId := 11
def i_script_Decode : FuncId := 12
def i_avouchlaw19zis : FuncId := 13
def i_avouchref19zDecode : FuncId := 14
def i_strings_Builder_WriteString : FuncId := 15
def i_strconv_Itoa : FuncId := 16
def i_strings_Builder_WriteByte : FuncId := 17
def i_strings_Builder_String : FuncId := 18
def i_avouchref19zdecimal : FuncId := 19
def i_avouchref19zdigit : FuncId := 20
def i_slices_ContainsFuncscript_Call_script_Call : FuncId := 21
def i_script_Encode_1 : FuncId := 22
def i_script_Call_bare : FuncId := 23
def i_script_two : FuncId := 24
def i_avouchref19zin : FuncId := 25
def i_avouchref12zNumber : FuncId := 26
def i_avouchref19zright : FuncId := 27
def i_script_Decode_1 : FuncId := 28
def i_script_reader_number : FuncId := 29
def i_script_reader_take : FuncId := 30
def i_avouchref19zSame : FuncId := 31
def i_avouchref19zpair : FuncId := 32
def i_strings_Builder_copyCheck : FuncId := 33
def i_i_strconv_Itoa : FuncId := 34
def i_slices_IndexFuncscript_Call_script_Call : FuncId := 35
def i_slices_Clonescript_reader_byte : FuncId := 36
def i_i_abi_NoEscape : FuncId := 37
def i_i_strconv_FormatInt : FuncId := 38
def i_i_strconv_small : FuncId := 39
def i_i_strconv_numDigits : FuncId := 40
def i_i_strconv_formatBase10 : FuncId := 41
def i_i_strconv_formatBits : FuncId := 42
def i_i_strconv_log10Pow2 : FuncId := 43
def i_math_bits_Len64 : FuncId := 44
def i_i_strconv_bool2int : FuncId := 45
def i_i_strconv_isPowerOfTwo : FuncId := 46
def i_math_bits_TrailingZeros : FuncId := 47
def i_math_bits_TrailingZeros32 : FuncId := 48
def i_math_bits_TrailingZeros64 : FuncId := 49
def i_runtime_boundsError_Error : FuncId := 50
def i_runtime_boundsError_RuntimeError : FuncId := 51
def i_runtime_errorString_Error : FuncId := 52
def i_runtime_errorString_RuntimeError : FuncId := 53
def i_runtime_plainError_Error : FuncId := 54
def i_runtime_plainError_RuntimeError : FuncId := 55
def i_runtime_errorAddressString_Error : FuncId := 56
def i_runtime_errorAddressString_RuntimeError : FuncId := 57
def i_runtime_TypeAssertionError_Error : FuncId := 58
def i_runtime_TypeAssertionError_RuntimeError : FuncId := 59
def i_runtime_PanicNilError_Error : FuncId := 60
def i_runtime_PanicNilError_RuntimeError : FuncId := 61
def i_i_abi_Type_Align : FuncId := 62
def i_i_runtime_maps_unhashableTypeError_Error : FuncId := 63
def i_i_runtime_maps_unhashableTypeError_RuntimeError : FuncId := 64
def i_strings_Builder_Reset : FuncId := 65
def i_i_abi_Kind_String : FuncId := 66
def i_var_s_door_gosem_cut_vars_holds_initialisers_alone_see_the_m : FuncId := 67
def i_var_s_door_i_strconv_uint64pow10zis_laid_by_its_own_initiali : FuncId := 68
def i_var_s_door_math_bits_deBruijn32tab_is_laid_by_its_own_initia : FuncId := 69
def i_var_s_door_math_bits_deBruijn64tab_is_laid_by_its_own_initia : FuncId := 70
def i_var_s_door_the_look_of_gosem_cut_vars_went_over_the_folder_t : FuncId := 71
def i_gosem_cut_vars : FuncId := 72
def txt_0 : ByteArray := ⟨#[48, 48, 48, 49, 48, 50, 48, 51, 48, 52, 48, 53, 48, 54, 48, 55, 48, 56, 48, 57, 49, 48, 49, 49, 49, 50, 49, 51, 49, 52, 49, 53, 49, 54, 49, 55, 49, 56, 49, 57, 50, 48, 50, 49, 50, 50, 50, 51, 50, 52, 50, 53, 50, 54, 50, 55, 50, 56, 50, 57, 51, 48, 51, 49, 51, 50, 51, 51, 51, 52, 51, 53, 51, 54, 51, 55, 51, 56, 51, 57, 52, 48, 52, 49, 52, 50, 52, 51, 52, 52, 52, 53, 52, 54, 52, 55, 52, 56, 52, 57, 53, 48, 53, 49, 53, 50, 53, 51, 53, 52, 53, 53, 53, 54, 53, 55, 53, 56, 53, 57, 54, 48, 54, 49, 54, 50, 54, 51, 54, 52, 54, 53, 54, 54, 54, 55, 54, 56, 54, 57, 55, 48, 55, 49, 55, 50, 55, 51, 55, 52, 55, 53, 55, 54, 55, 55, 55, 56, 55, 57, 56, 48, 56, 49, 56, 50, 56, 51, 56, 52, 56, 53, 56, 54, 56, 55, 56, 56, 56, 57, 57, 48, 57, 49, 57, 50, 57, 51, 57, 52, 57, 53, 57, 54, 57, 55, 57, 56, 57, 57]⟩
def txt_1 : ByteArray := ⟨#[0, 1, 2, 2, 3, 3, 3, 3, 4, 4, 4, 4, 4, 4, 4, 4, 5, 5, 5, 5, 5, 5, 5, 5, 5, 5, 5, 5, 5, 5, 5, 5, 6, 6, 6, 6, 6, 6, 6, 6, 6, 6, 6, 6, 6, 6, 6, 6, 6, 6, 6, 6, 6, 6, 6, 6, 6, 6, 6, 6, 6, 6, 6, 6, 7, 7, 7, 7, 7, 7, 7, 7, 7, 7, 7, 7, 7, 7, 7, 7, 7, 7, 7, 7, 7, 7, 7, 7, 7, 7, 7, 7, 7, 7, 7, 7, 7, 7, 7, 7, 7, 7, 7, 7, 7, 7, 7, 7, 7, 7, 7, 7, 7, 7, 7, 7, 7, 7, 7, 7, 7, 7, 7, 7, 7, 7, 7, 7, 8, 8, 8, 8, 8, 8, 8, 8, 8, 8, 8, 8, 8, 8, 8, 8, 8, 8, 8, 8, 8, 8, 8, 8, 8, 8, 8, 8, 8, 8, 8, 8, 8, 8, 8, 8, 8, 8, 8, 8, 8, 8, 8, 8, 8, 8, 8, 8, 8, 8, 8, 8, 8, 8, 8, 8, 8, 8, 8, 8, 8, 8, 8, 8, 8, 8, 8, 8, 8, 8, 8, 8, 8, 8, 8, 8, 8, 8, 8, 8, 8, 8, 8, 8, 8, 8, 8, 8, 8, 8, 8, 8, 8, 8, 8, 8, 8, 8, 8, 8, 8, 8, 8, 8, 8, 8, 8, 8, 8, 8, 8, 8, 8, 8, 8, 8, 8, 8, 8, 8, 8, 8, 8, 8, 8, 8, 8, 8]⟩
def C_gosem_cut_init : AC := .reg [ir 0 (.call i_gosem_cut [])]
def F_gosem_cut_init : AFn := ⟨1, C_gosem_cut_init, [], none⟩
def Ba_avouchlaw19zScriptTexts : AC := .seq (.reg [iv 17 (.bin .lss (.t 16) (.t 15))])
   (.seq (.cond (.t 17)
    (.skip)
    (.exit 0))
   (.seq (.blk 1
    (.seq (.reg [iv 18 (.iadr none 2 (.t 14) (.t 16)),
      ir 19 (.ld 2 true (.t 18)),
      ic 5 (.alloc [.int .i64 0, .nsl]),
      jc (.st 2 (.t 5) (.t 19))])
    (.seq (.seq (.reg [iv 20 (.fadr 1 (.t 5)),
      ir 21 (.ld 1 false (.t 20)),
      iv 22 (.lenL (.t 21)),
      iv 23 (.bin .gtr (.t 22) (.k (.int .i64 100)))])
    (.cond (.t 23)
     (.seq (.reg [iv 2 (.mv (.k (.bool true)))])
     (.ret))
     (.skip)))
    (.reg [iv 24 (.mv (.t 3)),
      iv 25 (.fadr 0 (.t 5)),
      ir 26 (.ld 1 false (.t 25)),
      iv 27 (.fadr 1 (.t 5)),
      ir 28 (.ld 1 false (.t 27)),
      iv 29 (.build [.int .i64 0, .nsl] [(0, 1, .t 26), (1, 1, .t 28)]),
      iv 30 (.slit 2 1 [.int .i64 0, .nsl] [(0, .t 29)]),
      ic 31 (.app 2 false (.t 24) (.t 30)),
      iv 3 (.mv (.t 31))]))))
   (.reg [iv 32 (.bin .add (.t 16) (.k (.int .i64 1))),
     iv 16 (.mv (.t 32))])))
def C_avouchlaw19zScriptTexts : AC := .seq (.reg [iv 2 (.mv (.k (.bool false)))])
 (.seq (.seq (.reg [ir 6 (.call i_avouchlaw19zspeaks []),
   iv 7 (.un .not (.t 6)),
   iv 8 (.mv (.t 7)),
   ⟨(some 9), .v (.mv (.t 0)), (some (8, false)), [], 0, 0⟩,
   ⟨(some 10), .v (.lenL (.t 9)), (some (8, false)), [], 0, 0⟩,
   ⟨(some 11), .v (.bin .gtr (.t 10) (.k (.int .i64 40))), (some (8, false)), [], 0, 0⟩,
   iv 12 (.pick (.t 8) (.k (.bool true)) (.t 11))])
 (.cond (.t 12)
  (.seq (.reg [ir 13 (.call i_avouchlaw19zspeaks []),
    iv 2 (.mv (.t 13))])
  (.ret))
  (.skip)))
 (.seq (.reg [iv 3 (.mv (.k (.nsl)))])
 (.seq (.seq (.reg [iv 14 (.mv (.t 0)),
   iv 15 (.lenL (.t 14)),
   iv 16 (.mv (.k (.int .i64 0)))])
 (.blk 0
  (.loop Ba_avouchlaw19zScriptTexts)))
 (.seq (.reg [iv 33 (.mv (.t 3)),
   ic 34 (.call i_script_Text [.t 33]),
   iv 35 (.mv (.t 0)),
   ir 36 (.call i_avouchref19zText [.t 35]),
   iv 37 (.bin .eql (.t 34) (.t 36)),
   iv 2 (.mv (.t 37))])
 (.ret)))))
def F_avouchlaw19zScriptTexts : AFn := ⟨38, C_avouchlaw19zScriptTexts, [.tmp 2], none⟩
def Ba_avouchlaw19zScriptTells : AC := .seq (.reg [iv 30 (.bin .lss (.t 29) (.t 28))])
   (.seq (.cond (.t 30)
    (.skip)
    (.exit 0))
   (.seq (.blk 1
    (.seq (.reg [iv 31 (.iadr none 4 (.t 27) (.t 29)),
      ir 32 (.ld 4 true (.t 31)),
      ic 4 (.alloc [.int .i64 0, .int .i64 0, .int .i64 0, .nsl]),
      jc (.st 4 (.t 4) (.t 32))])
    (.seq (.reg [iv 33 (.fadr 3 (.t 4)),
      ir 34 (.ld 1 false (.t 33)),
      iv 35 (.lenL (.t 34)),
      iv 36 (.bin .gtr (.t 35) (.k (.int .i64 400)))])
    (.cond (.t 36)
     (.seq (.reg [iv 2 (.mv (.k (.bool true)))])
     (.ret))
     (.skip)))))
   (.reg [iv 37 (.bin .add (.t 29) (.k (.int .i64 1))),
     iv 29 (.mv (.t 37))])))
def C_avouchlaw19zScriptTells : AC := .seq (.reg [iv 1 (.boxv (.t 0)),
   iv 2 (.mv (.k (.bool false)))])
 (.seq (.seq (.reg [ir 11 (.call i_avouchlaw19zspeaks []),
   iv 12 (.un .not (.t 11)),
   iv 13 (.mv (.t 12)),
   ⟨(some 14), .v (.fadr 1 (.t 1)), (some (13, false)), [], 0, 0⟩,
   ⟨(some 15), .r (.ld 1 false (.t 14)), (some (13, false)), [], 0, 0⟩,
   ⟨(some 16), .v (.lenL (.t 15)), (some (13, false)), [], 0, 0⟩,
   ⟨(some 17), .v (.bin .gtr (.t 16) (.k (.int .i64 2000))), (some (13, false)), [], 0, 0⟩,
   iv 18 (.pick (.t 13) (.k (.bool true)) (.t 17)),
   iv 19 (.mv (.t 18)),
   ⟨(some 20), .v (.fadr 2 (.t 1)), (some (19, false)), [], 0, 0⟩,
   ⟨(some 21), .r (.ld 1 false (.t 20)), (some (19, false)), [], 0, 0⟩,
   ⟨(some 22), .v (.lenL (.t 21)), (some (19, false)), [], 0, 0⟩,
   ⟨(some 23), .v (.bin .gtr (.t 22) (.k (.int .i64 250))), (some (19, false)), [], 0, 0⟩,
   iv 24 (.pick (.t 19) (.k (.bool true)) (.t 23))])
 (.cond (.t 24)
  (.seq (.reg [ir 25 (.call i_avouchlaw19zspeaks []),
    iv 2 (.mv (.t 25))])
  (.ret))
  (.skip)))
 (.seq (.seq (.reg [iv 26 (.fadr 2 (.t 1)),
   ir 27 (.ld 1 false (.t 26)),
   iv 28 (.lenL (.t 27)),
   iv 29 (.mv (.k (.int .i64 0)))])
 (.blk 0
  (.loop Ba_avouchlaw19zScriptTells)))
 (.seq (.reg [ir 39 (.ld 3 true (.t 1)),
   ir 40 (.call i_avouchlaw19zOf [.t 39]),
   ir 41 (.call i_script_Encode [.t 40]),
   iv 38 (.mv (.t 41)),
   iv 42 (.ext (.t 38) 0),
   iv 43 (.ext (.t 38) 1),
   iv 5 (.mv (.t 42)),
   iv 6 (.mv (.t 43))])
 (.seq (.reg [ir 45 (.ld 3 true (.t 1)),
   ir 46 (.call i_avouchref19zEncode [.t 45]),
   iv 44 (.mv (.t 46)),
   iv 47 (.ext (.t 44) 0),
   iv 48 (.ext (.t 44) 1),
   iv 7 (.mv (.t 47)),
   iv 8 (.mv (.t 48))])
 (.seq (.seq (.reg [iv 49 (.mv (.t 6)),
   iv 50 (.mv (.t 8)),
   iv 51 (.bin .neq (.t 49) (.t 50)),
   iv 52 (.mv (.t 51)),
   ⟨(some 53), .v (.mv (.t 5)), (some (52, false)), [], 0, 0⟩,
   ⟨(some 54), .r (.b2s (.t 53)), (some (52, false)), [], 0, 0⟩,
   ⟨(some 55), .v (.mv (.t 7)), (some (52, false)), [], 0, 0⟩,
   ⟨(some 56), .r (.b2s (.t 55)), (some (52, false)), [], 0, 0⟩,
   ⟨(some 57), .v (.bin .neq (.t 54) (.t 56)), (some (52, false)), [], 0, 0⟩,
   iv 58 (.pick (.t 52) (.k (.bool true)) (.t 57))])
 (.cond (.t 58)
  (.seq (.reg [iv 2 (.mv (.k (.bool false)))])
  (.ret))
  (.skip)))
 (.seq (.seq (.reg [iv 59 (.mv (.t 8)),
   iv 60 (.bin .neq (.t 59) (.k (.int .i64 0)))])
 (.cond (.t 60)
  (.seq (.reg [iv 2 (.mv (.k (.bool true)))])
  (.ret))
  (.skip)))
 (.seq (.reg [iv 62 (.mv (.t 5)),
   ic 63 (.call i_script_Decode [.t 62]),
   iv 61 (.mv (.t 63)),
   iv 64 (.ext (.t 61) 0),
   iv 65 (.ext (.t 61) 1),
   ic 9 (.alloc [.int .i64 0, .nsl, .nsl]),
   jc (.st 3 (.t 9) (.t 64)),
   iv 10 (.mv (.t 65))])
 (.seq (.reg [iv 66 (.mv (.t 10)),
   iv 67 (.bin .eql (.t 66) (.k (.int .i64 0))),
   iv 68 (.mv (.t 67)),
   ⟨(some 69), .r (.ld 3 true (.t 9)), (some (68, true)), [], 0, 0⟩,
   ⟨(some 70), .r (.ld 3 true (.t 1)), (some (68, true)), [], 0, 0⟩,
   ⟨(some 71), .r (.call i_avouchlaw19zis [.t 69, .t 70]), (some (68, true)), [], 0, 0⟩,
   iv 72 (.pick (.t 68) (.t 71) (.k (.bool false))),
   iv 2 (.mv (.t 72))])
 (.ret)))))))))
def F_avouchlaw19zScriptTells : AFn := ⟨73, C_avouchlaw19zScriptTells, [.tmp 2], none⟩
def C_avouchlaw19zScriptReads : AC := .seq (.reg [iv 2 (.mv (.k (.bool false)))])
 (.seq (.seq (.reg [ir 9 (.call i_avouchlaw19zspeaks []),
   iv 10 (.un .not (.t 9)),
   iv 11 (.mv (.t 10)),
   ⟨(some 12), .v (.mv (.t 0)), (some (11, false)), [], 0, 0⟩,
   ⟨(some 13), .v (.lenL (.t 12)), (some (11, false)), [], 0, 0⟩,
   ⟨(some 14), .v (.bin .gtr (.t 13) (.k (.int .i64 4000))), (some (11, false)), [], 0, 0⟩,
   iv 15 (.pick (.t 11) (.k (.bool true)) (.t 14))])
 (.cond (.t 15)
  (.seq (.reg [ir 16 (.call i_avouchlaw19zspeaks []),
    iv 2 (.mv (.t 16))])
  (.ret))
  (.skip)))
 (.seq (.reg [iv 18 (.mv (.t 0)),
   ic 19 (.call i_script_Decode [.t 18]),
   iv 17 (.mv (.t 19)),
   iv 20 (.ext (.t 17) 0),
   iv 21 (.ext (.t 17) 1),
   ic 3 (.alloc [.int .i64 0, .nsl, .nsl]),
   jc (.st 3 (.t 3) (.t 20)),
   iv 4 (.mv (.t 21))])
 (.seq (.reg [iv 23 (.mv (.t 0)),
   ir 24 (.call i_avouchref19zDecode [.t 23]),
   iv 22 (.mv (.t 24)),
   iv 25 (.ext (.t 22) 0),
   iv 26 (.ext (.t 22) 1),
   ic 5 (.alloc [.int .i64 0, .nsl, .nsl]),
   jc (.st 3 (.t 5) (.t 25)),
   iv 6 (.mv (.t 26))])
 (.seq (.seq (.reg [iv 27 (.mv (.t 4)),
   iv 28 (.mv (.t 6)),
   iv 29 (.bin .neq (.t 27) (.t 28)),
   iv 30 (.mv (.t 29)),
   ⟨(some 31), .r (.ld 3 true (.t 3)), (some (30, false)), [], 0, 0⟩,
   ⟨(some 32), .r (.ld 3 true (.t 5)), (some (30, false)), [], 0, 0⟩,
   ⟨(some 33), .r (.call i_avouchlaw19zis [.t 31, .t 32]), (some (30, false)), [], 0, 0⟩,
   ⟨(some 34), .v (.un .not (.t 33)), (some (30, false)), [], 0, 0⟩,
   iv 35 (.pick (.t 30) (.k (.bool true)) (.t 34))])
 (.cond (.t 35)
  (.seq (.reg [iv 2 (.mv (.k (.bool false)))])
  (.ret))
  (.skip)))
 (.seq (.seq (.reg [iv 36 (.mv (.t 6)),
   iv 37 (.bin .neq (.t 36) (.k (.int .i64 0)))])
 (.cond (.t 37)
  (.seq (.reg [iv 2 (.mv (.k (.bool true)))])
  (.ret))
  (.skip)))
 (.seq (.reg [ir 39 (.ld 3 true (.t 3)),
   ir 40 (.call i_script_Encode [.t 39]),
   iv 38 (.mv (.t 40)),
   iv 41 (.ext (.t 38) 0),
   iv 42 (.ext (.t 38) 1),
   iv 7 (.mv (.t 41)),
   iv 8 (.mv (.t 42))])
 (.seq (.reg [iv 43 (.mv (.t 8)),
   iv 44 (.bin .eql (.t 43) (.k (.int .i64 0))),
   iv 45 (.mv (.t 44)),
   ⟨(some 46), .v (.mv (.t 7)), (some (45, true)), [], 0, 0⟩,
   ⟨(some 47), .r (.b2s (.t 46)), (some (45, true)), [], 0, 0⟩,
   ⟨(some 48), .v (.mv (.t 0)), (some (45, true)), [], 0, 0⟩,
   ⟨(some 49), .r (.b2s (.t 48)), (some (45, true)), [], 0, 0⟩,
   ⟨(some 50), .v (.bin .eql (.t 47) (.t 49)), (some (45, true)), [], 0, 0⟩,
   iv 51 (.pick (.t 45) (.t 50) (.k (.bool false))),
   iv 2 (.mv (.t 51))])
 (.ret))))))))
def F_avouchlaw19zScriptReads : AFn := ⟨52, C_avouchlaw19zScriptReads, [.tmp 2], none⟩
def C_avouchlaw19zspeaks : AC := .seq (.reg [iv 0 (.mv (.k (.bool false)))])
 (.seq (.reg [iv 1 (.build [.int .i64 0, .nsl] []),
   iv 2 (.build [.int .i64 0, .nsl] [(0, 1, .k (.int .i64 10))]),
   iv 3 (.slit 2 2 [.int .i64 0, .nsl] [(0, .t 1), (1, .t 2)]),
   ic 4 (.call i_script_Text [.t 3]),
   iv 5 (.bin .eql (.t 4) (.k (.str ⟨#[48, 10, 49, 48, 10]⟩))),
   iv 0 (.mv (.t 5))])
 (.ret))
def F_avouchlaw19zspeaks : AFn := ⟨6, C_avouchlaw19zspeaks, [.tmp 0], none⟩
def Ba_avouchref19zText : AC := .seq (.seq (.reg [iv 30 (.mv (.t 5)),
        iv 31 (.mv (.t 0)),
        iv 32 (.mv (.t 4)),
        iv 33 (.iadr none 2 (.t 31) (.t 32)),
        iv 34 (.fadr 1 (.t 33)),
        ir 35 (.ld 1 false (.t 34)),
        iv 36 (.lenL (.t 35)),
        iv 37 (.bin .lss (.t 30) (.t 36))])
      (.cond (.t 37)
       (.skip)
       (.exit 2)))
      (.seq (.blk 3
       (.seq (.reg [iv 40 (.mv (.t 0)),
         iv 41 (.mv (.t 4)),
         iv 42 (.iadr none 2 (.t 40) (.t 41)),
         iv 43 (.fadr 1 (.t 42)),
         ir 44 (.ld 1 false (.t 43)),
         iv 45 (.mv (.t 5)),
         iv 46 (.iadr none 1 (.t 44) (.t 45)),
         ir 47 (.ld 1 false (.t 46)),
         iv 48 (.i2i .i64 (.t 47)),
         iv 6 (.mv (.t 48))])
       (.reg [iv 49 (.mv (.t 3)),
         iv 50 (.mv (.t 6)),
         iv 51 (.bin .quo (.t 50) (.k (.int .i64 16))),
         ir 52 (.call i_avouchref19zdigit [.t 51]),
         iv 53 (.mv (.t 6)),
         iv 54 (.bin .rem (.t 53) (.k (.int .i64 16))),
         ir 55 (.call i_avouchref19zdigit [.t 54]),
         iv 56 (.slit 1 2 [.int .u8 0] [(0, .t 52), (1, .t 55)]),
         ir 57 (.b2s (.t 56)),
         iv 58 (.bin .add (.t 49) (.t 57)),
         iv 3 (.mv (.t 58))])))
      (.reg [iv 38 (.mv (.t 5)),
        iv 39 (.bin .add (.t 38) (.k (.int .i64 1))),
        iv 5 (.mv (.t 39))]))
def Bb_avouchref19zText : AC := .seq (.seq (.reg [iv 7 (.mv (.t 4)),
     iv 8 (.mv (.t 0)),
     iv 9 (.lenL (.t 8)),
     iv 10 (.bin .lss (.t 7) (.t 9))])
   (.cond (.t 10)
    (.skip)
    (.exit 0)))
   (.seq (.blk 1
    (.seq (.reg [iv 13 (.mv (.t 3)),
      iv 14 (.mv (.t 0)),
      iv 15 (.mv (.t 4)),
      iv 16 (.iadr none 2 (.t 14) (.t 15)),
      iv 17 (.fadr 0 (.t 16)),
      ir 18 (.ld 1 false (.t 17)),
      ir 19 (.call i_avouchref19zdecimal [.t 18]),
      iv 20 (.bin .add (.t 13) (.t 19)),
      iv 3 (.mv (.t 20))])
    (.seq (.seq (.reg [iv 21 (.mv (.t 0)),
      iv 22 (.mv (.t 4)),
      iv 23 (.iadr none 2 (.t 21) (.t 22)),
      iv 24 (.fadr 1 (.t 23)),
      ir 25 (.ld 1 false (.t 24)),
      iv 26 (.lenL (.t 25)),
      iv 27 (.bin .gtr (.t 26) (.k (.int .i64 0)))])
    (.cond (.t 27)
     (.reg [iv 28 (.mv (.t 3)),
       iv 29 (.bin .add (.t 28) (.k (.str ⟨#[32]⟩))),
       iv 3 (.mv (.t 29))])
     (.skip)))
    (.seq (.seq (.reg [iv 5 (.mv (.k (.int .i64 0)))])
    (.blk 2
     (.loop Ba_avouchref19zText)))
    (.reg [iv 59 (.mv (.t 3)),
      iv 60 (.bin .add (.t 59) (.k (.str ⟨#[10]⟩))),
      iv 3 (.mv (.t 60))])))))
   (.reg [iv 11 (.mv (.t 4)),
     iv 12 (.bin .add (.t 11) (.k (.int .i64 1))),
     iv 4 (.mv (.t 12))]))
def C_avouchref19zText : AC := .seq (.reg [iv 2 (.mv (.k (.str ⟨#[]⟩)))])
 (.seq (.reg [iv 3 (.mv (.k (.str ⟨#[]⟩)))])
 (.seq (.seq (.reg [iv 4 (.mv (.k (.int .i64 0)))])
 (.blk 0
  (.loop Bb_avouchref19zText)))
 (.seq (.reg [iv 61 (.mv (.t 3)),
   iv 2 (.mv (.t 61))])
 (.ret))))
def F_avouchref19zText : AFn := ⟨62, C_avouchref19zText, [.tmp 2], none⟩
def Ba_script_Encode : AC := .seq (.reg [iv 45 (.bin .lss (.t 44) (.t 43))])
   (.seq (.cond (.t 45)
    (.skip)
    (.exit 0))
   (.seq (.blk 1
    (.seq (.reg [iv 46 (.iadr none 4 (.t 42) (.t 44)),
      ir 47 (.ld 4 true (.t 46)),
      ic 6 (.alloc [.int .i64 0, .int .i64 0, .int .i64 0, .nsl]),
      jc (.st 4 (.t 6) (.t 47))])
    (.seq (.reg [iv 48 (.mv (.t 4)),
      iv 49 (.fadr 0 (.t 6)),
      ir 50 (.ld 1 false (.t 49)),
      iv 51 (.i2i .u8 (.t 50)),
      iv 52 (.slit 1 1 [.int .u8 0] [(0, .t 51)]),
      ic 53 (.app 1 false (.t 48) (.t 52)),
      iv 4 (.mv (.t 53))])
    (.seq (.reg [iv 54 (.fadr 0 (.t 6)),
      ir 55 (.ld 1 false (.t 54))])
    (.blk 2
     (.seq (.reg [iv 57 (.bin .eql (.t 55) (.k (.int .i64 0))),
       iv 56 (.mv (.t 57))])
     (.cond (.t 56)
      (.draw [⟨(some 58), .v (.mv (.t 4)), none, [4], 0, 0⟩,
        ⟨(some 59), .v (.fadr 1 (.t 6)), none, [6], 0, 0⟩,
        ⟨(some 60), .r (.ld 1 false (.t 59)), none, [59], 0, 0⟩,
        ⟨(some 61), .v (.i2i .u8 (.t 60)), none, [60], 0, 0⟩,
        ⟨(some 62), .v (.slit 1 1 [.int .u8 0] [(0, .t 61)]), none, [61], 0, 0⟩,
        ⟨(some 63), .c (.app 1 false (.t 58) (.t 62)), none, [58, 62], 0, 0⟩,
        ⟨(some 64), .v (.fadr 3 (.t 6)), none, [6], 0, 0⟩,
        ⟨(some 65), .r (.ld 1 false (.t 64)), none, [64], 0, 1⟩,
        ⟨(some 66), .v (.lenL (.t 65)), none, [65], 0, 0⟩,
        ⟨(some 67), .c (.call i_script_two [.t 63, .t 66]), none, [63, 66], 0, 0⟩,
        ⟨(some 68), .v (.fadr 3 (.t 6)), none, [6], 0, 0⟩,
        ⟨(some 69), .r (.ld 1 false (.t 68)), none, [68], 0, 2⟩,
        ⟨(some 70), .c (.app 1 false (.t 67) (.t 69)), none, [67, 69], 0, 0⟩,
        ⟨(some 4), .v (.mv (.t 70)), none, [70], 0, 0⟩])
      (.seq (.seq (.reg [iv 72 (.bin .eql (.t 55) (.k (.int .i64 1))),
        iv 71 (.mv (.t 72))])
      (.cond (.t 71)
       (.skip)
       (.reg [iv 73 (.bin .eql (.t 55) (.k (.int .i64 2))),
         iv 71 (.mv (.t 73))])))
      (.cond (.t 71)
       (.reg [iv 74 (.mv (.t 4)),
         iv 75 (.fadr 2 (.t 6)),
         ir 76 (.ld 1 false (.t 75)),
         ic 77 (.call i_script_two [.t 74, .t 76]),
         iv 4 (.mv (.t 77))])
       (.skip))))))))))
   (.reg [iv 78 (.bin .add (.t 44) (.k (.int .i64 1))),
     iv 44 (.mv (.t 78))])))
def C_script_Encode : AC := .seq (.reg [iv 1 (.boxv (.t 0)),
   iv 2 (.mv (.k (.nsl))),
   iv 3 (.mv (.k (.int .i64 0)))])
 (.seq (.seq (.reg [iv 7 (.fadr 0 (.t 1)),
   ir 8 (.ld 1 false (.t 7)),
   iv 9 (.bin .lss (.t 8) (.k (.int .i64 0))),
   iv 10 (.mv (.t 9)),
   ⟨(some 11), .v (.fadr 0 (.t 1)), (some (10, false)), [], 0, 0⟩,
   ⟨(some 12), .r (.ld 1 false (.t 11)), (some (10, false)), [], 0, 0⟩,
   ⟨(some 13), .v (.bin .gtr (.t 12) (.k (.int .i64 255))), (some (10, false)), [], 0, 0⟩,
   iv 14 (.pick (.t 10) (.k (.bool true)) (.t 13)),
   iv 15 (.mv (.t 14)),
   ⟨(some 16), .v (.fadr 1 (.t 1)), (some (15, false)), [], 0, 0⟩,
   ⟨(some 17), .r (.ld 1 false (.t 16)), (some (15, false)), [], 0, 0⟩,
   ⟨(some 18), .v (.lenL (.t 17)), (some (15, false)), [], 0, 0⟩,
   ⟨(some 19), .v (.bin .gtr (.t 18) (.k (.int .i64 65535))), (some (15, false)), [], 0, 0⟩,
   iv 20 (.pick (.t 15) (.k (.bool true)) (.t 19)),
   iv 21 (.mv (.t 20)),
   ⟨(some 22), .v (.fadr 2 (.t 1)), (some (21, false)), [], 0, 0⟩,
   ⟨(some 23), .r (.ld 1 false (.t 22)), (some (21, false)), [], 0, 0⟩,
   ⟨(some 24), .r (.call i_slices_ContainsFuncscript_Call_script_Call [.t 23, .k (.fn (.func i_script_Encode_1) [] [])]), (some (21, false)), [], 0, 0⟩,
   iv 25 (.pick (.t 21) (.k (.bool true)) (.t 24))])
 (.cond (.t 25)
  (.seq (.reg [iv 2 (.mv (.k (.nsl))),
    iv 3 (.mv (.k (.int .i64 1)))])
  (.ret))
  (.skip)))
 (.seq (.seq (.reg [iv 26 (.fadr 2 (.t 1)),
   ir 27 (.ld 1 false (.t 26)),
   iv 28 (.lenL (.t 27)),
   iv 29 (.bin .gtr (.t 28) (.k (.int .i64 200)))])
 (.cond (.t 29)
  (.seq (.reg [iv 2 (.mv (.k (.nsl))),
    iv 3 (.mv (.k (.int .i64 9)))])
  (.ret))
  (.skip)))
 (.seq (.draw [⟨(some 30), .v (.fadr 0 (.t 1)), none, [1], 0, 0⟩,
   ⟨(some 31), .r (.ld 1 false (.t 30)), none, [30], 0, 0⟩,
   ⟨(some 32), .v (.i2i .u8 (.t 31)), none, [31], 0, 0⟩,
   ⟨(some 33), .v (.slit 1 1 [.int .u8 0] [(0, .t 32)]), none, [32], 0, 0⟩,
   ⟨(some 34), .v (.fadr 1 (.t 1)), none, [1], 0, 0⟩,
   ⟨(some 35), .r (.ld 1 false (.t 34)), none, [34], 0, 0⟩,
   ⟨(some 36), .v (.lenL (.t 35)), none, [35], 0, 0⟩,
   ⟨(some 37), .c (.call i_script_two [.t 33, .t 36]), none, [33, 36], 0, 0⟩,
   ⟨(some 38), .v (.fadr 1 (.t 1)), none, [1], 0, 0⟩,
   ⟨(some 39), .r (.ld 1 false (.t 38)), none, [38], 0, 1⟩,
   ⟨(some 40), .c (.app 1 false (.t 37) (.t 39)), none, [37, 39], 0, 0⟩,
   ⟨(some 4), .v (.mv (.t 40)), none, [40], 0, 0⟩])
 (.seq (.seq (.reg [iv 41 (.fadr 2 (.t 1)),
   ir 42 (.ld 1 false (.t 41)),
   iv 43 (.lenL (.t 42)),
   iv 44 (.mv (.k (.int .i64 0)))])
 (.blk 0
  (.loop Ba_script_Encode)))
 (.seq (.reg [iv 79 (.mv (.t 4)),
   iv 2 (.mv (.t 79)),
   iv 3 (.mv (.k (.int .i64 0)))])
 (.ret))))))
def F_script_Encode : AFn := ⟨80, C_script_Encode, [.tmp 2, .tmp 3], none⟩
def Ba_avouchlaw19zOf : AC := .seq (.reg [iv 15 (.bin .lss (.t 14) (.t 13))])
   (.seq (.cond (.t 15)
    (.skip)
    (.exit 0))
   (.seq (.blk 1
    (.seq (.reg [iv 16 (.iadr none 4 (.t 12) (.t 14)),
      ir 17 (.ld 4 true (.t 16)),
      ic 5 (.alloc [.int .i64 0, .int .i64 0, .int .i64 0, .nsl]),
      jc (.st 4 (.t 5) (.t 17))])
    (.reg [iv 18 (.fadr 2 (.t 3)),
      ir 19 (.ld 1 false (.t 18)),
      iv 20 (.fadr 0 (.t 5)),
      ir 21 (.ld 1 false (.t 20)),
      iv 22 (.fadr 1 (.t 5)),
      ir 23 (.ld 1 false (.t 22)),
      iv 24 (.fadr 2 (.t 5)),
      ir 25 (.ld 1 false (.t 24)),
      iv 26 (.fadr 3 (.t 5)),
      ir 27 (.ld 1 false (.t 26)),
      iv 28 (.build [.int .i64 0, .int .i64 0, .int .i64 0, .nsl] [(0, 1, .t 21), (1, 1, .t 23), (2, 1, .t 25), (3, 1, .t 27)]),
      iv 29 (.slit 4 1 [.int .i64 0, .int .i64 0, .int .i64 0, .nsl] [(0, .t 28)]),
      ic 30 (.app 4 false (.t 19) (.t 29)),
      iv 31 (.fadr 2 (.t 3)),
      jc (.st 1 (.t 31) (.t 30))])))
   (.reg [iv 32 (.bin .add (.t 14) (.k (.int .i64 1))),
     iv 14 (.mv (.t 32))])))
def C_avouchlaw19zOf : AC := .seq (.reg [iv 1 (.boxv (.t 0)),
   ic 2 (.alloc [.int .i64 0, .nsl, .nsl])])
 (.seq (.reg [iv 6 (.fadr 0 (.t 1)),
   ir 7 (.ld 1 false (.t 6)),
   iv 8 (.fadr 1 (.t 1)),
   ir 9 (.ld 1 false (.t 8)),
   iv 10 (.build [.int .i64 0, .nsl, .nsl] [(0, 1, .t 7), (1, 1, .t 9)]),
   ic 3 (.alloc [.int .i64 0, .nsl, .nsl]),
   jc (.st 3 (.t 3) (.t 10))])
 (.seq (.seq (.reg [iv 11 (.fadr 2 (.t 1)),
   ir 12 (.ld 1 false (.t 11)),
   iv 13 (.lenL (.t 12)),
   iv 14 (.mv (.k (.int .i64 0)))])
 (.blk 0
  (.loop Ba_avouchlaw19zOf)))
 (.seq (.reg [ir 33 (.ld 3 true (.t 3)),
   jc (.st 3 (.t 2) (.t 33))])
 (.ret))))
def F_avouchlaw19zOf : AFn := ⟨34, C_avouchlaw19zOf, [.cell 2 3 true], none⟩
def Ba_avouchref19zEncode : AC := .seq (.seq (.reg [iv 29 (.mv (.t 5)),
     iv 30 (.fadr 2 (.t 1)),
     ir 31 (.ld 1 false (.t 30)),
     iv 32 (.lenL (.t 31)),
     iv 33 (.bin .lss (.t 29) (.t 32))])
   (.cond (.t 33)
    (.skip)
    (.exit 0)))
   (.seq (.blk 1
    (.seq (.reg [iv 36 (.fadr 2 (.t 1)),
      ir 37 (.ld 1 false (.t 36)),
      iv 38 (.mv (.t 5)),
      iv 39 (.iadr none 4 (.t 37) (.t 38)),
      ir 40 (.ld 4 true (.t 39)),
      ic 6 (.alloc [.int .i64 0, .int .i64 0, .int .i64 0, .nsl]),
      jc (.st 4 (.t 6) (.t 40))])
    (.seq (.seq (.reg [ir 41 (.ld 4 true (.t 6)),
      ir 42 (.call i_avouchref19zright [.t 41]),
      iv 43 (.un .not (.t 42))])
    (.cond (.t 43)
     (.seq (.reg [iv 2 (.mv (.k (.nsl))),
       iv 3 (.mv (.k (.int .i64 1)))])
     (.ret))
     (.skip)))
    (.seq (.reg [iv 44 (.mv (.t 4)),
      iv 45 (.fadr 0 (.t 6)),
      ir 46 (.ld 1 false (.t 45)),
      iv 47 (.i2i .u8 (.t 46)),
      iv 48 (.slit 1 1 [.int .u8 0] [(0, .t 47)]),
      ic 49 (.app 1 false (.t 44) (.t 48)),
      iv 4 (.mv (.t 49))])
    (.seq (.seq (.reg [iv 50 (.fadr 0 (.t 6)),
      ir 51 (.ld 1 false (.t 50)),
      iv 52 (.bin .eql (.t 51) (.k (.int .i64 0)))])
    (.cond (.t 52)
     (.draw [⟨(some 53), .v (.mv (.t 4)), none, [4], 0, 0⟩,
       ⟨(some 54), .v (.fadr 1 (.t 6)), none, [6], 0, 0⟩,
       ⟨(some 55), .r (.ld 1 false (.t 54)), none, [54], 0, 0⟩,
       ⟨(some 56), .v (.i2i .u8 (.t 55)), none, [55], 0, 0⟩,
       ⟨(some 57), .v (.slit 1 1 [.int .u8 0] [(0, .t 56)]), none, [56], 0, 0⟩,
       ⟨(some 58), .c (.app 1 false (.t 53) (.t 57)), none, [53, 57], 0, 0⟩,
       ⟨(some 59), .v (.fadr 3 (.t 6)), none, [6], 0, 0⟩,
       ⟨(some 60), .r (.ld 1 false (.t 59)), none, [59], 0, 1⟩,
       ⟨(some 61), .v (.lenL (.t 60)), none, [60], 0, 0⟩,
       ⟨(some 62), .r (.call i_avouchref12zNumber [.t 61, .k (.int .i64 2)]), none, [61], 1, 1⟩,
       ⟨(some 63), .c (.app 1 false (.t 58) (.t 62)), none, [58, 62], 0, 0⟩,
       ⟨(some 64), .v (.fadr 3 (.t 6)), none, [6], 0, 0⟩,
       ⟨(some 65), .r (.ld 1 false (.t 64)), none, [64], 0, 2⟩,
       ⟨(some 66), .c (.app 1 false (.t 63) (.t 65)), none, [63, 65], 0, 0⟩,
       ⟨(some 4), .v (.mv (.t 66)), none, [66], 0, 0⟩])
     (.skip)))
    (.seq (.reg [iv 67 (.fadr 0 (.t 6)),
      ir 68 (.ld 1 false (.t 67)),
      iv 69 (.bin .eql (.t 68) (.k (.int .i64 1))),
      iv 70 (.mv (.t 69)),
      ⟨(some 71), .v (.fadr 0 (.t 6)), (some (70, false)), [], 0, 0⟩,
      ⟨(some 72), .r (.ld 1 false (.t 71)), (some (70, false)), [], 0, 0⟩,
      ⟨(some 73), .v (.bin .eql (.t 72) (.k (.int .i64 2))), (some (70, false)), [], 0, 0⟩,
      iv 74 (.pick (.t 70) (.k (.bool true)) (.t 73))])
    (.cond (.t 74)
     (.reg [iv 75 (.mv (.t 4)),
       iv 76 (.fadr 2 (.t 6)),
       ir 77 (.ld 1 false (.t 76)),
       ir 78 (.call i_avouchref12zNumber [.t 77, .k (.int .i64 2)]),
       ic 79 (.app 1 false (.t 75) (.t 78)),
       iv 4 (.mv (.t 79))])
     (.skip))))))))
   (.reg [iv 34 (.mv (.t 5)),
     iv 35 (.bin .add (.t 34) (.k (.int .i64 1))),
     iv 5 (.mv (.t 35))]))
def C_avouchref19zEncode : AC := .seq (.reg [iv 1 (.boxv (.t 0)),
   iv 2 (.mv (.k (.nsl))),
   iv 3 (.mv (.k (.int .i64 0)))])
 (.seq (.seq (.reg [iv 7 (.fadr 0 (.t 1)),
   ir 8 (.ld 1 false (.t 7)),
   ir 9 (.call i_avouchref19zin [.t 8, .k (.int .i64 255)]),
   iv 10 (.un .not (.t 9)),
   iv 11 (.mv (.t 10)),
   ⟨(some 12), .v (.fadr 1 (.t 1)), (some (11, false)), [], 0, 0⟩,
   ⟨(some 13), .r (.ld 1 false (.t 12)), (some (11, false)), [], 0, 0⟩,
   ⟨(some 14), .v (.lenL (.t 13)), (some (11, false)), [], 0, 0⟩,
   ⟨(some 15), .v (.bin .gtr (.t 14) (.k (.int .i64 65535))), (some (11, false)), [], 0, 0⟩,
   iv 16 (.pick (.t 11) (.k (.bool true)) (.t 15))])
 (.cond (.t 16)
  (.seq (.reg [iv 2 (.mv (.k (.nsl))),
    iv 3 (.mv (.k (.int .i64 1)))])
  (.ret))
  (.skip)))
 (.seq (.draw [⟨(some 17), .v (.fadr 0 (.t 1)), none, [1], 0, 0⟩,
   ⟨(some 18), .r (.ld 1 false (.t 17)), none, [17], 0, 0⟩,
   ⟨(some 19), .v (.i2i .u8 (.t 18)), none, [18], 0, 0⟩,
   ⟨(some 20), .v (.slit 1 1 [.int .u8 0] [(0, .t 19)]), none, [19], 0, 0⟩,
   ⟨(some 21), .v (.fadr 1 (.t 1)), none, [1], 0, 0⟩,
   ⟨(some 22), .r (.ld 1 false (.t 21)), none, [21], 0, 0⟩,
   ⟨(some 23), .v (.lenL (.t 22)), none, [22], 0, 0⟩,
   ⟨(some 24), .r (.call i_avouchref12zNumber [.t 23, .k (.int .i64 2)]), none, [23], 0, 0⟩,
   ⟨(some 25), .c (.app 1 false (.t 20) (.t 24)), none, [20, 24], 0, 0⟩,
   ⟨(some 26), .v (.fadr 1 (.t 1)), none, [1], 0, 0⟩,
   ⟨(some 27), .r (.ld 1 false (.t 26)), none, [26], 0, 1⟩,
   ⟨(some 28), .c (.app 1 false (.t 25) (.t 27)), none, [25, 27], 0, 0⟩,
   ⟨(some 4), .v (.mv (.t 28)), none, [28], 0, 0⟩])
 (.seq (.seq (.reg [iv 5 (.mv (.k (.int .i64 0)))])
 (.blk 0
  (.loop Ba_avouchref19zEncode)))
 (.seq (.seq (.reg [iv 80 (.fadr 2 (.t 1)),
   ir 81 (.ld 1 false (.t 80)),
   iv 82 (.lenL (.t 81)),
   iv 83 (.bin .gtr (.t 82) (.k (.int .i64 200)))])
 (.cond (.t 83)
  (.seq (.reg [iv 2 (.mv (.k (.nsl))),
    iv 3 (.mv (.k (.int .i64 9)))])
  (.ret))
  (.skip)))
 (.seq (.reg [iv 84 (.mv (.t 4)),
   iv 2 (.mv (.t 84)),
   iv 3 (.mv (.k (.int .i64 0)))])
 (.ret))))))
def F_avouchref19zEncode : AFn := ⟨85, C_avouchref19zEncode, [.tmp 2, .tmp 3], none⟩
def Ba_avouchlaw19zis : AC := .seq (.reg [iv 13 (.bin .lss (.t 12) (.t 11))])
   (.seq (.cond (.t 13)
    (.skip)
    (.exit 0))
   (.seq (.blk 1
    (.seq (.reg [iv 14 (.iadr none 4 (.t 10) (.t 12)),
      ir 15 (.ld 4 true (.t 14)),
      ic 7 (.alloc [.int .i64 0, .int .i64 0, .int .i64 0, .nsl]),
      jc (.st 4 (.t 7) (.t 15))])
    (.reg [iv 16 (.mv (.t 5)),
      iv 17 (.fadr 0 (.t 7)),
      ir 18 (.ld 1 false (.t 17)),
      iv 19 (.fadr 1 (.t 7)),
      ir 20 (.ld 1 false (.t 19)),
      iv 21 (.fadr 2 (.t 7)),
      ir 22 (.ld 1 false (.t 21)),
      iv 23 (.fadr 3 (.t 7)),
      ir 24 (.ld 1 false (.t 23)),
      iv 25 (.build [.int .i64 0, .int .i64 0, .int .i64 0, .nsl] [(0, 1, .t 18), (1, 1, .t 20), (2, 1, .t 22), (3, 1, .t 24)]),
      iv 26 (.slit 4 1 [.int .i64 0, .int .i64 0, .int .i64 0, .nsl] [(0, .t 25)]),
      ic 27 (.app 4 false (.t 16) (.t 26)),
      iv 5 (.mv (.t 27))])))
   (.reg [iv 28 (.bin .add (.t 12) (.k (.int .i64 1))),
     iv 12 (.mv (.t 28))])))
def C_avouchlaw19zis : AC := .seq (.reg [iv 2 (.boxv (.t 0)),
   iv 3 (.boxv (.t 1)),
   iv 4 (.mv (.k (.bool false)))])
 (.seq (.reg [iv 8 (.slit 4 0 [.int .i64 0, .int .i64 0, .int .i64 0, .nsl] []),
   iv 5 (.mv (.t 8))])
 (.seq (.seq (.reg [iv 9 (.fadr 2 (.t 2)),
   ir 10 (.ld 1 false (.t 9)),
   iv 11 (.lenL (.t 10)),
   iv 12 (.mv (.k (.int .i64 0)))])
 (.blk 0
  (.loop Ba_avouchlaw19zis)))
 (.seq (.reg [iv 29 (.fadr 0 (.t 2)),
   ir 30 (.ld 1 false (.t 29)),
   iv 31 (.fadr 0 (.t 3)),
   ir 32 (.ld 1 false (.t 31)),
   iv 33 (.bin .eql (.t 30) (.t 32)),
   iv 34 (.mv (.t 33)),
   ⟨(some 35), .v (.fadr 1 (.t 2)), (some (34, true)), [], 0, 0⟩,
   ⟨(some 36), .r (.ld 1 false (.t 35)), (some (34, true)), [], 0, 0⟩,
   ⟨(some 37), .r (.b2s (.t 36)), (some (34, true)), [], 0, 0⟩,
   ⟨(some 38), .v (.fadr 1 (.t 3)), (some (34, true)), [], 0, 0⟩,
   ⟨(some 39), .r (.ld 1 false (.t 38)), (some (34, true)), [], 0, 0⟩,
   ⟨(some 40), .r (.b2s (.t 39)), (some (34, true)), [], 0, 0⟩,
   ⟨(some 41), .v (.bin .eql (.t 37) (.t 40)), (some (34, true)), [], 0, 0⟩,
   iv 42 (.pick (.t 34) (.t 41) (.k (.bool false))),
   iv 43 (.mv (.t 42)),
   ⟨(some 44), .v (.mv (.t 5)), (some (43, true)), [], 0, 0⟩,
   ⟨(some 45), .v (.fadr 2 (.t 3)), (some (43, true)), [], 0, 0⟩,
   ⟨(some 46), .r (.ld 1 false (.t 45)), (some (43, true)), [], 0, 0⟩,
   ⟨(some 47), .r (.call i_avouchref19zSame [.t 44, .t 46]), (some (43, true)), [], 0, 0⟩,
   iv 48 (.pick (.t 43) (.t 47) (.k (.bool false))),
   iv 4 (.mv (.t 48))])
 (.ret))))
def F_avouchlaw19zis : AFn := ⟨49, C_avouchlaw19zis, [.tmp 4], none⟩
def Ba_avouchref19zDecode : AC := .seq (.seq (.reg [iv 34 (.mv (.t 7)),
     iv 35 (.mv (.t 0)),
     iv 36 (.lenL (.t 35)),
     iv 37 (.bin .lss (.t 34) (.t 36))])
   (.cond (.t 37)
    (.skip)
    (.exit 0)))
   (.blk 1
    (.seq (.reg [iv 38 (.mv (.t 0)),
      iv 39 (.mv (.t 7)),
      iv 40 (.iadr none 1 (.t 38) (.t 39)),
      ir 41 (.ld 1 false (.t 40)),
      iv 42 (.i2i .i64 (.t 41)),
      iv 43 (.build [.int .i64 0, .int .i64 0, .int .i64 0, .nsl] [(0, 1, .t 42)]),
      ic 8 (.alloc [.int .i64 0, .int .i64 0, .int .i64 0, .nsl]),
      jc (.st 4 (.t 8) (.t 43))])
    (.seq (.reg [iv 44 (.mv (.t 7)),
      iv 45 (.bin .add (.t 44) (.k (.int .i64 1))),
      iv 7 (.mv (.t 45))])
    (.seq (.seq (.reg [iv 46 (.fadr 2 (.t 6)),
      ir 47 (.ld 1 false (.t 46)),
      iv 48 (.lenL (.t 47)),
      iv 49 (.bin .eql (.t 48) (.k (.int .i64 200)))])
    (.cond (.t 49)
     (.seq (.reg [ir 50 (.ld 3 true (.t 4)),
       jc (.st 3 (.t 2) (.t 50)),
       iv 3 (.mv (.k (.int .i64 9)))])
     (.ret))
     (.skip)))
    (.seq (.seq (.reg [iv 51 (.fadr 0 (.t 8)),
      ir 52 (.ld 1 false (.t 51)),
      iv 53 (.bin .gtr (.t 52) (.k (.int .i64 4)))])
    (.cond (.t 53)
     (.seq (.reg [ir 54 (.ld 3 true (.t 4)),
       jc (.st 3 (.t 2) (.t 54)),
       iv 3 (.mv (.k (.int .i64 5)))])
     (.ret))
     (.skip)))
    (.seq (.seq (.reg [iv 55 (.fadr 0 (.t 8)),
      ir 56 (.ld 1 false (.t 55)),
      iv 57 (.bin .eql (.t 56) (.k (.int .i64 0)))])
    (.cond (.t 57)
     (.seq (.reg [iv 58 (.mv (.t 0)),
       iv 59 (.mv (.t 7)),
       iv 60 (.bin .add (.t 59) (.k (.int .i64 1))),
       ir 61 (.call i_avouchref19zpair [.t 58, .t 60]),
       iv 9 (.mv (.t 61))])
     (.seq (.seq (.reg [iv 62 (.mv (.t 9)),
       iv 63 (.bin .lss (.t 62) (.k (.int .i64 0))),
       iv 64 (.mv (.t 63)),
       ⟨(some 65), .v (.mv (.t 0)), (some (64, false)), [], 0, 0⟩,
       ⟨(some 66), .v (.lenL (.t 65)), (some (64, false)), [], 0, 0⟩,
       ⟨(some 67), .v (.mv (.t 7)), (some (64, false)), [], 0, 0⟩,
       ⟨(some 68), .v (.bin .add (.t 67) (.k (.int .i64 3))), (some (64, false)), [], 0, 0⟩,
       ⟨(some 69), .v (.mv (.t 9)), (some (64, false)), [], 0, 0⟩,
       ⟨(some 70), .v (.bin .add (.t 68) (.t 69)), (some (64, false)), [], 0, 0⟩,
       ⟨(some 71), .v (.bin .lss (.t 66) (.t 70)), (some (64, false)), [], 0, 0⟩,
       iv 72 (.pick (.t 64) (.k (.bool true)) (.t 71))])
     (.cond (.t 72)
      (.seq (.reg [ir 73 (.ld 3 true (.t 4)),
        jc (.st 3 (.t 2) (.t 73)),
        iv 3 (.mv (.k (.int .i64 2)))])
      (.ret))
      (.skip)))
     (.seq (.reg [iv 74 (.mv (.t 0)),
       iv 75 (.mv (.t 7)),
       iv 76 (.iadr none 1 (.t 74) (.t 75)),
       ir 77 (.ld 1 false (.t 76)),
       iv 78 (.i2i .i64 (.t 77)),
       iv 79 (.fadr 1 (.t 8)),
       jc (.st 1 (.t 79) (.t 78))])
     (.seq (.reg [iv 80 (.mv (.t 0)),
       iv 81 (.mv (.t 7)),
       iv 82 (.bin .add (.t 81) (.k (.int .i64 3))),
       iv 83 (.mv (.t 7)),
       iv 84 (.bin .add (.t 83) (.k (.int .i64 3))),
       iv 85 (.mv (.t 9)),
       iv 86 (.bin .add (.t 84) (.t 85)),
       iv 87 (.slice .slc 1 (.t 80) (some (.t 82)) (some (.t 86)) none),
       iv 88 (.fadr 3 (.t 8)),
       jc (.st 1 (.t 88) (.t 87))])
     (.reg [iv 89 (.mv (.t 7)),
       iv 90 (.bin .add (.t 89) (.k (.int .i64 3))),
       iv 91 (.mv (.t 9)),
       iv 92 (.bin .add (.t 90) (.t 91)),
       iv 7 (.mv (.t 92))])))))
     (.skip)))
    (.seq (.seq (.reg [iv 93 (.fadr 0 (.t 8)),
      ir 94 (.ld 1 false (.t 93)),
      iv 95 (.bin .eql (.t 94) (.k (.int .i64 1))),
      iv 96 (.mv (.t 95)),
      ⟨(some 97), .v (.fadr 0 (.t 8)), (some (96, false)), [], 0, 0⟩,
      ⟨(some 98), .r (.ld 1 false (.t 97)), (some (96, false)), [], 0, 0⟩,
      ⟨(some 99), .v (.bin .eql (.t 98) (.k (.int .i64 2))), (some (96, false)), [], 0, 0⟩,
      iv 100 (.pick (.t 96) (.k (.bool true)) (.t 99))])
    (.cond (.t 100)
     (.seq (.reg [iv 101 (.mv (.t 0)),
       iv 102 (.mv (.t 7)),
       ir 103 (.call i_avouchref19zpair [.t 101, .t 102]),
       iv 104 (.fadr 2 (.t 8)),
       jc (.st 1 (.t 104) (.t 103))])
     (.seq (.seq (.reg [iv 105 (.fadr 2 (.t 8)),
       ir 106 (.ld 1 false (.t 105)),
       iv 107 (.bin .lss (.t 106) (.k (.int .i64 0)))])
     (.cond (.t 107)
      (.seq (.reg [ir 108 (.ld 3 true (.t 4)),
        jc (.st 3 (.t 2) (.t 108)),
        iv 3 (.mv (.k (.int .i64 2)))])
      (.ret))
      (.skip)))
     (.reg [iv 109 (.mv (.t 7)),
       iv 110 (.bin .add (.t 109) (.k (.int .i64 2))),
       iv 7 (.mv (.t 110))])))
     (.skip)))
    (.reg [iv 111 (.fadr 2 (.t 6)),
      ir 112 (.ld 1 false (.t 111)),
      ir 113 (.ld 4 true (.t 8)),
      iv 114 (.slit 4 1 [.int .i64 0, .int .i64 0, .int .i64 0, .nsl] [(0, .t 113)]),
      ic 115 (.app 4 false (.t 112) (.t 114)),
      iv 116 (.fadr 2 (.t 6)),
      jc (.st 1 (.t 116) (.t 115))]))))))))
def C_avouchref19zDecode : AC := .seq (.reg [ic 2 (.alloc [.int .i64 0, .nsl, .nsl]),
   iv 3 (.mv (.k (.int .i64 0)))])
 (.seq (.reg [iv 10 (.build [.int .i64 0, .nsl, .nsl] []),
   ic 4 (.alloc [.int .i64 0, .nsl, .nsl]),
   jc (.st 3 (.t 4) (.t 10))])
 (.seq (.reg [iv 11 (.mv (.t 0)),
   ir 12 (.call i_avouchref19zpair [.t 11, .k (.int .i64 1)]),
   iv 5 (.mv (.t 12))])
 (.seq (.seq (.reg [iv 13 (.mv (.t 5)),
   iv 14 (.bin .lss (.t 13) (.k (.int .i64 0))),
   iv 15 (.mv (.t 14)),
   ⟨(some 16), .v (.mv (.t 0)), (some (15, false)), [], 0, 0⟩,
   ⟨(some 17), .v (.lenL (.t 16)), (some (15, false)), [], 0, 0⟩,
   ⟨(some 18), .v (.mv (.t 5)), (some (15, false)), [], 0, 0⟩,
   ⟨(some 19), .v (.bin .add (.k (.int .i64 3)) (.t 18)), (some (15, false)), [], 0, 0⟩,
   ⟨(some 20), .v (.bin .lss (.t 17) (.t 19)), (some (15, false)), [], 0, 0⟩,
   iv 21 (.pick (.t 15) (.k (.bool true)) (.t 20))])
 (.cond (.t 21)
  (.seq (.reg [ir 22 (.ld 3 true (.t 4)),
    jc (.st 3 (.t 2) (.t 22)),
    iv 3 (.mv (.k (.int .i64 2)))])
  (.ret))
  (.skip)))
 (.seq (.draw [⟨(some 23), .v (.mv (.t 0)), none, [0], 0, 0⟩,
   ⟨(some 24), .v (.iadr none 1 (.t 23) (.k (.int .i64 0))), none, [23], 0, 0⟩,
   ⟨(some 25), .r (.ld 1 false (.t 24)), none, [24], 0, 1⟩,
   ⟨(some 26), .v (.i2i .i64 (.t 25)), none, [25], 0, 0⟩,
   ⟨(some 27), .v (.mv (.t 0)), none, [0], 0, 0⟩,
   ⟨(some 28), .v (.mv (.t 5)), none, [5], 0, 0⟩,
   ⟨(some 29), .v (.bin .add (.k (.int .i64 3)) (.t 28)), none, [28], 0, 0⟩,
   ⟨(some 30), .v (.slice .slc 1 (.t 27) (some (.k (.int .i64 3))) (some (.t 29)) none), none, [27, 29], 0, 0⟩,
   ⟨(some 31), .v (.build [.int .i64 0, .nsl, .nsl] [(0, 1, .t 26), (1, 1, .t 30)]), none, [26, 30], 0, 0⟩,
   ic 6 (.alloc [.int .i64 0, .nsl, .nsl]),
   ⟨none, .c (.st 3 (.t 6) (.t 31)), none, [6, 31], 0, 0⟩])
 (.seq (.reg [iv 32 (.mv (.t 5)),
   iv 33 (.bin .add (.k (.int .i64 3)) (.t 32)),
   iv 7 (.mv (.t 33))])
 (.seq (.blk 0
  (.loop Ba_avouchref19zDecode))
 (.seq (.reg [ir 117 (.ld 3 true (.t 6)),
   jc (.st 3 (.t 2) (.t 117)),
   iv 3 (.mv (.k (.int .i64 0)))])
 (.ret))))))))
def F_avouchref19zDecode : AFn := ⟨118, C_avouchref19zDecode, [.cell 2 3 true, .tmp 3], none⟩
def C_avouchref19zdecimal : AC := .seq (.reg [iv 2 (.mv (.k (.str ⟨#[]⟩)))])
 (.seq (.seq (.reg [iv 4 (.mv (.t 0)),
   iv 5 (.bin .gtr (.t 4) (.k (.int .i64 (-10)))),
   iv 6 (.mv (.t 5)),
   ⟨(some 7), .v (.mv (.t 0)), (some (6, true)), [], 0, 0⟩,
   ⟨(some 8), .v (.bin .lss (.t 7) (.k (.int .i64 0))), (some (6, true)), [], 0, 0⟩,
   iv 9 (.pick (.t 6) (.t 8) (.k (.bool false)))])
 (.cond (.t 9)
  (.seq (.reg [iv 10 (.mv (.t 0)),
    iv 11 (.un .neg (.t 10)),
    ir 12 (.call i_avouchref19zdecimal [.t 11]),
    iv 13 (.bin .add (.k (.str ⟨#[45]⟩)) (.t 12)),
    iv 2 (.mv (.t 13))])
  (.ret))
  (.skip)))
 (.seq (.seq (.reg [iv 14 (.mv (.t 0)),
   iv 15 (.bin .geq (.t 14) (.k (.int .i64 0))),
   iv 16 (.mv (.t 15)),
   ⟨(some 17), .v (.mv (.t 0)), (some (16, true)), [], 0, 0⟩,
   ⟨(some 18), .v (.bin .lss (.t 17) (.k (.int .i64 10))), (some (16, true)), [], 0, 0⟩,
   iv 19 (.pick (.t 16) (.t 18) (.k (.bool false)))])
 (.cond (.t 19)
  (.seq (.reg [iv 20 (.mv (.t 0)),
    iv 21 (.bin .add (.k (.int .i64 48)) (.t 20)),
    iv 22 (.i2i .u8 (.t 21)),
    iv 23 (.slit 1 1 [.int .u8 0] [(0, .t 22)]),
    ir 24 (.b2s (.t 23)),
    iv 2 (.mv (.t 24))])
  (.ret))
  (.skip)))
 (.seq (.reg [iv 25 (.mv (.t 0)),
   iv 26 (.bin .rem (.t 25) (.k (.int .i64 10))),
   iv 3 (.mv (.t 26))])
 (.seq (.seq (.reg [iv 27 (.mv (.t 3)),
   iv 28 (.bin .lss (.t 27) (.k (.int .i64 0)))])
 (.cond (.t 28)
  (.reg [iv 29 (.mv (.t 3)),
    iv 30 (.un .neg (.t 29)),
    iv 3 (.mv (.t 30))])
  (.skip)))
 (.seq (.reg [iv 31 (.mv (.t 0)),
   iv 32 (.bin .quo (.t 31) (.k (.int .i64 10))),
   ir 33 (.call i_avouchref19zdecimal [.t 32]),
   iv 34 (.mv (.t 3)),
   ir 35 (.call i_avouchref19zdecimal [.t 34]),
   iv 36 (.bin .add (.t 33) (.t 35)),
   iv 2 (.mv (.t 36))])
 (.ret))))))
def F_avouchref19zdecimal : AFn := ⟨37, C_avouchref19zdecimal, [.tmp 2], none⟩
def C_avouchref19zdigit : AC := .seq (.reg [iv 2 (.mv (.k (.int .u8 0)))])
 (.seq (.seq (.reg [iv 3 (.mv (.t 0)),
   iv 4 (.bin .lss (.t 3) (.k (.int .i64 10)))])
 (.cond (.t 4)
  (.seq (.reg [iv 5 (.mv (.t 0)),
    iv 6 (.bin .add (.k (.int .i64 48)) (.t 5)),
    iv 7 (.i2i .u8 (.t 6)),
    iv 2 (.mv (.t 7))])
  (.ret))
  (.skip)))
 (.seq (.reg [iv 8 (.mv (.t 0)),
   iv 9 (.bin .add (.k (.int .i64 87)) (.t 8)),
   iv 10 (.i2i .u8 (.t 9)),
   iv 2 (.mv (.t 10))])
 (.ret)))
def F_avouchref19zdigit : AFn := ⟨11, C_avouchref19zdigit, [.tmp 2], none⟩
def C_slices_ContainsFuncscript_Call_script_Call : AC := .seq (.reg [iv 4 (.mv (.k (.bool false)))])
 (.seq (.reg [iv 5 (.mv (.t 0)),
   iv 6 (.mv (.t 1)),
   ir 7 (.call i_slices_IndexFuncscript_Call_script_Call [.t 5, .t 6]),
   iv 8 (.bin .geq (.t 7) (.k (.int .i64 0))),
   iv 4 (.mv (.t 8))])
 (.ret))
def F_slices_ContainsFuncscript_Call_script_Call : AFn := ⟨9, C_slices_ContainsFuncscript_Call_script_Call, [.tmp 4], none⟩
def C_script_Encode_1 : AC := .seq (.reg [iv 1 (.boxv (.t 0)),
   iv 2 (.mv (.k (.bool false)))])
 (.seq (.reg [ir 3 (.ld 4 true (.t 1)),
   ir 4 (.call i_script_Call_bare [.t 3]),
   iv 5 (.un .not (.t 4)),
   iv 2 (.mv (.t 5))])
 (.ret))
def F_script_Encode_1 : AFn := ⟨6, C_script_Encode_1, [.tmp 2], none⟩
def Ba_script_Call_bare : AC := .seq (.reg [iv 32 (.bin .lss (.t 31) (.t 30))])
   (.seq (.cond (.t 32)
    (.skip)
    (.exit 0))
   (.seq (.blk 1
    (.seq (.reg [iv 33 (.mv (.t 31)),
      iv 34 (.iadr none 1 (.t 29) (.t 31)),
      ir 35 (.ld 1 false (.t 34)),
      iv 5 (.mv (.t 33)),
      iv 6 (.mv (.t 35))])
    (.seq (.reg [iv 36 (.mv (.t 6)),
      iv 37 (.bin .lss (.t 36) (.k (.int .i64 0))),
      iv 38 (.mv (.t 37)),
      ⟨(some 39), .v (.mv (.t 6)), (some (38, false)), [], 0, 0⟩,
      ⟨(some 40), .v (.mv (.t 4)), (some (38, false)), [], 0, 0⟩,
      ⟨(some 41), .v (.fadr 0 (.t 1)), (some (38, false)), [], 0, 0⟩,
      ⟨(some 42), .r (.ld 1 false (.t 41)), (some (38, false)), [], 0, 0⟩,
      ⟨(some 43), .v (.iadr none 1 (.t 40) (.t 42)), (some (38, false)), [], 0, 0⟩,
      ⟨(some 44), .r (.ld 1 false (.t 43)), (some (38, false)), [], 0, 0⟩,
      ⟨(some 45), .v (.mv (.t 5)), (some (38, false)), [], 0, 0⟩,
      ⟨(some 46), .v (.iadr none 1 (.t 44) (.t 45)), (some (38, false)), [], 0, 0⟩,
      ⟨(some 47), .r (.ld 1 false (.t 46)), (some (38, false)), [], 0, 0⟩,
      ⟨(some 48), .v (.bin .gtr (.t 39) (.t 47)), (some (38, false)), [], 0, 0⟩,
      iv 49 (.pick (.t 38) (.k (.bool true)) (.t 48))])
    (.cond (.t 49)
     (.seq (.reg [iv 2 (.mv (.k (.bool false)))])
     (.ret))
     (.skip)))))
   (.reg [iv 50 (.bin .add (.t 31) (.k (.int .i64 1))),
     iv 31 (.mv (.t 50))])))
def C_script_Call_bare : AC := .seq (.reg [iv 1 (.boxv (.t 0)),
   iv 2 (.mv (.k (.bool false)))])
 (.seq (.reg [iv 7 (.fadr 1 (.t 1)),
   ir 8 (.ld 1 false (.t 7)),
   iv 9 (.fadr 2 (.t 1)),
   ir 10 (.ld 1 false (.t 9)),
   iv 11 (.fadr 3 (.t 1)),
   ir 12 (.ld 1 false (.t 11)),
   iv 13 (.lenL (.t 12)),
   iv 14 (.slit 1 3 [.int .i64 0] [(0, .t 8), (1, .t 10), (2, .t 13)]),
   iv 3 (.mv (.t 14))])
 (.seq (.reg [iv 15 (.slit 1 3 [.int .i64 0] [(0, .k (.int .i64 255)), (1, .k (.int .i64 0)), (2, .k (.int .i64 65535))]),
   iv 16 (.slit 1 3 [.int .i64 0] [(0, .k (.int .i64 0)), (1, .k (.int .i64 65535)), (2, .k (.int .i64 0))]),
   iv 17 (.slit 1 3 [.int .i64 0] [(0, .k (.int .i64 0)), (1, .k (.int .i64 65535)), (2, .k (.int .i64 0))]),
   iv 18 (.slit 1 3 [.int .i64 0] [(0, .k (.int .i64 0)), (1, .k (.int .i64 0)), (2, .k (.int .i64 0))]),
   iv 19 (.slit 1 3 [.int .i64 0] [(0, .k (.int .i64 0)), (1, .k (.int .i64 0)), (2, .k (.int .i64 0))]),
   iv 20 (.slit 1 5 [.nsl] [(0, .t 15), (1, .t 16), (2, .t 17), (3, .t 18), (4, .t 19)]),
   iv 4 (.mv (.t 20))])
 (.seq (.seq (.reg [iv 21 (.fadr 0 (.t 1)),
   ir 22 (.ld 1 false (.t 21)),
   iv 23 (.bin .lss (.t 22) (.k (.int .i64 0))),
   iv 24 (.mv (.t 23)),
   ⟨(some 25), .v (.fadr 0 (.t 1)), (some (24, false)), [], 0, 0⟩,
   ⟨(some 26), .r (.ld 1 false (.t 25)), (some (24, false)), [], 0, 0⟩,
   ⟨(some 27), .v (.bin .gtr (.t 26) (.k (.int .i64 4))), (some (24, false)), [], 0, 0⟩,
   iv 28 (.pick (.t 24) (.k (.bool true)) (.t 27))])
 (.cond (.t 28)
  (.seq (.reg [iv 2 (.mv (.k (.bool false)))])
  (.ret))
  (.skip)))
 (.seq (.seq (.reg [iv 29 (.mv (.t 3)),
   iv 30 (.lenL (.t 29)),
   iv 31 (.mv (.k (.int .i64 0)))])
 (.blk 0
  (.loop Ba_script_Call_bare)))
 (.seq (.reg [iv 2 (.mv (.k (.bool true)))])
 (.ret))))))
def F_script_Call_bare : AFn := ⟨51, C_script_Call_bare, [.tmp 2], none⟩
def C_script_two : AC := .seq (.reg [iv 4 (.mv (.k (.nsl)))])
 (.seq (.reg [iv 5 (.mv (.t 0)),
   iv 6 (.mv (.t 1)),
   iv 7 (.i2i .u8 (.t 6)),
   iv 8 (.mv (.t 1)),
   iv 9 (.bin .shr (.t 8) (.k (.int .u64 8))),
   iv 10 (.i2i .u8 (.t 9)),
   iv 11 (.slit 1 2 [.int .u8 0] [(0, .t 7), (1, .t 10)]),
   ic 12 (.app 1 false (.t 5) (.t 11)),
   iv 4 (.mv (.t 12))])
 (.ret))
def F_script_two : AFn := ⟨13, C_script_two, [.tmp 4], none⟩
def C_avouchref19zin : AC := .seq (.reg [iv 4 (.mv (.k (.bool false)))])
 (.seq (.reg [iv 5 (.mv (.t 0)),
   iv 6 (.bin .geq (.t 5) (.k (.int .i64 0))),
   iv 7 (.mv (.t 6)),
   ⟨(some 8), .v (.mv (.t 0)), (some (7, true)), [], 0, 0⟩,
   ⟨(some 9), .v (.mv (.t 1)), (some (7, true)), [], 0, 0⟩,
   ⟨(some 10), .v (.bin .leq (.t 8) (.t 9)), (some (7, true)), [], 0, 0⟩,
   iv 11 (.pick (.t 7) (.t 10) (.k (.bool false))),
   iv 4 (.mv (.t 11))])
 (.ret))
def F_avouchref19zin : AFn := ⟨12, C_avouchref19zin, [.tmp 4], none⟩
def Ba_avouchref12zNumber : AC := .seq (.seq (.reg [iv 8 (.mv (.t 6)),
     iv 9 (.mv (.t 1)),
     iv 10 (.bin .lss (.t 8) (.t 9))])
   (.cond (.t 10)
    (.skip)
    (.exit 0)))
   (.seq (.blk 1
    (.seq (.reg [iv 13 (.mv (.t 5)),
      iv 14 (.mv (.t 0)),
      iv 15 (.bin .rem (.t 14) (.k (.int .i64 256))),
      iv 16 (.i2i .u8 (.t 15)),
      iv 17 (.slit 1 1 [.int .u8 0] [(0, .t 16)]),
      ic 18 (.app 1 false (.t 13) (.t 17)),
      iv 5 (.mv (.t 18))])
    (.reg [iv 19 (.mv (.t 0)),
      iv 20 (.bin .quo (.t 19) (.k (.int .i64 256))),
      iv 0 (.mv (.t 20))])))
   (.reg [iv 11 (.mv (.t 6)),
     iv 12 (.bin .add (.t 11) (.k (.int .i64 1))),
     iv 6 (.mv (.t 12))]))
def C_avouchref12zNumber : AC := .seq (.reg [iv 4 (.mv (.k (.nsl)))])
 (.seq (.reg [iv 7 (.slit 1 0 [.int .u8 0] []),
   iv 5 (.mv (.t 7))])
 (.seq (.seq (.reg [iv 6 (.mv (.k (.int .i64 0)))])
 (.blk 0
  (.loop Ba_avouchref12zNumber)))
 (.seq (.reg [iv 21 (.mv (.t 5)),
   iv 4 (.mv (.t 21))])
 (.ret))))
def F_avouchref12zNumber : AFn := ⟨22, C_avouchref12zNumber, [.tmp 4], none⟩
def C_avouchref19zright : AC := .seq (.reg [iv 1 (.boxv (.t 0)),
   iv 2 (.mv (.k (.bool false)))])
 (.seq (.seq (.reg [iv 3 (.fadr 0 (.t 1)),
   ir 4 (.ld 1 false (.t 3))])
 (.blk 0
  (.seq (.reg [iv 6 (.bin .eql (.t 4) (.k (.int .i64 0))),
    iv 5 (.mv (.t 6))])
  (.cond (.t 5)
   (.seq (.reg [iv 7 (.fadr 1 (.t 1)),
     ir 8 (.ld 1 false (.t 7)),
     ir 9 (.call i_avouchref19zin [.t 8, .k (.int .i64 255)]),
     iv 10 (.mv (.t 9)),
     ⟨(some 11), .v (.fadr 2 (.t 1)), (some (10, true)), [], 0, 0⟩,
     ⟨(some 12), .r (.ld 1 false (.t 11)), (some (10, true)), [], 0, 0⟩,
     ⟨(some 13), .v (.bin .eql (.t 12) (.k (.int .i64 0))), (some (10, true)), [], 0, 0⟩,
     iv 14 (.pick (.t 10) (.t 13) (.k (.bool false))),
     iv 15 (.mv (.t 14)),
     ⟨(some 16), .v (.fadr 3 (.t 1)), (some (15, true)), [], 0, 0⟩,
     ⟨(some 17), .r (.ld 1 false (.t 16)), (some (15, true)), [], 0, 0⟩,
     ⟨(some 18), .v (.lenL (.t 17)), (some (15, true)), [], 0, 0⟩,
     ⟨(some 19), .v (.bin .leq (.t 18) (.k (.int .i64 65535))), (some (15, true)), [], 0, 0⟩,
     iv 20 (.pick (.t 15) (.t 19) (.k (.bool false))),
     iv 2 (.mv (.t 20))])
   (.ret))
   (.seq (.seq (.reg [iv 22 (.bin .eql (.t 4) (.k (.int .i64 1))),
     iv 21 (.mv (.t 22))])
   (.cond (.t 21)
    (.skip)
    (.reg [iv 23 (.bin .eql (.t 4) (.k (.int .i64 2))),
      iv 21 (.mv (.t 23))])))
   (.cond (.t 21)
    (.seq (.reg [iv 24 (.fadr 1 (.t 1)),
      ir 25 (.ld 1 false (.t 24)),
      iv 26 (.bin .eql (.t 25) (.k (.int .i64 0))),
      iv 27 (.mv (.t 26)),
      ⟨(some 28), .v (.fadr 2 (.t 1)), (some (27, true)), [], 0, 0⟩,
      ⟨(some 29), .r (.ld 1 false (.t 28)), (some (27, true)), [], 0, 0⟩,
      ⟨(some 30), .r (.call i_avouchref19zin [.t 29, .k (.int .i64 65535)]), (some (27, true)), [], 0, 0⟩,
      iv 31 (.pick (.t 27) (.t 30) (.k (.bool false))),
      iv 32 (.mv (.t 31)),
      ⟨(some 33), .v (.fadr 3 (.t 1)), (some (32, true)), [], 0, 0⟩,
      ⟨(some 34), .r (.ld 1 false (.t 33)), (some (32, true)), [], 0, 0⟩,
      ⟨(some 35), .v (.lenL (.t 34)), (some (32, true)), [], 0, 0⟩,
      ⟨(some 36), .v (.bin .eql (.t 35) (.k (.int .i64 0))), (some (32, true)), [], 0, 0⟩,
      iv 37 (.pick (.t 32) (.t 36) (.k (.bool false))),
      iv 2 (.mv (.t 37))])
    (.ret))
    (.seq (.seq (.reg [iv 39 (.bin .eql (.t 4) (.k (.int .i64 3))),
      iv 38 (.mv (.t 39))])
    (.cond (.t 38)
     (.skip)
     (.reg [iv 40 (.bin .eql (.t 4) (.k (.int .i64 4))),
       iv 38 (.mv (.t 40))])))
    (.cond (.t 38)
     (.seq (.reg [iv 41 (.fadr 1 (.t 1)),
       ir 42 (.ld 1 false (.t 41)),
       iv 43 (.bin .eql (.t 42) (.k (.int .i64 0))),
       iv 44 (.mv (.t 43)),
       ⟨(some 45), .v (.fadr 2 (.t 1)), (some (44, true)), [], 0, 0⟩,
       ⟨(some 46), .r (.ld 1 false (.t 45)), (some (44, true)), [], 0, 0⟩,
       ⟨(some 47), .v (.bin .eql (.t 46) (.k (.int .i64 0))), (some (44, true)), [], 0, 0⟩,
       iv 48 (.pick (.t 44) (.t 47) (.k (.bool false))),
       iv 49 (.mv (.t 48)),
       ⟨(some 50), .v (.fadr 3 (.t 1)), (some (49, true)), [], 0, 0⟩,
       ⟨(some 51), .r (.ld 1 false (.t 50)), (some (49, true)), [], 0, 0⟩,
       ⟨(some 52), .v (.lenL (.t 51)), (some (49, true)), [], 0, 0⟩,
       ⟨(some 53), .v (.bin .eql (.t 52) (.k (.int .i64 0))), (some (49, true)), [], 0, 0⟩,
       iv 54 (.pick (.t 49) (.t 53) (.k (.bool false))),
       iv 2 (.mv (.t 54))])
     (.ret))
     (.skip)))))))))
 (.seq (.reg [iv 2 (.mv (.k (.bool false)))])
 (.ret)))
def F_avouchref19zright : AFn := ⟨55, C_avouchref19zright, [.tmp 2], none⟩
def Ba_avouchref19zSame : AC := .seq (.seq (.reg [iv 11 (.mv (.t 5)),
     iv 12 (.mv (.t 0)),
     iv 13 (.lenL (.t 12)),
     iv 14 (.bin .lss (.t 11) (.t 13))])
   (.cond (.t 14)
    (.skip)
    (.exit 0)))
   (.seq (.blk 1
    (.seq (.draw [⟨(some 17), .v (.mv (.t 0)), none, [0], 0, 0⟩,
      ⟨(some 18), .v (.mv (.t 5)), none, [5], 0, 0⟩,
      ⟨(some 19), .v (.iadr none 4 (.t 17) (.t 18)), none, [17, 18], 0, 0⟩,
      ⟨(some 20), .v (.fadr 0 (.t 19)), none, [19], 0, 0⟩,
      ⟨(some 21), .r (.ld 1 false (.t 20)), none, [20], 0, 0⟩,
      ⟨(some 22), .v (.mv (.t 1)), none, [1], 0, 0⟩,
      ⟨(some 23), .v (.mv (.t 5)), none, [5], 0, 0⟩,
      ⟨(some 24), .v (.iadr none 4 (.t 22) (.t 23)), none, [22, 23], 0, 0⟩,
      ⟨(some 25), .v (.fadr 0 (.t 24)), none, [24], 0, 0⟩,
      ⟨(some 26), .r (.ld 1 false (.t 25)), none, [25], 0, 0⟩,
      ⟨(some 27), .v (.bin .neq (.t 21) (.t 26)), none, [21, 26], 0, 0⟩,
      ⟨(some 28), .v (.mv (.t 27)), none, [27], 0, 0⟩,
      ⟨(some 29), .v (.mv (.t 0)), (some (28, false)), [0, 28], 0, 0⟩,
      ⟨(some 30), .v (.mv (.t 5)), (some (28, false)), [5, 28], 0, 0⟩,
      ⟨(some 31), .v (.iadr none 4 (.t 29) (.t 30)), (some (28, false)), [29, 30, 28], 0, 0⟩,
      ⟨(some 32), .v (.fadr 1 (.t 31)), (some (28, false)), [31, 28], 0, 0⟩,
      ⟨(some 33), .r (.ld 1 false (.t 32)), (some (28, false)), [32, 28], 0, 0⟩,
      ⟨(some 34), .v (.mv (.t 1)), (some (28, false)), [1, 28], 0, 0⟩,
      ⟨(some 35), .v (.mv (.t 5)), (some (28, false)), [5, 28], 0, 0⟩,
      ⟨(some 36), .v (.iadr none 4 (.t 34) (.t 35)), (some (28, false)), [34, 35, 28], 0, 0⟩,
      ⟨(some 37), .v (.fadr 1 (.t 36)), (some (28, false)), [36, 28], 0, 0⟩,
      ⟨(some 38), .r (.ld 1 false (.t 37)), (some (28, false)), [37, 28], 0, 0⟩,
      ⟨(some 39), .v (.bin .neq (.t 33) (.t 38)), (some (28, false)), [33, 38, 28], 0, 0⟩,
      ⟨(some 40), .v (.pick (.t 28) (.k (.bool true)) (.t 39)), none, [28, 39], 0, 0⟩,
      ⟨(some 41), .v (.mv (.t 40)), none, [40], 0, 0⟩,
      ⟨(some 42), .v (.mv (.t 0)), (some (41, false)), [0, 41], 0, 0⟩,
      ⟨(some 43), .v (.mv (.t 5)), (some (41, false)), [5, 41], 0, 0⟩,
      ⟨(some 44), .v (.iadr none 4 (.t 42) (.t 43)), (some (41, false)), [42, 43, 41], 0, 0⟩,
      ⟨(some 45), .v (.fadr 2 (.t 44)), (some (41, false)), [44, 41], 0, 0⟩,
      ⟨(some 46), .r (.ld 1 false (.t 45)), (some (41, false)), [45, 41], 0, 0⟩,
      ⟨(some 47), .v (.mv (.t 1)), (some (41, false)), [1, 41], 0, 0⟩,
      ⟨(some 48), .v (.mv (.t 5)), (some (41, false)), [5, 41], 0, 0⟩,
      ⟨(some 49), .v (.iadr none 4 (.t 47) (.t 48)), (some (41, false)), [47, 48, 41], 0, 0⟩,
      ⟨(some 50), .v (.fadr 2 (.t 49)), (some (41, false)), [49, 41], 0, 0⟩,
      ⟨(some 51), .r (.ld 1 false (.t 50)), (some (41, false)), [50, 41], 0, 0⟩,
      ⟨(some 52), .v (.bin .neq (.t 46) (.t 51)), (some (41, false)), [46, 51, 41], 0, 0⟩,
      ⟨(some 53), .v (.pick (.t 41) (.k (.bool true)) (.t 52)), none, [41, 52], 0, 0⟩,
      ⟨(some 54), .v (.mv (.t 53)), none, [53], 0, 0⟩,
      ⟨(some 55), .v (.mv (.t 0)), (some (54, false)), [0, 54], 0, 0⟩,
      ⟨(some 56), .v (.mv (.t 5)), (some (54, false)), [5, 54], 0, 0⟩,
      ⟨(some 57), .v (.iadr none 4 (.t 55) (.t 56)), (some (54, false)), [55, 56, 54], 0, 0⟩,
      ⟨(some 58), .v (.fadr 3 (.t 57)), (some (54, false)), [57, 54], 0, 0⟩,
      ⟨(some 59), .r (.ld 1 false (.t 58)), (some (54, false)), [58, 54], 0, 0⟩,
      ⟨(some 60), .r (.b2s (.t 59)), (some (54, false)), [59, 54], 0, 0⟩,
      ⟨(some 61), .v (.mv (.t 1)), (some (54, false)), [1, 54], 0, 0⟩,
      ⟨(some 62), .v (.mv (.t 5)), (some (54, false)), [5, 54], 0, 0⟩,
      ⟨(some 63), .v (.iadr none 4 (.t 61) (.t 62)), (some (54, false)), [61, 62, 54], 0, 0⟩,
      ⟨(some 64), .v (.fadr 3 (.t 63)), (some (54, false)), [63, 54], 0, 0⟩,
      ⟨(some 65), .r (.ld 1 false (.t 64)), (some (54, false)), [64, 54], 0, 0⟩,
      ⟨(some 66), .r (.b2s (.t 65)), (some (54, false)), [65, 54], 0, 0⟩,
      ⟨(some 67), .v (.bin .neq (.t 60) (.t 66)), (some (54, false)), [60, 66, 54], 0, 0⟩,
      ⟨(some 68), .v (.pick (.t 54) (.k (.bool true)) (.t 67)), none, [54, 67], 0, 0⟩])
    (.cond (.t 68)
     (.seq (.reg [iv 4 (.mv (.k (.bool false)))])
     (.ret))
     (.skip))))
   (.reg [iv 15 (.mv (.t 5)),
     iv 16 (.bin .add (.t 15) (.k (.int .i64 1))),
     iv 5 (.mv (.t 16))]))
def C_avouchref19zSame : AC := .seq (.reg [iv 4 (.mv (.k (.bool false)))])
 (.seq (.seq (.reg [iv 6 (.mv (.t 0)),
   iv 7 (.lenL (.t 6)),
   iv 8 (.mv (.t 1)),
   iv 9 (.lenL (.t 8)),
   iv 10 (.bin .neq (.t 7) (.t 9))])
 (.cond (.t 10)
  (.seq (.reg [iv 4 (.mv (.k (.bool false)))])
  (.ret))
  (.skip)))
 (.seq (.seq (.reg [iv 5 (.mv (.k (.int .i64 0)))])
 (.blk 0
  (.loop Ba_avouchref19zSame)))
 (.seq (.reg [iv 4 (.mv (.k (.bool true)))])
 (.ret))))
def F_avouchref19zSame : AFn := ⟨69, C_avouchref19zSame, [.tmp 4], none⟩
def C_avouchref19zpair : AC := .seq (.reg [iv 4 (.mv (.k (.int .i64 0)))])
 (.seq (.seq (.reg [iv 5 (.mv (.t 1)),
   iv 6 (.bin .add (.t 5) (.k (.int .i64 2))),
   iv 7 (.mv (.t 0)),
   iv 8 (.lenL (.t 7)),
   iv 9 (.bin .gtr (.t 6) (.t 8))])
 (.cond (.t 9)
  (.seq (.reg [iv 4 (.mv (.k (.int .i64 (-1))))])
  (.ret))
  (.skip)))
 (.seq (.draw [⟨(some 10), .v (.mv (.t 0)), none, [0], 0, 0⟩,
   ⟨(some 11), .v (.mv (.t 1)), none, [1], 0, 0⟩,
   ⟨(some 12), .v (.iadr none 1 (.t 10) (.t 11)), none, [10, 11], 0, 0⟩,
   ⟨(some 13), .r (.ld 1 false (.t 12)), none, [12], 0, 0⟩,
   ⟨(some 14), .v (.i2i .i64 (.t 13)), none, [13], 0, 0⟩,
   ⟨(some 15), .v (.mv (.t 0)), none, [0], 0, 0⟩,
   ⟨(some 16), .v (.mv (.t 1)), none, [1], 0, 0⟩,
   ⟨(some 17), .v (.bin .add (.t 16) (.k (.int .i64 1))), none, [16], 0, 0⟩,
   ⟨(some 18), .v (.iadr none 1 (.t 15) (.t 17)), none, [15, 17], 0, 0⟩,
   ⟨(some 19), .r (.ld 1 false (.t 18)), none, [18], 0, 0⟩,
   ⟨(some 20), .v (.i2i .i64 (.t 19)), none, [19], 0, 0⟩,
   ⟨(some 21), .v (.bin .mul (.k (.int .i64 256)) (.t 20)), none, [20], 0, 0⟩,
   ⟨(some 22), .v (.bin .add (.t 14) (.t 21)), none, [14, 21], 0, 0⟩,
   ⟨(some 4), .v (.mv (.t 22)), none, [22], 0, 0⟩])
 (.ret)))
def F_avouchref19zpair : AFn := ⟨23, C_avouchref19zpair, [.tmp 4], none⟩
def Ba_slices_IndexFuncscript_Call_script_Call : AC := .seq (.reg [iv 9 (.bin .lss (.t 8) (.t 7))])
   (.seq (.cond (.t 9)
    (.skip)
    (.exit 0))
   (.seq (.blk 1
    (.seq (.reg [iv 10 (.mv (.t 8)),
      iv 5 (.mv (.t 10))])
    (.seq (.reg [iv 11 (.mv (.t 1)),
      iv 12 (.mv (.t 0)),
      iv 13 (.mv (.t 5)),
      iv 14 (.iadr none 4 (.t 12) (.t 13)),
      ir 15 (.ld 4 true (.t 14)),
      ic 16 (.callv (.t 11) [.t 15])])
    (.cond (.t 16)
     (.seq (.reg [iv 17 (.mv (.t 5)),
       iv 4 (.mv (.t 17))])
     (.ret))
     (.skip)))))
   (.reg [iv 18 (.bin .add (.t 8) (.k (.int .i64 1))),
     iv 8 (.mv (.t 18))])))
def C_slices_IndexFuncscript_Call_script_Call : AC := .seq (.reg [iv 4 (.mv (.k (.int .i64 0)))])
 (.seq (.seq (.reg [iv 6 (.mv (.t 0)),
   iv 7 (.lenL (.t 6)),
   iv 8 (.mv (.k (.int .i64 0)))])
 (.blk 0
  (.loop Ba_slices_IndexFuncscript_Call_script_Call)))
 (.seq (.reg [iv 4 (.mv (.k (.int .i64 (-1))))])
 (.ret)))
def F_slices_IndexFuncscript_Call_script_Call : AFn := ⟨19, C_slices_IndexFuncscript_Call_script_Call, [.tmp 4], none⟩
def fnsT : FuncId → Option AFn
  | 2 => some F_gosem_cut_init
  | 3 => some F_avouchlaw19zScriptTexts
  | 4 => some F_avouchlaw19zScriptTells
  | 5 => some F_avouchlaw19zScriptReads
  | 6 => some F_avouchlaw19zspeaks
  | 8 => some F_avouchref19zText
  | 9 => some F_script_Encode
  | 10 => some F_avouchlaw19zOf
  | 11 => some F_avouchref19zEncode
  | 13 => some F_avouchlaw19zis
  | 14 => some F_avouchref19zDecode
  | 19 => some F_avouchref19zdecimal
  | 20 => some F_avouchref19zdigit
  | 21 => some F_slices_ContainsFuncscript_Call_script_Call
  | 22 => some F_script_Encode_1
  | 23 => some F_script_Call_bare
  | 24 => some F_script_two
  | 25 => some F_avouchref19zin
  | 26 => some F_avouchref12zNumber
  | 27 => some F_avouchref19zright
  | 31 => some F_avouchref19zSame
  | 32 => some F_avouchref19zpair
  | 35 => some F_slices_IndexFuncscript_Call_script_Call
  | _ => none
def modeT : FuncId → Av.Mode
  | 24 => ⟨false, false, false, true⟩
  | _ => Mode.pure
def globT : Nat → Option (List AVal)
  | 0 => some ((Go.Lib.pow10Tab.map fun z => AVal.int .u64 z))
  | _ => none
def methL : List (TypeId × String × FuncId) := []
def methT (t : TypeId) (n : String) : Option (List (Nat × Nat × Bool) × FuncId) := (methL.find? fun r => r.1 == t && r.2.1 == n).map fun r => ([], r.2.2)
def extT : FuncId → Option ExtF
  | 7 => some (textX)
  | 12 => some (decX)
  | _ => none
def ctx : Ctx := { fns := fnsT, mode := modeT, glob := globT, meth := methT, ext := extT, qinv := fun n => false }
abbrev CallE (f : FuncId) (m : Mode) (n : Nat) (c : AC) (r : List ARes) : Prop := ∀ (L : Lim) (a : List AVal) (h : AHeap), acall ctx L f a h = callR ctx L m h n c r (argsA m h a)
theorem ext_script_Text : ctx.ext i_script_Text = some (textX) := rfl
theorem ext_script_Decode : ctx.ext i_script_Decode = some (decX) := rfl
theorem call_gosem_cut_init : CallE i_gosem_cut_init Mode.pure 1 C_gosem_cut_init [] := fun L a h => acall_at h L rfl rfl a
@[simp] theorem quiet_gosem_cut_init : quietMode ctx i_gosem_cut_init = true := rfl
theorem call_avouchlaw19zScriptTexts : CallE i_avouchlaw19zScriptTexts Mode.pure 38 C_avouchlaw19zScriptTexts [.tmp 2] := fun L a h => acall_at h L rfl rfl a
@[simp] theorem quiet_avouchlaw19zScriptTexts : quietMode ctx i_avouchlaw19zScriptTexts = true := rfl
theorem call_avouchlaw19zScriptTells : CallE i_avouchlaw19zScriptTells Mode.pure 73 C_avouchlaw19zScriptTells [.tmp 2] := fun L a h => acall_at h L rfl rfl a
@[simp] theorem quiet_avouchlaw19zScriptTells : quietMode ctx i_avouchlaw19zScriptTells = true := rfl
theorem call_avouchlaw19zScriptReads : CallE i_avouchlaw19zScriptReads Mode.pure 52 C_avouchlaw19zScriptReads [.tmp 2] := fun L a h => acall_at h L rfl rfl a
@[simp] theorem quiet_avouchlaw19zScriptReads : quietMode ctx i_avouchlaw19zScriptReads = true := rfl
theorem call_avouchlaw19zspeaks : CallE i_avouchlaw19zspeaks Mode.pure 6 C_avouchlaw19zspeaks [.tmp 0] := fun L a h => acall_at h L rfl rfl a
@[simp] theorem quiet_avouchlaw19zspeaks : quietMode ctx i_avouchlaw19zspeaks = true := rfl
theorem call_avouchref19zText : CallE i_avouchref19zText Mode.pure 62 C_avouchref19zText [.tmp 2] := fun L a h => acall_at h L rfl rfl a
@[simp] theorem quiet_avouchref19zText : quietMode ctx i_avouchref19zText = true := rfl
theorem call_script_Encode : CallE i_script_Encode Mode.pure 80 C_script_Encode [.tmp 2, .tmp 3] := fun L a h => acall_at h L rfl rfl a
@[simp] theorem quiet_script_Encode : quietMode ctx i_script_Encode = true := rfl
theorem call_avouchlaw19zOf : CallE i_avouchlaw19zOf Mode.pure 34 C_avouchlaw19zOf [.cell 2 3 true] := fun L a h => acall_at h L rfl rfl a
@[simp] theorem quiet_avouchlaw19zOf : quietMode ctx i_avouchlaw19zOf = true := rfl
theorem call_avouchref19zEncode : CallE i_avouchref19zEncode Mode.pure 85 C_avouchref19zEncode [.tmp 2, .tmp 3] := fun L a h => acall_at h L rfl rfl a
@[simp] theorem quiet_avouchref19zEncode : quietMode ctx i_avouchref19zEncode = true := rfl
theorem call_avouchlaw19zis : CallE i_avouchlaw19zis Mode.pure 49 C_avouchlaw19zis [.tmp 4] := fun L a h => acall_at h L rfl rfl a
@[simp] theorem quiet_avouchlaw19zis : quietMode ctx i_avouchlaw19zis = true := rfl
theorem call_avouchref19zDecode : CallE i_avouchref19zDecode Mode.pure 118 C_avouchref19zDecode [.cell 2 3 true, .tmp 3] := fun L a h => acall_at h L rfl rfl a
@[simp] theorem quiet_avouchref19zDecode : quietMode ctx i_avouchref19zDecode = true := rfl
theorem call_avouchref19zdecimal : CallE i_avouchref19zdecimal Mode.pure 37 C_avouchref19zdecimal [.tmp 2] := fun L a h => acall_at h L rfl rfl a
@[simp] theorem quiet_avouchref19zdecimal : quietMode ctx i_avouchref19zdecimal = true := rfl
theorem call_avouchref19zdigit : CallE i_avouchref19zdigit Mode.pure 11 C_avouchref19zdigit [.tmp 2] := fun L a h => acall_at h L rfl rfl a
@[simp] theorem quiet_avouchref19zdigit : quietMode ctx i_avouchref19zdigit = true := rfl
theorem call_slices_ContainsFuncscript_Call_script_Call : CallE i_slices_ContainsFuncscript_Call_script_Call Mode.pure 9 C_slices_ContainsFuncscript_Call_script_Call [.tmp 4] := fun L a h => acall_at h L rfl rfl a
@[simp] theorem quiet_slices_ContainsFuncscript_Call_script_Call : quietMode ctx i_slices_ContainsFuncscript_Call_script_Call = true := rfl
theorem call_script_Encode_1 : CallE i_script_Encode_1 Mode.pure 6 C_script_Encode_1 [.tmp 2] := fun L a h => acall_at h L rfl rfl a
@[simp] theorem quiet_script_Encode_1 : quietMode ctx i_script_Encode_1 = true := rfl
theorem call_script_Call_bare : CallE i_script_Call_bare Mode.pure 51 C_script_Call_bare [.tmp 2] := fun L a h => acall_at h L rfl rfl a
@[simp] theorem quiet_script_Call_bare : quietMode ctx i_script_Call_bare = true := rfl
theorem call_script_two : CallE i_script_two (⟨false, false, false, true⟩) 13 C_script_two [.tmp 4] := fun L a h => acall_at h L rfl rfl a
@[simp] theorem quiet_script_two : quietMode ctx i_script_two = false := rfl
theorem call_avouchref19zin : CallE i_avouchref19zin Mode.pure 12 C_avouchref19zin [.tmp 4] := fun L a h => acall_at h L rfl rfl a
@[simp] theorem quiet_avouchref19zin : quietMode ctx i_avouchref19zin = true := rfl
theorem call_avouchref12zNumber : CallE i_avouchref12zNumber Mode.pure 22 C_avouchref12zNumber [.tmp 4] := fun L a h => acall_at h L rfl rfl a
@[simp] theorem quiet_avouchref12zNumber : quietMode ctx i_avouchref12zNumber = true := rfl
theorem call_avouchref19zright : CallE i_avouchref19zright Mode.pure 55 C_avouchref19zright [.tmp 2] := fun L a h => acall_at h L rfl rfl a
@[simp] theorem quiet_avouchref19zright : quietMode ctx i_avouchref19zright = true := rfl
theorem call_avouchref19zSame : CallE i_avouchref19zSame Mode.pure 69 C_avouchref19zSame [.tmp 4] := fun L a h => acall_at h L rfl rfl a
@[simp] theorem quiet_avouchref19zSame : quietMode ctx i_avouchref19zSame = true := rfl
theorem call_avouchref19zpair : CallE i_avouchref19zpair Mode.pure 23 C_avouchref19zpair [.tmp 4] := fun L a h => acall_at h L rfl rfl a
@[simp] theorem quiet_avouchref19zpair : quietMode ctx i_avouchref19zpair = true := rfl
theorem call_slices_IndexFuncscript_Call_script_Call : CallE i_slices_IndexFuncscript_Call_script_Call Mode.pure 19 C_slices_IndexFuncscript_Call_script_Call [.tmp 4] := fun L a h => acall_at h L rfl rfl a
@[simp] theorem quiet_slices_IndexFuncscript_Call_script_Call : quietMode ctx i_slices_IndexFuncscript_Call_script_Call = true := rfl
end Go.Av
