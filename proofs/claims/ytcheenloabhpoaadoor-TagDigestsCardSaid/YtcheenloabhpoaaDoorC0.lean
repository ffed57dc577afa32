/- The functions of the program as the machine's code, printed by a program of mine. -/
import Derived.Test.YtcheenloabhpoaaDoorV5
namespace Go.Av
set_option maxRecDepth 100000
def i_main_main : FuncId := 0
def i_gosem_cut : FuncId := 1
def i_gosem_cut_init : FuncId := 2
def i_avouchlaw14zTagDigests : FuncId := 3
def i_avouchlaw14zspeaks : FuncId := 4
def i_pattern_Serialise : FuncId := 5
def i_avouchlaw13zOfs : FuncId := 6
def i_tag_Tag : FuncId := 7
def i_tag_Element : FuncId := 8
def i_field_Element_Equal : FuncId := 9
def i_field_FromWide : FuncId := 10
def i_digest_Sum : FuncId := 11
def i_item_Encode : FuncId := 12
def i_avouchlaw12zOf : FuncId := 13
def i_field_prime : FuncId := 14
def i_limb_New : FuncId := 15
def i_field_enter : FuncId := 16
def i_limb_Modulus_Reduce : FuncId := 17
def i_limb_Words : FuncId := 18
def i_digest_Hash_Write : FuncId := 19
def i_digest_Hash_Sum : FuncId := 20
def i_item_Check : FuncId := 21
def i_item_number : FuncId := 22
def i_slices_Cloneuint64zuint64 : FuncId := 23
def i_limb_Modulus_twice : FuncId := 24
def i_field_below : FuncId := 25
def i_field_plus : FuncId := 26
def i_field_product : FuncId := 27
def i_limb_Bits : FuncId := 28
def i_digest_Hash_put : FuncId := 29
def i_keccak_State_Permute : FuncId := 30
def i_keccak_State_Bytes : FuncId := 31
def i_item_types : FuncId := 32
def i_slices_Containsint_int : FuncId := 33
def i_limb_Modulus_less : FuncId := 34
def i_field_borrow : FuncId := 35
def i_math_bits_Add64 : FuncId := 36
def i_field_inverse : FuncId := 37
def i_field_line : FuncId := 38
def i_math_bits_Len64 : FuncId := 39
def i_keccak_State_Round : FuncId := 40
def i_limb_Bytes : FuncId := 41
def i_slices_Indexint_int : FuncId := 42
def i_limb_Cmp : FuncId := 43
def i_limb_Sub : FuncId := 44
def i_math_bits_Sub64 : FuncId := 45
def i_math_bits_Mul64 : FuncId := 46
def i_keccak_State_theta : FuncId := 47
def i_keccak_State_rhoPi : FuncId := 48
def i_keccak_State_chi : FuncId := 49
def i_keccak_Constant : FuncId := 50
def i_cmp_Compareuint64 : FuncId := 51
def i_limb_at : FuncId := 52
def i_limb_each : FuncId := 53
def i_math_bits_RotateLeft64 : FuncId := 54
def i_cmp_isNaNuint64 : FuncId := 55
def i_runtime_boundsError_Error : FuncId := 56
def i_runtime_boundsError_RuntimeError : FuncId := 57
def i_runtime_errorString_Error : FuncId := 58
def i_runtime_errorString_RuntimeError : FuncId := 59
def i_runtime_plainError_Error : FuncId := 60
def i_runtime_plainError_RuntimeError : FuncId := 61
def i_runtime_errorAddressString_Error : FuncId := 62
def i_runtime_errorAddressString_RuntimeError : FuncId := 63
def i_runtime_TypeAssertionError_Error : FuncId := 64
def i_runtime_TypeAssertionError_RuntimeError : FuncId := 65
def i_runtime_PanicNilError_Error : FuncId := 66
def i_runtime_PanicNilError_RuntimeError : FuncId := 67
def i_i_abi_Type_Align : FuncId := 68
def i_i_runtime_maps_unhashableTypeError_Error : FuncId := 69
def i_i_runtime_maps_unhashableTypeError_RuntimeError : FuncId := 70
def i_field_Element_IsZero : FuncId := 71
def i_limb_Modulus_Len : FuncId := 72
def i_i_abi_Kind_String : FuncId := 73
def i_var_s_door_keccak_constants_is_laid_by_its_own_initialiser_p : FuncId := 74
def i_var_s_door_gosem_cut_vars_holds_initialisers_alone_see_the_m : FuncId := 75
def i_var_s_door_the_look_of_gosem_cut_vars_went_over_the_folder_t : FuncId := 76
def i_gosem_cut_vars : FuncId := 77
def txt_0 : ByteArray := ⟨#[0, 1, 2, 2, 3, 3, 3, 3, 4, 4, 4, 4, 4, 4, 4, 4, 5, 5, 5, 5, 5, 5, 5, 5, 5, 5, 5, 5, 5, 5, 5, 5, 6, 6, 6, 6, 6, 6, 6, 6, 6, 6, 6, 6, 6, 6, 6, 6, 6, 6, 6, 6, 6, 6, 6, 6, 6, 6, 6, 6, 6, 6, 6, 6, 7, 7, 7, 7, 7, 7, 7, 7, 7, 7, 7, 7, 7, 7, 7, 7, 7, 7, 7, 7, 7, 7, 7, 7, 7, 7, 7, 7, 7, 7, 7, 7, 7, 7, 7, 7, 7, 7, 7, 7, 7, 7, 7, 7, 7, 7, 7, 7, 7, 7, 7, 7, 7, 7, 7, 7, 7, 7, 7, 7, 7, 7, 7, 7, 8, 8, 8, 8, 8, 8, 8, 8, 8, 8, 8, 8, 8, 8, 8, 8, 8, 8, 8, 8, 8, 8, 8, 8, 8, 8, 8, 8, 8, 8, 8, 8, 8, 8, 8, 8, 8, 8, 8, 8, 8, 8, 8, 8, 8, 8, 8, 8, 8, 8, 8, 8, 8, 8, 8, 8, 8, 8, 8, 8, 8, 8, 8, 8, 8, 8, 8, 8, 8, 8, 8, 8, 8, 8, 8, 8, 8, 8, 8, 8, 8, 8, 8, 8, 8, 8, 8, 8, 8, 8, 8, 8, 8, 8, 8, 8, 8, 8, 8, 8, 8, 8, 8, 8, 8, 8, 8, 8, 8, 8, 8, 8, 8, 8, 8, 8, 8, 8, 8, 8, 8, 8, 8, 8, 8, 8, 8, 8]⟩
def C_gosem_cut_init : AC := .reg [ir 0 (.call i_gosem_cut [])]
def F_gosem_cut_init : AFn := ⟨1, C_gosem_cut_init, []⟩
def C_avouchlaw14zTagDigests : AC := .seq (.reg [ic 5 (.box (.t 2)),
   iv 6 (.mv (.k (.bool false)))])
 (.seq (.seq (.reg [ir 14 (.call i_avouchlaw14zspeaks []),
   iv 15 (.un .not (.t 14)),
   iv 16 (.mv (.t 15)),
   ⟨(some 17), .v (.mv (.t 0)), (some (16, false)), [], 0, 0⟩,
   ⟨(some 18), .v (.lenL (.t 17)), (some (16, false)), [], 0, 0⟩,
   ⟨(some 19), .v (.bin .gtr (.t 18) (.k (.int .i64 20))), (some (16, false)), [], 0, 0⟩,
   iv 20 (.pick (.t 16) (.k (.bool true)) (.t 19))])
 (.cond (.t 20)
  (.seq (.reg [ir 21 (.call i_avouchlaw14zspeaks []),
    iv 6 (.mv (.t 21))])
  (.ret))
  (.skip)))
 (.seq (.reg [iv 7 (.mv (.k (.int .i64 1)))])
 (.seq (.seq (.reg [iv 22 (.mv (.t 1))])
 (.cond (.t 22)
  (.reg [iv 7 (.mv (.k (.int .i64 2)))])
  (.skip)))
 (.seq (.reg [iv 24 (.mv (.t 0)),
   ir 25 (.call i_avouchlaw13zOfs [.t 24]),
   ir 26 (.call i_pattern_Serialise [.t 25]),
   iv 23 (.mv (.t 26)),
   iv 27 (.ext (.t 23) 0),
   iv 28 (.ext (.t 23) 1),
   iv 29 (.ext (.t 23) 2),
   iv 8 (.mv (.t 27)),
   iv 9 (.mv (.t 28)),
   iv 10 (.mv (.t 29))])
 (.seq (.reg [iv 31 (.mv (.t 7)),
   iv 32 (.mv (.t 0)),
   ir 33 (.call i_avouchlaw13zOfs [.t 32]),
   ir 34 (.call i_tag_Tag [.t 31, .t 33]),
   iv 30 (.mv (.t 34)),
   iv 35 (.ext (.t 30) 0),
   iv 36 (.ext (.t 30) 1),
   iv 37 (.ext (.t 30) 2),
   ic 11 (.alloc (rep1 (.int .u8 0) 32)),
   jc (.st 32 (.t 11) (.t 35)),
   iv 12 (.mv (.t 36)),
   iv 13 (.mv (.t 37))])
 (.seq (.seq (.draw [⟨(some 38), .v (.mv (.t 10)), none, [10], 0, 0⟩,
   ⟨(some 39), .v (.mv (.t 13)), none, [13], 0, 0⟩,
   ⟨(some 40), .v (.bin .neq (.t 38) (.t 39)), none, [38, 39], 0, 0⟩,
   ⟨(some 41), .v (.mv (.t 40)), none, [40], 0, 0⟩,
   ⟨(some 42), .v (.mv (.t 9)), (some (41, false)), [9, 41], 0, 0⟩,
   ⟨(some 43), .v (.mv (.t 12)), (some (41, false)), [12, 41], 0, 0⟩,
   ⟨(some 44), .v (.bin .neq (.t 42) (.t 43)), (some (41, false)), [42, 43, 41], 0, 0⟩,
   ⟨(some 45), .v (.pick (.t 41) (.k (.bool true)) (.t 44)), none, [41, 44], 0, 0⟩,
   ⟨(some 46), .v (.mv (.t 45)), none, [45], 0, 0⟩,
   ⟨(some 47), .r (.ld 32 true (.t 5)), (some (46, false)), [5, 46], 0, 0⟩,
   ⟨(some 48), .r (.call i_tag_Element [.t 47]), (some (46, false)), [47, 46], 0, 0⟩,
   ⟨(some 49), .v (.slice (.arr 32) 1 (.t 5) none none none), (some (46, false)), [5, 46], 0, 0⟩,
   ⟨(some 50), .r (.call i_field_FromWide [.t 49]), (some (46, false)), [49, 46], 0, 0⟩,
   ⟨(some 51), .r (.call i_field_Element_Equal [.t 48, .t 50]), (some (46, false)), [48, 50, 46], 0, 0⟩,
   ⟨(some 52), .v (.un .not (.t 51)), (some (46, false)), [51, 46], 0, 0⟩,
   ⟨(some 53), .v (.pick (.t 46) (.k (.bool true)) (.t 52)), none, [46, 52], 0, 0⟩])
 (.cond (.t 53)
  (.seq (.reg [iv 6 (.mv (.k (.bool false)))])
  (.ret))
  (.skip)))
 (.seq (.draw [⟨(some 54), .v (.mv (.t 10)), none, [10], 0, 0⟩,
   ⟨(some 55), .v (.bin .neq (.t 54) (.k (.int .i64 0))), none, [54], 0, 0⟩,
   ⟨(some 56), .v (.mv (.t 55)), none, [55], 0, 0⟩,
   ⟨(some 57), .r (.ld 32 true (.t 11)), (some (56, false)), [11, 56], 0, 1⟩,
   ⟨(some 58), .c (.slit 1 19 [.int .u8 0] [(0, .k (.int .u8 97)), (1, .k (.int .u8 118)), (2, .k (.int .u8 111)), (3, .k (.int .u8 117)), (4, .k (.int .u8 99)), (5, .k (.int .u8 104)), (6, .k (.int .u8 47)), (7, .k (.int .u8 116)), (8, .k (.int .u8 114)), (9, .k (.int .u8 97)), (10, .k (.int .u8 110)), (11, .k (.int .u8 115)), (12, .k (.int .u8 99)), (13, .k (.int .u8 114)), (14, .k (.int .u8 105)), (15, .k (.int .u8 112)), (16, .k (.int .u8 116)), (17, .k (.int .u8 47)), (18, .k (.int .u8 49))]), (some (56, false)), [56], 0, 0⟩,
   ⟨(some 59), .r (.mark (.t 58)), (some (56, false)), [58, 56], 1, 1⟩,
   ⟨(some 60), .v (.mv (.t 7)), (some (56, false)), [7, 56], 0, 0⟩,
   ⟨(some 61), .v (.i2i .u8 (.t 60)), (some (56, false)), [60, 56], 0, 0⟩,
   ⟨(some 62), .v (.slit 1 1 [.int .u8 0] [(0, .t 61)]), (some (56, false)), [61, 56], 0, 0⟩,
   ⟨(some 63), .v (.mv (.t 8)), (some (56, false)), [8, 56], 0, 0⟩,
   ⟨(some 64), .v (.slit 1 3 [.nsl] [(0, .t 59), (1, .t 62), (2, .t 63)]), (some (56, false)), [59, 62, 63, 56], 0, 0⟩,
   ⟨(some 65), .r (.call i_digest_Sum [.t 64]), (some (56, false)), [64, 56], 1, 1⟩,
   ⟨(some 66), .v (.eq (.agg (rep1 .i 32)) false (.t 57) (.t 65)), (some (56, false)), [57, 65, 56], 0, 0⟩,
   ⟨(some 67), .v (.pick (.t 56) (.k (.bool true)) (.t 66)), none, [56, 66], 0, 0⟩,
   ⟨(some 6), .v (.mv (.t 67)), none, [67], 0, 0⟩])
 (.ret))))))))
def F_avouchlaw14zTagDigests : AFn := ⟨68, C_avouchlaw14zTagDigests, [.tmp 6]⟩
def C_avouchlaw14zspeaks : AC := .seq (.reg [iv 0 (.mv (.k (.bool false)))])
 (.seq (.reg [ir 8 (.call i_tag_Tag [.k (.int .i64 1), .k (.nsl)]),
   iv 7 (.mv (.t 8)),
   iv 9 (.ext (.t 7) 0),
   iv 10 (.ext (.t 7) 1),
   iv 11 (.ext (.t 7) 2),
   ic 1 (.alloc (rep1 (.int .u8 0) 32)),
   jc (.st 32 (.t 1) (.t 9)),
   iv 2 (.mv (.t 10)),
   iv 3 (.mv (.t 11))])
 (.seq (.reg [ir 13 (.call i_tag_Tag [.k (.int .i64 2), .k (.nsl)]),
   iv 12 (.mv (.t 13)),
   iv 14 (.ext (.t 12) 0),
   iv 15 (.ext (.t 12) 1),
   iv 16 (.ext (.t 12) 2),
   ic 4 (.alloc (rep1 (.int .u8 0) 32)),
   jc (.st 32 (.t 4) (.t 14)),
   iv 5 (.mv (.t 15)),
   iv 6 (.mv (.t 16))])
 (.seq (.reg [iv 17 (.mv (.t 3)),
   iv 18 (.bin .eql (.t 17) (.k (.int .i64 0))),
   iv 19 (.mv (.t 18)),
   ⟨(some 20), .v (.mv (.t 6)), (some (19, true)), [], 0, 0⟩,
   ⟨(some 21), .v (.bin .eql (.t 20) (.k (.int .i64 0))), (some (19, true)), [], 0, 0⟩,
   iv 22 (.pick (.t 19) (.t 21) (.k (.bool false))),
   iv 23 (.mv (.t 22)),
   ⟨(some 24), .r (.ld 32 true (.t 1)), (some (23, true)), [], 0, 0⟩,
   ⟨(some 25), .r (.ld 32 true (.t 4)), (some (23, true)), [], 0, 0⟩,
   ⟨(some 26), .v (.eq (.agg (rep1 .i 32)) true (.t 24) (.t 25)), (some (23, true)), [], 0, 0⟩,
   iv 27 (.pick (.t 23) (.t 26) (.k (.bool false))),
   iv 28 (.mv (.t 27)),
   iv 29 (.pick (.t 28) (.k (.bool true)) (.k (.bool false))),
   iv 0 (.mv (.t 29))])
 (.ret))))
def F_avouchlaw14zspeaks : AFn := ⟨30, C_avouchlaw14zspeaks, [.tmp 0]⟩
def Ba_pattern_Serialise : AC := .seq (.reg [iv 13 (.bin .lss (.t 12) (.t 11))])
   (.seq (.cond (.t 13)
    (.skip)
    (.exit 0))
   (.seq (.blk 1
    (.seq (.reg [iv 14 (.mv (.t 12)),
      iv 15 (.iadr none 4 (.t 10) (.t 12)),
      ir 16 (.ld 4 true (.t 15)),
      ic 7 (.alloc [.int .i64 0, .int .i64 0, .int .i64 0, .str ⟨#[]⟩]),
      iv 6 (.mv (.t 14)),
      jc (.st 4 (.t 7) (.t 16))])
    (.seq (.seq (.reg [iv 17 (.mv (.t 6)),
      iv 18 (.bin .eql (.t 17) (.k (.int .i64 1024)))])
    (.cond (.t 18)
     (.seq (.reg [iv 19 (.mv (.t 6)),
       iv 2 (.mv (.k (.nsl))),
       iv 3 (.mv (.t 19)),
       iv 4 (.mv (.k (.int .i64 9)))])
     (.ret))
     (.skip)))
    (.seq (.reg [ir 21 (.ld 4 true (.t 7)),
      ir 22 (.call i_item_Encode [.t 21]),
      iv 20 (.mv (.t 22)),
      iv 23 (.ext (.t 20) 0),
      iv 24 (.ext (.t 20) 1),
      iv 8 (.mv (.t 23)),
      iv 9 (.mv (.t 24))])
    (.seq (.seq (.reg [iv 25 (.mv (.t 9)),
      iv 26 (.bin .neq (.t 25) (.k (.int .i64 0)))])
    (.cond (.t 26)
     (.seq (.reg [iv 27 (.mv (.t 6)),
       iv 28 (.mv (.t 9)),
       iv 2 (.mv (.k (.nsl))),
       iv 3 (.mv (.t 27)),
       iv 4 (.mv (.t 28))])
     (.ret))
     (.skip)))
    (.reg [iv 29 (.mv (.t 5)),
      iv 30 (.mv (.t 8)),
      ic 31 (.app 1 false (.t 29) (.t 30)),
      iv 5 (.mv (.t 31))]))))))
   (.reg [iv 32 (.bin .add (.t 12) (.k (.int .i64 1))),
     iv 12 (.mv (.t 32))])))
def C_pattern_Serialise : AC := .seq (.reg [iv 2 (.mv (.k (.nsl))),
   iv 3 (.mv (.k (.int .i64 0))),
   iv 4 (.mv (.k (.int .i64 0)))])
 (.seq (.reg [iv 5 (.mv (.k (.nsl)))])
 (.seq (.seq (.reg [iv 10 (.mv (.t 0)),
   iv 11 (.lenL (.t 10)),
   iv 12 (.mv (.k (.int .i64 0)))])
 (.blk 0
  (.loop Ba_pattern_Serialise)))
 (.seq (.reg [iv 33 (.mv (.t 5)),
   iv 2 (.mv (.t 33)),
   iv 3 (.mv (.k (.int .i64 (-1)))),
   iv 4 (.mv (.k (.int .i64 0)))])
 (.ret))))
def F_pattern_Serialise : AFn := ⟨34, C_pattern_Serialise, [.tmp 2, .tmp 3, .tmp 4]⟩
def Ba_avouchlaw13zOfs : AC := .seq (.reg [iv 9 (.bin .lss (.t 8) (.t 7))])
   (.seq (.cond (.t 9)
    (.skip)
    (.exit 0))
   (.seq (.blk 1
    (.seq (.reg [iv 10 (.iadr none 4 (.t 6) (.t 8)),
      ir 11 (.ld 4 true (.t 10)),
      ic 5 (.alloc [.int .i64 0, .int .i64 0, .int .i64 0, .str ⟨#[]⟩]),
      jc (.st 4 (.t 5) (.t 11))])
    (.reg [iv 12 (.mv (.t 3)),
      ir 13 (.ld 4 true (.t 5)),
      ir 14 (.call i_avouchlaw12zOf [.t 13]),
      iv 15 (.slit 4 1 [.int .i64 0, .int .i64 0, .int .i64 0, .str ⟨#[]⟩] [(0, .t 14)]),
      ic 16 (.app 4 false (.t 12) (.t 15)),
      iv 3 (.mv (.t 16))])))
   (.reg [iv 17 (.bin .add (.t 8) (.k (.int .i64 1))),
     iv 8 (.mv (.t 17))])))
def C_avouchlaw13zOfs : AC := .seq (.reg [iv 2 (.mv (.k (.nsl)))])
 (.seq (.reg [iv 3 (.mv (.k (.nsl)))])
 (.seq (.seq (.reg [iv 6 (.mv (.t 0)),
   iv 7 (.lenL (.t 6)),
   iv 8 (.mv (.k (.int .i64 0)))])
 (.blk 0
  (.loop Ba_avouchlaw13zOfs)))
 (.seq (.reg [iv 18 (.mv (.t 3)),
   iv 2 (.mv (.t 18))])
 (.ret))))
def F_avouchlaw13zOfs : AFn := ⟨19, C_avouchlaw13zOfs, [.tmp 2]⟩
def C_tag_Tag : AC := .seq (.reg [ic 4 (.alloc (rep1 (.int .u8 0) 32)),
   iv 5 (.mv (.k (.int .i64 0))),
   iv 6 (.mv (.k (.int .i64 0)))])
 (.seq (.seq (.reg [iv 10 (.mv (.t 0)),
   iv 11 (.bin .neq (.t 10) (.k (.int .i64 1))),
   iv 12 (.mv (.t 11)),
   ⟨(some 13), .v (.mv (.t 0)), (some (12, true)), [], 0, 0⟩,
   ⟨(some 14), .v (.bin .neq (.t 13) (.k (.int .i64 2))), (some (12, true)), [], 0, 0⟩,
   iv 15 (.pick (.t 12) (.t 14) (.k (.bool false)))])
 (.cond (.t 15)
  (.seq (.reg [iv 16 (.build (rep1 (.int .u8 0) 32) []),
    jc (.st 32 (.t 4) (.t 16)),
    iv 5 (.mv (.k (.int .i64 (-1)))),
    iv 6 (.mv (.k (.int .i64 15)))])
  (.ret))
  (.skip)))
 (.seq (.reg [iv 18 (.mv (.t 1)),
   ir 19 (.call i_pattern_Serialise [.t 18]),
   iv 17 (.mv (.t 19)),
   iv 20 (.ext (.t 17) 0),
   iv 21 (.ext (.t 17) 1),
   iv 22 (.ext (.t 17) 2),
   iv 7 (.mv (.t 20)),
   iv 8 (.mv (.t 21)),
   iv 9 (.mv (.t 22))])
 (.seq (.seq (.reg [iv 23 (.mv (.t 9)),
   iv 24 (.bin .neq (.t 23) (.k (.int .i64 0)))])
 (.cond (.t 24)
  (.seq (.reg [iv 25 (.build (rep1 (.int .u8 0) 32) []),
    iv 26 (.mv (.t 8)),
    iv 27 (.mv (.t 9)),
    jc (.st 32 (.t 4) (.t 25)),
    iv 5 (.mv (.t 26)),
    iv 6 (.mv (.t 27))])
  (.ret))
  (.skip)))
 (.seq (.reg [ic 28 (.slit 1 19 [.int .u8 0] [(0, .k (.int .u8 97)), (1, .k (.int .u8 118)), (2, .k (.int .u8 111)), (3, .k (.int .u8 117)), (4, .k (.int .u8 99)), (5, .k (.int .u8 104)), (6, .k (.int .u8 47)), (7, .k (.int .u8 116)), (8, .k (.int .u8 114)), (9, .k (.int .u8 97)), (10, .k (.int .u8 110)), (11, .k (.int .u8 115)), (12, .k (.int .u8 99)), (13, .k (.int .u8 114)), (14, .k (.int .u8 105)), (15, .k (.int .u8 112)), (16, .k (.int .u8 116)), (17, .k (.int .u8 47)), (18, .k (.int .u8 49))]),
   ir 29 (.mark (.t 28)),
   iv 30 (.mv (.t 0)),
   iv 31 (.i2i .u8 (.t 30)),
   iv 32 (.slit 1 1 [.int .u8 0] [(0, .t 31)]),
   iv 33 (.mv (.t 7)),
   iv 34 (.slit 1 3 [.nsl] [(0, .t 29), (1, .t 32), (2, .t 33)]),
   ir 35 (.call i_digest_Sum [.t 34]),
   jc (.st 32 (.t 4) (.t 35)),
   iv 5 (.mv (.k (.int .i64 (-1)))),
   iv 6 (.mv (.k (.int .i64 0)))])
 (.ret)))))
def F_tag_Tag : AFn := ⟨36, C_tag_Tag, [.cell 4 32 true, .tmp 5, .tmp 6]⟩
def C_tag_Element : AC := .seq (.reg [ic 1 (.box (.t 0)),
   ic 2 (.alloc (rep1 (.int .u64 0) 4))])
 (.seq (.reg [iv 3 (.slice (.arr 32) 1 (.t 1) none none none),
   ir 4 (.call i_field_FromWide [.t 3]),
   jc (.st 4 (.t 2) (.t 4))])
 (.ret))
def F_tag_Element : AFn := ⟨5, C_tag_Element, [.cell 2 4 true]⟩
def C_field_Element_Equal : AC := .seq (.reg [iv 2 (.boxv (.t 0)),
   iv 3 (.boxv (.t 1)),
   iv 4 (.mv (.k (.bool false)))])
 (.seq (.reg [ir 5 (.ld 4 true (.t 2)),
   ir 6 (.ld 4 true (.t 3)),
   iv 7 (.eq (.agg (rep1 .i 4)) false (.t 5) (.t 6)),
   iv 4 (.mv (.t 7))])
 (.ret))
def F_field_Element_Equal : AFn := ⟨8, C_field_Element_Equal, [.tmp 4]⟩
def C_field_FromWide : AC := .seq (.reg [ic 2 (.alloc (rep1 (.int .u64 0) 4))])
 (.seq (.reg [ir 6 (.call i_field_prime []),
   ic 3 (.alloc (rep1 (.int .u64 0) 4)),
   jc (.st 4 (.t 3) (.t 6))])
 (.seq (.reg [iv 8 (.slice (.arr 4) 1 (.t 3) none none none),
   ir 9 (.call i_limb_New [.t 8]),
   iv 7 (.mv (.t 9)),
   iv 10 (.ext (.t 7) 0),
   iv 11 (.ext (.t 7) 1),
   iv 4 (.mv (.t 10)),
   iv 5 (.mv (.t 11))])
 (.seq (.reg [iv 12 (.mv (.t 4)),
   iv 13 (.mv (.t 0)),
   ir 14 (.call i_limb_Words [.t 13]),
   ir 15 (.call i_limb_Modulus_Reduce [.t 12, .t 14]),
   iv 16 (.s2a 4 (.t 15)),
   ir 17 (.ld 4 true (.t 16)),
   ir 18 (.call i_field_enter [.t 17]),
   jc (.st 4 (.t 2) (.t 18))])
 (.ret))))
def F_field_FromWide : AFn := ⟨19, C_field_FromWide, [.cell 2 4 true]⟩
def Ba_digest_Sum : AC := .seq (.reg [iv 9 (.bin .lss (.t 8) (.t 7))])
   (.seq (.cond (.t 9)
    (.skip)
    (.exit 0))
   (.seq (.blk 1
    (.seq (.reg [iv 10 (.iadr none 1 (.t 6) (.t 8)),
      ir 11 (.ld 1 false (.t 10)),
      iv 5 (.mv (.t 11))])
    (.reg [iv 12 (.mv (.t 5)),
      ic 13 (.call i_digest_Hash_Write [.t 3, .t 12])])))
   (.reg [iv 14 (.bin .add (.t 8) (.k (.int .i64 1))),
     iv 8 (.mv (.t 14))])))
def C_digest_Sum : AC := .seq (.reg [ic 2 (.alloc (rep1 (.int .u8 0) 32))])
 (.seq (.reg [ic 3 (.alloc [.int .u64 0, .int .u64 0, .int .u64 0, .int .u64 0, .int .u64 0, .int .u64 0, .int .u64 0, .int .u64 0, .int .u64 0, .int .u64 0, .int .u64 0, .int .u64 0, .int .u64 0, .int .u64 0, .int .u64 0, .int .u64 0, .int .u64 0, .int .u64 0, .int .u64 0, .int .u64 0, .int .u64 0, .int .u64 0, .int .u64 0, .int .u64 0, .int .u64 0, .int .i64 0])])
 (.seq (.seq (.reg [iv 6 (.mv (.t 0)),
   iv 7 (.lenL (.t 6)),
   iv 8 (.mv (.k (.int .i64 0)))])
 (.blk 0
  (.loop Ba_digest_Sum)))
 (.seq (.reg [ir 15 (.call i_digest_Hash_Sum [.t 3]),
   jc (.st 32 (.t 2) (.t 15))])
 (.ret))))
def F_digest_Sum : AFn := ⟨16, C_digest_Sum, [.cell 2 32 true]⟩
def C_item_Encode : AC := .seq (.reg [iv 1 (.boxv (.t 0)),
   iv 2 (.mv (.k (.nsl))),
   iv 3 (.mv (.k (.int .i64 0)))])
 (.seq (.seq (.reg [ir 6 (.ld 4 true (.t 1)),
   ir 7 (.call i_item_Check [.t 6]),
   iv 4 (.mv (.t 7))])
 (.seq (.reg [iv 8 (.mv (.t 4)),
   iv 9 (.bin .neq (.t 8) (.k (.int .i64 0)))])
 (.cond (.t 9)
  (.seq (.reg [iv 10 (.mv (.t 4)),
    iv 2 (.mv (.k (.nsl))),
    iv 3 (.mv (.t 10))])
  (.ret))
  (.skip))))
 (.seq (.reg [iv 11 (.fadr 0 (.t 1)),
   ir 12 (.ld 1 false (.t 11)),
   iv 13 (.i2i .u8 (.t 12)),
   iv 14 (.fadr 1 (.t 1)),
   ir 15 (.ld 1 false (.t 14)),
   iv 16 (.i2i .u8 (.t 15)),
   iv 17 (.slit 1 2 [.int .u8 0] [(0, .t 13), (1, .t 16)]),
   iv 18 (.fadr 2 (.t 1)),
   ir 19 (.ld 1 false (.t 18)),
   ic 20 (.call i_item_number [.t 17, .t 19, .k (.int .i64 4)]),
   iv 5 (.mv (.t 20))])
 (.seq (.draw [⟨(some 21), .v (.mv (.t 5)), none, [5], 0, 0⟩,
   ⟨(some 22), .v (.fadr 3 (.t 1)), none, [1], 0, 0⟩,
   ⟨(some 23), .r (.ld 1 false (.t 22)), none, [22], 0, 0⟩,
   ⟨(some 24), .v (.lenS (.t 23)), none, [23], 0, 0⟩,
   ⟨(some 25), .c (.call i_item_number [.t 21, .t 24, .k (.int .i64 2)]), none, [21, 24], 0, 0⟩,
   ⟨(some 26), .v (.fadr 3 (.t 1)), none, [1], 0, 0⟩,
   ⟨(some 27), .r (.ld 1 false (.t 26)), none, [26], 0, 1⟩,
   ⟨(some 28), .c (.app 1 false (.t 25) (.t 27)), none, [25, 27], 0, 0⟩,
   ⟨(some 2), .v (.mv (.t 28)), none, [28], 0, 0⟩,
   iv 3 (.mv (.k (.int .i64 0)))])
 (.ret))))
def F_item_Encode : AFn := ⟨29, C_item_Encode, [.tmp 2, .tmp 3]⟩
def C_avouchlaw12zOf : AC := .seq (.reg [iv 1 (.boxv (.t 0)),
   ic 2 (.alloc [.int .i64 0, .int .i64 0, .int .i64 0, .str ⟨#[]⟩])])
 (.seq (.reg [iv 3 (.fadr 0 (.t 1)),
   ir 4 (.ld 1 false (.t 3)),
   iv 5 (.fadr 1 (.t 1)),
   ir 6 (.ld 1 false (.t 5)),
   iv 7 (.fadr 2 (.t 1)),
   ir 8 (.ld 1 false (.t 7)),
   iv 9 (.fadr 3 (.t 1)),
   ir 10 (.ld 1 false (.t 9)),
   iv 11 (.build [.int .i64 0, .int .i64 0, .int .i64 0, .str ⟨#[]⟩] [(0, 1, .t 4), (1, 1, .t 6), (2, 1, .t 8), (3, 1, .t 10)]),
   jc (.st 4 (.t 2) (.t 11))])
 (.ret))
def F_avouchlaw12zOf : AFn := ⟨12, C_avouchlaw12zOf, [.cell 2 4 true]⟩
def C_field_prime : AC := .seq (.reg [ic 0 (.alloc (rep1 (.int .u64 0) 4))])
 (.seq (.reg [iv 1 (.build (rep1 (.int .u64 0) 4) [(0, 1, .k (.int .u64 4891460686036598785)), (1, 1, .k (.int .u64 2896914383306846353)), (2, 1, .k (.int .u64 13281191951274694749)), (3, 1, .k (.int .u64 3486998266802970665))]),
   jc (.st 4 (.t 0) (.t 1))])
 (.ret))
def F_field_prime : AFn := ⟨2, C_field_prime, [.cell 0 4 true]⟩
def Ba_limb_New : AC := .seq (.reg [iv 46 (.bin .lss (.t 45) (.k (.int .i64 6)))])
   (.seq (.cond (.t 46)
    (.skip)
    (.exit 0))
   (.seq (.blk 1
    (.reg [iv 47 (.mv (.t 5)),
      iv 48 (.mv (.t 0)),
      iv 49 (.iadr none 1 (.t 48) (.k (.int .i64 0))),
      ir 50 (.ld 1 false (.t 49)),
      iv 51 (.mv (.t 5)),
      iv 52 (.bin .mul (.t 50) (.t 51)),
      iv 53 (.bin .sub (.k (.int .u64 2)) (.t 52)),
      iv 54 (.bin .mul (.t 47) (.t 53)),
      iv 5 (.mv (.t 54))]))
   (.reg [iv 55 (.bin .add (.t 45) (.k (.int .i64 1))),
     iv 45 (.mv (.t 55))])))
def Bb_limb_New : AC := .seq (.reg [iv 76 (.bin .lss (.t 75) (.t 74))])
   (.seq (.cond (.t 76)
    (.skip)
    (.exit 2))
   (.seq (.blk 3
    (.reg [iv 77 (.mv (.t 4)),
      iv 78 (.mv (.t 4)),
      iv 79 (.mv (.t 4)),
      iv 80 (.nck (.t 79)),
      iv 81 (.fadr 2 (.t 80)),
      ir 82 (.ld 1 false (.t 81)),
      ir 83 (.call i_limb_Modulus_twice [.t 78, .t 82, .k (.int .u64 0)]),
      iv 84 (.nck (.t 77)),
      iv 85 (.fadr 2 (.t 84)),
      jc (.st 1 (.t 85) (.t 83))]))
   (.reg [iv 86 (.bin .add (.t 75) (.k (.int .i64 1))),
     iv 75 (.mv (.t 86))])))
def C_limb_New : AC := .seq (.reg [iv 2 (.mv (.k (.nilp))),
   iv 3 (.mv (.k (.int .i64 0)))])
 (.seq (.seq (.reg [iv 6 (.mv (.t 0)),
   iv 7 (.lenL (.t 6)),
   iv 8 (.bin .lss (.t 7) (.k (.int .i64 1))),
   iv 9 (.mv (.t 8)),
   ⟨(some 10), .v (.mv (.t 0)), (some (9, false)), [], 0, 0⟩,
   ⟨(some 11), .v (.lenL (.t 10)), (some (9, false)), [], 0, 0⟩,
   ⟨(some 12), .v (.bin .gtr (.t 11) (.k (.int .i64 16))), (some (9, false)), [], 0, 0⟩,
   iv 13 (.pick (.t 9) (.k (.bool true)) (.t 12)),
   iv 14 (.mv (.t 13)),
   ⟨(some 15), .v (.mv (.t 0)), (some (14, false)), [], 0, 0⟩,
   ⟨(some 16), .v (.iadr none 1 (.t 15) (.k (.int .i64 0))), (some (14, false)), [], 0, 0⟩,
   ⟨(some 17), .r (.ld 1 false (.t 16)), (some (14, false)), [], 0, 0⟩,
   ⟨(some 18), .v (.bin .and (.t 17) (.k (.int .u64 1))), (some (14, false)), [], 0, 0⟩,
   ⟨(some 19), .v (.bin .eql (.t 18) (.k (.int .u64 0))), (some (14, false)), [], 0, 0⟩,
   iv 20 (.pick (.t 14) (.k (.bool true)) (.t 19)),
   iv 21 (.mv (.t 20)),
   ⟨(some 22), .v (.mv (.t 0)), (some (21, false)), [], 0, 0⟩,
   ⟨(some 23), .v (.mv (.t 0)), (some (21, false)), [], 0, 0⟩,
   ⟨(some 24), .v (.lenL (.t 23)), (some (21, false)), [], 0, 0⟩,
   ⟨(some 25), .v (.bin .sub (.t 24) (.k (.int .i64 1))), (some (21, false)), [], 0, 0⟩,
   ⟨(some 26), .v (.iadr none 1 (.t 22) (.t 25)), (some (21, false)), [], 0, 0⟩,
   ⟨(some 27), .r (.ld 1 false (.t 26)), (some (21, false)), [], 0, 0⟩,
   ⟨(some 28), .v (.bin .eql (.t 27) (.k (.int .u64 0))), (some (21, false)), [], 0, 0⟩,
   iv 29 (.pick (.t 21) (.k (.bool true)) (.t 28)),
   iv 30 (.mv (.t 29)),
   ⟨(some 31), .v (.mv (.t 0)), (some (30, false)), [], 0, 0⟩,
   ⟨(some 32), .v (.lenL (.t 31)), (some (30, false)), [], 0, 0⟩,
   ⟨(some 33), .v (.bin .eql (.t 32) (.k (.int .i64 1))), (some (30, false)), [], 0, 0⟩,
   ⟨(some 34), .v (.mv (.t 33)), (some (30, false)), [], 0, 0⟩,
   ⟨(some 35), .v (.mv (.t 0)), (some (34, true)), [], 0, 0⟩,
   ⟨(some 36), .v (.iadr none 1 (.t 35) (.k (.int .i64 0))), (some (34, true)), [], 0, 0⟩,
   ⟨(some 37), .r (.ld 1 false (.t 36)), (some (34, true)), [], 0, 0⟩,
   ⟨(some 38), .v (.bin .eql (.t 37) (.k (.int .u64 1))), (some (34, true)), [], 0, 0⟩,
   ⟨(some 39), .v (.pick (.t 34) (.t 38) (.k (.bool false))), (some (30, false)), [], 0, 0⟩,
   iv 40 (.pick (.t 30) (.k (.bool true)) (.t 39))])
 (.cond (.t 40)
  (.seq (.reg [iv 2 (.mv (.k (.nilp))),
    iv 3 (.mv (.k (.int .i64 1)))])
  (.ret))
  (.skip)))
 (.seq (.reg [iv 41 (.mv (.t 0)),
   ir 42 (.call i_slices_Cloneuint64zuint64 [.t 41]),
   iv 43 (.build [.nsl, .int .u64 0, .nsl] [(0, 1, .t 42)]),
   ic 44 (.box (.t 43)),
   iv 4 (.mv (.t 44))])
 (.seq (.reg [iv 5 (.mv (.k (.int .u64 1)))])
 (.seq (.seq (.reg [iv 45 (.mv (.k (.int .i64 0)))])
 (.blk 0
  (.loop Ba_limb_New)))
 (.seq (.reg [iv 56 (.mv (.t 4)),
   iv 57 (.mv (.t 5)),
   iv 58 (.un .neg (.t 57)),
   iv 59 (.nck (.t 56)),
   iv 60 (.fadr 1 (.t 59)),
   jc (.st 1 (.t 60) (.t 58))])
 (.seq (.reg [iv 61 (.mv (.t 4)),
   iv 62 (.mv (.t 0)),
   iv 63 (.lenL (.t 62)),
   ic 64 (.mk 1 [.int .u64 0] (.t 63)),
   iv 65 (.nck (.t 61)),
   iv 66 (.fadr 2 (.t 65)),
   jc (.st 1 (.t 66) (.t 64))])
 (.seq (.reg [iv 67 (.mv (.t 4)),
   iv 68 (.nck (.t 67)),
   iv 69 (.fadr 2 (.t 68)),
   ir 70 (.ld 1 false (.t 69)),
   iv 71 (.iadr none 1 (.t 70) (.k (.int .i64 0))),
   jc (.st 1 (.t 71) (.k (.int .u64 1)))])
 (.seq (.seq (.reg [iv 72 (.mv (.t 0)),
   iv 73 (.lenL (.t 72)),
   iv 74 (.bin .mul (.k (.int .i64 128)) (.t 73)),
   iv 75 (.mv (.k (.int .i64 0)))])
 (.blk 2
  (.loop Bb_limb_New)))
 (.seq (.reg [iv 87 (.mv (.t 4)),
   iv 2 (.mv (.t 87)),
   iv 3 (.mv (.k (.int .i64 0)))])
 (.ret))))))))))
def F_limb_New : AFn := ⟨88, C_limb_New, [.tmp 2, .tmp 3]⟩
def Ba_field_enter : AC := .seq (.reg [iv 6 (.bin .lss (.t 5) (.k (.int .i64 512)))])
   (.seq (.cond (.t 6)
    (.skip)
    (.exit 0))
   (.seq (.blk 1
    (.reg [ir 7 (.ld 4 true (.t 3)),
      ir 8 (.ld 4 true (.t 3)),
      ir 9 (.call i_field_plus [.t 7, .t 8]),
      ir 10 (.call i_field_below [.t 9]),
      jc (.st 4 (.t 3) (.t 10))]))
   (.reg [iv 11 (.bin .add (.t 5) (.k (.int .i64 1))),
     iv 5 (.mv (.t 11))])))
def C_field_enter : AC := .seq (.reg [iv 1 (.boxv (.t 0)),
   ic 2 (.alloc (rep1 (.int .u64 0) 4))])
 (.seq (.reg [iv 4 (.build (rep1 (.int .u64 0) 4) [(0, 1, .k (.int .u64 1))]),
   ic 3 (.alloc (rep1 (.int .u64 0) 4)),
   jc (.st 4 (.t 3) (.t 4))])
 (.seq (.seq (.reg [iv 5 (.mv (.k (.int .i64 0)))])
 (.blk 0
  (.loop Ba_field_enter)))
 (.seq (.reg [ir 12 (.ld 4 true (.t 1)),
   ir 13 (.ld 4 true (.t 3)),
   ir 14 (.call i_field_product [.t 12, .t 13]),
   iv 15 (.build (rep1 (.int .u64 0) 4) [(0, 4, .t 14)]),
   jc (.st 4 (.t 2) (.t 15))])
 (.ret))))
def F_field_enter : AFn := ⟨16, C_field_enter, [.cell 2 4 true]⟩
def Ba_limb_Modulus_Reduce : AC := .seq (.seq (.reg [iv 16 (.mv (.t 6)),
     iv 17 (.bin .geq (.t 16) (.k (.int .i64 0)))])
   (.cond (.t 17)
    (.skip)
    (.exit 0)))
   (.seq (.blk 1
    (.reg [iv 20 (.mv (.t 0)),
      iv 21 (.mv (.t 5)),
      iv 22 (.mv (.t 1)),
      iv 23 (.mv (.t 6)),
      iv 24 (.bin .quo (.t 23) (.k (.int .i64 64))),
      iv 25 (.iadr none 1 (.t 22) (.t 24)),
      ir 26 (.ld 1 false (.t 25)),
      iv 27 (.mv (.t 6)),
      iv 28 (.bin .rem (.t 27) (.k (.int .i64 64))),
      iv 29 (.bin .shr (.t 26) (.t 28)),
      iv 30 (.bin .and (.t 29) (.k (.int .u64 1))),
      ir 31 (.call i_limb_Modulus_twice [.t 20, .t 21, .t 30]),
      iv 5 (.mv (.t 31))]))
   (.reg [iv 18 (.mv (.t 6)),
     iv 19 (.bin .sub (.t 18) (.k (.int .i64 1))),
     iv 6 (.mv (.t 19))]))
def C_limb_Modulus_Reduce : AC := .seq (.reg [iv 4 (.mv (.k (.nsl)))])
 (.seq (.reg [iv 7 (.mv (.t 0)),
   iv 8 (.nck (.t 7)),
   iv 9 (.fadr 0 (.t 8)),
   ir 10 (.ld 1 false (.t 9)),
   iv 11 (.lenL (.t 10)),
   ic 12 (.mk 1 [.int .u64 0] (.t 11)),
   iv 5 (.mv (.t 12))])
 (.seq (.seq (.reg [iv 13 (.mv (.t 1)),
   ir 14 (.call i_limb_Bits [.t 13]),
   iv 15 (.bin .sub (.t 14) (.k (.int .i64 1))),
   iv 6 (.mv (.t 15))])
 (.blk 0
  (.loop Ba_limb_Modulus_Reduce)))
 (.seq (.reg [iv 32 (.mv (.t 5)),
   iv 4 (.mv (.t 32))])
 (.ret))))
def F_limb_Modulus_Reduce : AFn := ⟨33, C_limb_Modulus_Reduce, [.tmp 4]⟩
def Ba_limb_Words : AC := .seq (.reg [iv 14 (.bin .lss (.t 13) (.t 12))])
   (.seq (.cond (.t 14)
    (.skip)
    (.exit 0))
   (.seq (.blk 1
    (.seq (.reg [iv 15 (.mv (.t 13)),
      iv 16 (.iadr none 1 (.t 11) (.t 13)),
      ir 17 (.ld 1 false (.t 16)),
      iv 4 (.mv (.t 15)),
      iv 5 (.mv (.t 17))])
    (.draw [⟨(some 18), .v (.mv (.t 3)), none, [3], 0, 0⟩,
      ⟨(some 19), .v (.mv (.t 4)), none, [4], 0, 0⟩,
      ⟨(some 20), .v (.bin .quo (.t 19) (.k (.int .i64 8))), none, [19], 0, 0⟩,
      ⟨(some 21), .v (.iadr none 1 (.t 18) (.t 20)), none, [18, 20], 0, 0⟩,
      ⟨(some 22), .r (.ld 1 false (.t 21)), none, [21], 0, 0⟩,
      ⟨(some 23), .v (.mv (.t 5)), none, [5], 0, 0⟩,
      ⟨(some 24), .v (.i2i .u64 (.t 23)), none, [23], 0, 0⟩,
      ⟨(some 25), .v (.mv (.t 4)), none, [4], 0, 0⟩,
      ⟨(some 26), .v (.bin .rem (.t 25) (.k (.int .i64 8))), none, [25], 0, 0⟩,
      ⟨(some 27), .v (.bin .mul (.k (.int .i64 8)) (.t 26)), none, [26], 0, 0⟩,
      ⟨(some 28), .v (.bin .shl (.t 24) (.t 27)), none, [24, 27], 0, 0⟩,
      ⟨(some 29), .v (.bin .or (.t 22) (.t 28)), none, [22, 28], 0, 0⟩,
      ⟨(some 30), .v (.iadr none 1 (.t 18) (.t 20)), none, [18, 20], 0, 0⟩,
      ⟨none, .c (.st 1 (.t 30) (.t 29)), none, [30, 29], 0, 0⟩])))
   (.reg [iv 31 (.bin .add (.t 13) (.k (.int .i64 1))),
     iv 13 (.mv (.t 31))])))
def C_limb_Words : AC := .seq (.reg [iv 2 (.mv (.k (.nsl)))])
 (.seq (.reg [iv 6 (.mv (.t 0)),
   iv 7 (.lenL (.t 6)),
   iv 8 (.bin .add (.t 7) (.k (.int .i64 7))),
   iv 9 (.bin .quo (.t 8) (.k (.int .i64 8))),
   ic 10 (.mk 1 [.int .u64 0] (.t 9)),
   iv 3 (.mv (.t 10))])
 (.seq (.seq (.reg [iv 11 (.mv (.t 0)),
   iv 12 (.lenL (.t 11)),
   iv 13 (.mv (.k (.int .i64 0)))])
 (.blk 0
  (.loop Ba_limb_Words)))
 (.seq (.reg [iv 32 (.mv (.t 3)),
   iv 2 (.mv (.t 32))])
 (.ret))))
def F_limb_Words : AFn := ⟨33, C_limb_Words, [.tmp 2]⟩
def Ba_digest_Hash_Write : AC := .seq (.reg [iv 9 (.bin .lss (.t 8) (.t 7))])
   (.seq (.cond (.t 9)
    (.skip)
    (.exit 0))
   (.seq (.blk 1
    (.seq (.reg [iv 10 (.iadr none 1 (.t 6) (.t 8)),
      ir 11 (.ld 1 false (.t 10)),
      iv 5 (.mv (.t 11))])
    (.seq (.reg [iv 12 (.mv (.t 0)),
      iv 13 (.mv (.t 0)),
      iv 14 (.nck (.t 13)),
      iv 15 (.fadr 25 (.t 14)),
      ir 16 (.ld 1 false (.t 15)),
      iv 17 (.mv (.t 5)),
      ic 18 (.call i_digest_Hash_put [.t 12, .t 16, .t 17])])
    (.seq (.reg [iv 19 (.mv (.t 0)),
      iv 20 (.nck (.t 19)),
      iv 21 (.fadr 25 (.t 20)),
      ir 22 (.ld 1 false (.t 21)),
      iv 23 (.bin .add (.t 22) (.k (.int .i64 1))),
      iv 24 (.nck (.t 19)),
      iv 25 (.fadr 25 (.t 24)),
      jc (.st 1 (.t 25) (.t 23))])
    (.seq (.reg [iv 26 (.mv (.t 0)),
      iv 27 (.nck (.t 26)),
      iv 28 (.fadr 25 (.t 27)),
      ir 29 (.ld 1 false (.t 28)),
      iv 30 (.bin .eql (.t 29) (.k (.int .i64 136)))])
    (.cond (.t 30)
     (.reg [iv 31 (.mv (.t 0)),
       iv 32 (.mv (.t 0)),
       iv 33 (.mv (.t 0)),
       iv 34 (.nck (.t 33)),
       iv 35 (.fadr 0 (.t 34)),
       ir 36 (.ld 25 true (.t 35)),
       ir 37 (.call i_keccak_State_Permute [.t 36]),
       iv 38 (.nck (.t 31)),
       iv 39 (.fadr 0 (.t 38)),
       jc (.st 25 (.t 39) (.t 37)),
       iv 40 (.nck (.t 32)),
       iv 41 (.fadr 25 (.t 40)),
       jc (.st 1 (.t 41) (.k (.int .i64 0)))])
     (.skip)))))))
   (.reg [iv 42 (.bin .add (.t 8) (.k (.int .i64 1))),
     iv 8 (.mv (.t 42))])))
def C_digest_Hash_Write : AC := .seq (.reg [iv 6 (.mv (.t 1)),
   iv 7 (.lenL (.t 6)),
   iv 8 (.mv (.k (.int .i64 0)))])
 (.blk 0
  (.loop Ba_digest_Hash_Write))
def F_digest_Hash_Write : AFn := ⟨43, C_digest_Hash_Write, []⟩
def C_digest_Hash_Sum : AC := .seq (.reg [ic 2 (.alloc (rep1 (.int .u8 0) 32))])
 (.seq (.reg [iv 5 (.mv (.t 0)),
   iv 6 (.nck (.t 5)),
   ir 7 (.ld 26 true (.t 6)),
   ic 3 (.alloc [.int .u64 0, .int .u64 0, .int .u64 0, .int .u64 0, .int .u64 0, .int .u64 0, .int .u64 0, .int .u64 0, .int .u64 0, .int .u64 0, .int .u64 0, .int .u64 0, .int .u64 0, .int .u64 0, .int .u64 0, .int .u64 0, .int .u64 0, .int .u64 0, .int .u64 0, .int .u64 0, .int .u64 0, .int .u64 0, .int .u64 0, .int .u64 0, .int .u64 0, .int .i64 0]),
   jc (.st 26 (.t 3) (.t 7))])
 (.seq (.reg [iv 8 (.fadr 25 (.t 3)),
   ir 9 (.ld 1 false (.t 8)),
   ic 10 (.call i_digest_Hash_put [.t 3, .t 9, .k (.int .u8 6)])])
 (.seq (.reg [ic 11 (.call i_digest_Hash_put [.t 3, .k (.int .i64 135), .k (.int .u8 128)])])
 (.seq (.reg [iv 12 (.fadr 0 (.t 3)),
   ir 13 (.ld 25 true (.t 12)),
   ir 14 (.call i_keccak_State_Permute [.t 13]),
   ir 15 (.call i_keccak_State_Bytes [.t 14]),
   ic 4 (.alloc (rep1 (.int .u8 0) 200)),
   jc (.st 200 (.t 4) (.t 15))])
 (.seq (.reg [iv 16 (.slice (.arr 200) 1 (.t 4) none (some (.k (.int .i64 32))) none),
   iv 17 (.s2a 32 (.t 16)),
   ir 18 (.ld 32 true (.t 17)),
   jc (.st 32 (.t 2) (.t 18))])
 (.ret))))))
def F_digest_Hash_Sum : AFn := ⟨19, C_digest_Hash_Sum, [.cell 2 32 true]⟩
def C_item_Check : AC := .seq (.reg [iv 1 (.boxv (.t 0)),
   iv 2 (.mv (.k (.int .i64 0)))])
 (.seq (.reg [iv 6 (.fadr 0 (.t 1)),
   ir 7 (.ld 1 false (.t 6)),
   ir 8 (.call i_item_types [.t 7]),
   iv 5 (.mv (.t 8)),
   iv 9 (.ext (.t 5) 0),
   iv 10 (.ext (.t 5) 1),
   iv 3 (.mv (.t 9)),
   iv 4 (.mv (.t 10))])
 (.seq (.blk 0
  (.seq (.reg [iv 12 (.mv (.t 3)),
    iv 13 (.lenL (.t 12)),
    iv 14 (.bin .eql (.t 13) (.k (.int .i64 0))),
    iv 11 (.mv (.t 14))])
  (.cond (.t 11)
   (.seq (.reg [iv 2 (.mv (.k (.int .i64 5)))])
   (.ret))
   (.seq (.reg [iv 16 (.mv (.t 3)),
     iv 17 (.fadr 1 (.t 1)),
     ir 18 (.ld 1 false (.t 17)),
     ir 19 (.call i_slices_Containsint_int [.t 16, .t 18]),
     iv 20 (.un .not (.t 19)),
     iv 15 (.mv (.t 20))])
   (.cond (.t 15)
    (.seq (.reg [iv 2 (.mv (.k (.int .i64 6)))])
    (.ret))
    (.seq (.reg [iv 22 (.fadr 2 (.t 1)),
      ir 23 (.ld 1 false (.t 22)),
      iv 24 (.bin .lss (.t 23) (.k (.int .i64 1))),
      iv 25 (.mv (.t 24)),
      ⟨(some 26), .v (.fadr 2 (.t 1)), (some (25, false)), [], 0, 0⟩,
      ⟨(some 27), .r (.ld 1 false (.t 26)), (some (25, false)), [], 0, 0⟩,
      ⟨(some 28), .v (.mv (.t 4)), (some (25, false)), [], 0, 0⟩,
      ⟨(some 29), .v (.bin .gtr (.t 27) (.t 28)), (some (25, false)), [], 0, 0⟩,
      iv 30 (.pick (.t 25) (.k (.bool true)) (.t 29)),
      iv 21 (.mv (.t 30))])
    (.cond (.t 21)
     (.seq (.reg [iv 2 (.mv (.k (.int .i64 7)))])
     (.ret))
     (.seq (.reg [iv 32 (.fadr 3 (.t 1)),
       ir 33 (.ld 1 false (.t 32)),
       iv 34 (.lenS (.t 33)),
       iv 35 (.bin .gtr (.t 34) (.k (.int .i64 255))),
       iv 31 (.mv (.t 35))])
     (.cond (.t 31)
      (.seq (.reg [iv 2 (.mv (.k (.int .i64 8)))])
      (.ret))
      (.skip))))))))))
 (.seq (.reg [iv 2 (.mv (.k (.int .i64 0)))])
 (.ret))))
def F_item_Check : AFn := ⟨36, C_item_Check, [.tmp 2]⟩
def Ba_item_number : AC := .seq (.reg [iv 10 (.bin .lss (.t 9) (.t 8))])
   (.seq (.cond (.t 10)
    (.skip)
    (.exit 0))
   (.seq (.blk 1
    (.seq (.reg [iv 11 (.mv (.t 9)),
      iv 7 (.mv (.t 11))])
    (.reg [iv 12 (.mv (.t 0)),
      iv 13 (.mv (.t 1)),
      iv 14 (.mv (.t 7)),
      iv 15 (.bin .mul (.k (.int .i64 8)) (.t 14)),
      iv 16 (.bin .shr (.t 13) (.t 15)),
      iv 17 (.i2i .u8 (.t 16)),
      iv 18 (.slit 1 1 [.int .u8 0] [(0, .t 17)]),
      ic 19 (.app 1 false (.t 12) (.t 18)),
      iv 0 (.mv (.t 19))])))
   (.reg [iv 20 (.bin .add (.t 9) (.k (.int .i64 1))),
     iv 9 (.mv (.t 20))])))
def C_item_number : AC := .seq (.reg [iv 6 (.mv (.k (.nsl)))])
 (.seq (.seq (.reg [iv 8 (.mv (.t 2)),
   iv 9 (.mv (.k (.int .i64 0)))])
 (.blk 0
  (.loop Ba_item_number)))
 (.seq (.reg [iv 21 (.mv (.t 0)),
   iv 6 (.mv (.t 21))])
 (.ret)))
def F_item_number : AFn := ⟨22, C_item_number, [.tmp 6]⟩
def C_slices_Cloneuint64zuint64 : AC := .seq (.reg [iv 2 (.mv (.k (.nsl)))])
 (.seq (.seq (.reg [iv 3 (.mv (.t 0)),
   iv 4 (.eq .slc false (.t 3) (.k (.nsl)))])
 (.cond (.t 4)
  (.seq (.reg [iv 2 (.mv (.k (.nsl)))])
  (.ret))
  (.skip)))
 (.seq (.reg [iv 5 (.slit 1 0 [.int .u64 0] []),
   iv 6 (.mv (.t 0)),
   ic 7 (.app 1 false (.t 5) (.t 6)),
   iv 2 (.mv (.t 7))])
 (.ret)))
def F_slices_Cloneuint64zuint64 : AFn := ⟨8, C_slices_Cloneuint64zuint64, [.tmp 2]⟩
def Ba_limb_Modulus_twice : AC := .seq (.reg [iv 16 (.bin .lss (.t 15) (.t 14))])
   (.seq (.cond (.t 16)
    (.skip)
    (.exit 0))
   (.seq (.blk 1
    (.seq (.reg [iv 17 (.mv (.t 15)),
      iv 18 (.iadr none 1 (.t 13) (.t 15)),
      ir 19 (.ld 1 false (.t 18)),
      iv 8 (.mv (.t 17)),
      iv 9 (.mv (.t 19))])
    (.seq (.reg [iv 20 (.mv (.t 7)),
      iv 21 (.mv (.t 8)),
      iv 22 (.mv (.t 9)),
      iv 23 (.bin .shl (.t 22) (.k (.int .u64 1))),
      iv 24 (.mv (.t 2)),
      iv 25 (.bin .or (.t 23) (.t 24)),
      iv 26 (.iadr none 1 (.t 20) (.t 21)),
      jc (.st 1 (.t 26) (.t 25))])
    (.reg [iv 27 (.mv (.t 9)),
      iv 28 (.bin .shr (.t 27) (.k (.int .u64 63))),
      iv 2 (.mv (.t 28))]))))
   (.reg [iv 29 (.bin .add (.t 15) (.k (.int .i64 1))),
     iv 15 (.mv (.t 29))])))
def C_limb_Modulus_twice : AC := .seq (.reg [iv 6 (.mv (.k (.nsl)))])
 (.seq (.reg [iv 10 (.mv (.t 1)),
   iv 11 (.lenL (.t 10)),
   ic 12 (.mk 1 [.int .u64 0] (.t 11)),
   iv 7 (.mv (.t 12))])
 (.seq (.seq (.reg [iv 13 (.mv (.t 1)),
   iv 14 (.lenL (.t 13)),
   iv 15 (.mv (.k (.int .i64 0)))])
 (.blk 0
  (.loop Ba_limb_Modulus_twice)))
 (.seq (.reg [iv 30 (.mv (.t 0)),
   iv 31 (.mv (.t 7)),
   iv 32 (.mv (.t 2)),
   ir 33 (.call i_limb_Modulus_less [.t 30, .t 31, .t 32]),
   iv 6 (.mv (.t 33))])
 (.ret))))
def F_limb_Modulus_twice : AFn := ⟨34, C_limb_Modulus_twice, [.tmp 6]⟩
def C_field_below : AC := .seq (.reg [iv 1 (.boxv (.t 0)),
   ic 2 (.alloc (rep1 (.int .u64 0) 4))])
 (.seq (.seq (.draw [⟨(some 6), .r (.ld 4 true (.t 1)), none, [1], 0, 1⟩,
   ⟨(some 7), .r (.call i_field_prime []), none, [], 0, 1⟩,
   ⟨(some 8), .r (.call i_field_borrow [.t 6, .t 7]), none, [6, 7], 0, 1⟩,
   ⟨(some 5), .v (.mv (.t 8)), none, [8], 0, 0⟩,
   ⟨(some 9), .v (.ext (.t 5) 0), none, [5], 0, 0⟩,
   ⟨(some 10), .v (.ext (.t 5) 1), none, [5], 0, 0⟩,
   ic 3 (.alloc (rep1 (.int .u64 0) 4)),
   ⟨none, .c (.st 4 (.t 3) (.t 9)), none, [3, 9], 0, 0⟩,
   ⟨(some 4), .v (.mv (.t 10)), none, [10], 0, 0⟩])
 (.seq (.reg [iv 11 (.mv (.t 4)),
   iv 12 (.bin .eql (.t 11) (.k (.int .u64 0)))])
 (.cond (.t 12)
  (.seq (.reg [ir 13 (.ld 4 true (.t 3)),
    jc (.st 4 (.t 2) (.t 13))])
  (.ret))
  (.skip))))
 (.seq (.reg [ir 14 (.ld 4 true (.t 1)),
   jc (.st 4 (.t 2) (.t 14))])
 (.ret)))
def F_field_below : AFn := ⟨15, C_field_below, [.cell 2 4 true]⟩
def Ba_field_plus : AC := .seq (.reg [iv 8 (.bin .lss (.t 7) (.k (.int .i64 4)))])
   (.seq (.cond (.t 8)
    (.skip)
    (.exit 0))
   (.seq (.blk 1
    (.seq (.reg [iv 9 (.mv (.t 7)),
      iv 6 (.mv (.t 9))])
    (.draw [⟨(some 11), .v (.mv (.t 6)), none, [6], 0, 0⟩,
      ⟨(some 12), .v (.mv (.t 6)), none, [6], 0, 0⟩,
      ⟨(some 13), .v (.iadr (some 4) 1 (.t 2) (.t 12)), none, [2, 12], 0, 0⟩,
      ⟨(some 14), .r (.ld 1 false (.t 13)), none, [13], 0, 0⟩,
      ⟨(some 15), .v (.mv (.t 6)), none, [6], 0, 0⟩,
      ⟨(some 16), .v (.iadr (some 4) 1 (.t 3) (.t 15)), none, [3, 15], 0, 0⟩,
      ⟨(some 17), .r (.ld 1 false (.t 16)), none, [16], 0, 0⟩,
      ⟨(some 18), .v (.mv (.t 5)), none, [5], 0, 0⟩,
      ⟨(some 19), .c (.call i_math_bits_Add64 [.t 14, .t 17, .t 18]), none, [14, 17, 18], 0, 0⟩,
      ⟨(some 10), .v (.mv (.t 19)), none, [19], 0, 0⟩,
      ⟨(some 20), .v (.ext (.t 10) 0), none, [10], 0, 0⟩,
      ⟨(some 21), .v (.ext (.t 10) 1), none, [10], 0, 0⟩,
      ⟨(some 22), .v (.iadr (some 4) 1 (.t 4) (.t 11)), none, [4, 11], 0, 0⟩,
      ⟨none, .c (.st 1 (.t 22) (.t 20)), none, [22, 20], 0, 0⟩,
      ⟨(some 5), .v (.mv (.t 21)), none, [21], 0, 0⟩])))
   (.reg [iv 23 (.bin .add (.t 7) (.k (.int .i64 1))),
     iv 7 (.mv (.t 23))])))
def C_field_plus : AC := .seq (.reg [iv 2 (.boxv (.t 0)),
   iv 3 (.boxv (.t 1)),
   ic 4 (.alloc (rep1 (.int .u64 0) 4))])
 (.seq (.reg [iv 5 (.mv (.k (.int .u64 0)))])
 (.seq (.seq (.reg [iv 7 (.mv (.k (.int .i64 0)))])
 (.blk 0
  (.loop Ba_field_plus)))
 (.seq (.reg [ir 24 (.ld 4 true (.t 4)),
   jc (.st 4 (.t 4) (.t 24))])
 (.ret))))
def F_field_plus : AFn := ⟨25, C_field_plus, [.cell 4 4 true]⟩
def Ba_field_product : AC := .seq (.reg [iv 23 (.bin .lss (.t 22) (.k (.int .i64 4)))])
      (.seq (.cond (.t 23)
       (.skip)
       (.exit 2))
      (.seq (.blk 3
       (.seq (.reg [iv 24 (.mv (.t 22)),
         iv 25 (.idxA 4 1 false (.t 21) (.t 22)),
         iv 11 (.mv (.t 24)),
         iv 12 (.mv (.t 25))])
       (.reg [iv 27 (.mv (.t 11)),
         iv 28 (.mv (.t 11)),
         iv 29 (.iadr (some 5) 1 (.t 7) (.t 28)),
         ir 30 (.ld 1 false (.t 29)),
         iv 31 (.mv (.t 9)),
         iv 32 (.mv (.t 12)),
         iv 33 (.mv (.t 10)),
         ir 34 (.call i_field_line [.t 30, .t 31, .t 32, .t 33]),
         iv 26 (.mv (.t 34)),
         iv 35 (.ext (.t 26) 0),
         iv 36 (.ext (.t 26) 1),
         iv 37 (.iadr (some 5) 1 (.t 7) (.t 27)),
         jc (.st 1 (.t 37) (.t 35)),
         iv 10 (.mv (.t 36))])))
      (.reg [iv 38 (.bin .add (.t 22) (.k (.int .i64 1))),
        iv 22 (.mv (.t 38))])))
def Bb_field_product : AC := .seq (.seq (.reg [iv 57 (.mv (.t 14)),
        iv 58 (.bin .lss (.t 57) (.k (.int .i64 4)))])
      (.cond (.t 58)
       (.skip)
       (.exit 4)))
      (.seq (.blk 5
       (.draw [⟨(some 62), .v (.mv (.t 14)), none, [14], 0, 0⟩,
         ⟨(some 63), .v (.bin .sub (.t 62) (.k (.int .i64 1))), none, [62], 0, 0⟩,
         ⟨(some 64), .v (.mv (.t 14)), none, [14], 0, 0⟩,
         ⟨(some 65), .v (.iadr (some 5) 1 (.t 7) (.t 64)), none, [7, 64], 0, 0⟩,
         ⟨(some 66), .r (.ld 1 false (.t 65)), none, [65], 0, 0⟩,
         ⟨(some 67), .v (.mv (.t 13)), none, [13], 0, 0⟩,
         ⟨(some 68), .v (.mv (.t 14)), none, [14], 0, 0⟩,
         ⟨(some 69), .v (.iadr (some 4) 1 (.t 5) (.t 68)), none, [5, 68], 0, 0⟩,
         ⟨(some 70), .r (.ld 1 false (.t 69)), none, [69], 0, 0⟩,
         ⟨(some 71), .v (.mv (.t 10)), none, [10], 0, 0⟩,
         ⟨(some 72), .r (.call i_field_line [.t 66, .t 67, .t 70, .t 71]), none, [66, 67, 70, 71], 0, 0⟩,
         ⟨(some 61), .v (.mv (.t 72)), none, [72], 0, 0⟩,
         ⟨(some 73), .v (.ext (.t 61) 0), none, [61], 0, 0⟩,
         ⟨(some 74), .v (.ext (.t 61) 1), none, [61], 0, 0⟩,
         ⟨(some 75), .v (.iadr (some 5) 1 (.t 7) (.t 63)), none, [7, 63], 0, 0⟩,
         ⟨none, .c (.st 1 (.t 75) (.t 73)), none, [75, 73], 0, 0⟩,
         ⟨(some 10), .v (.mv (.t 74)), none, [74], 0, 0⟩]))
      (.reg [iv 59 (.mv (.t 14)),
        iv 60 (.bin .add (.t 59) (.k (.int .i64 1))),
        iv 14 (.mv (.t 60))]))
def Bc_field_product : AC := .seq (.reg [iv 19 (.bin .lss (.t 18) (.k (.int .i64 4)))])
   (.seq (.cond (.t 19)
    (.skip)
    (.exit 0))
   (.seq (.blk 1
    (.seq (.reg [iv 20 (.idxA 4 1 false (.t 17) (.t 18)),
      iv 9 (.mv (.t 20))])
    (.seq (.reg [iv 10 (.mv (.k (.int .u64 0)))])
    (.seq (.seq (.reg [ir 21 (.ld 4 true (.t 3)),
      iv 22 (.mv (.k (.int .i64 0)))])
    (.blk 2
     (.loop Ba_field_product)))
    (.seq (.reg [iv 39 (.iadr (some 5) 1 (.t 7) (.k (.int .i64 4))),
      ir 40 (.ld 1 false (.t 39)),
      iv 41 (.mv (.t 10)),
      iv 42 (.bin .add (.t 40) (.t 41)),
      iv 43 (.iadr (some 5) 1 (.t 7) (.k (.int .i64 4))),
      jc (.st 1 (.t 43) (.t 42))])
    (.seq (.reg [iv 44 (.iadr (some 5) 1 (.t 7) (.k (.int .i64 0))),
      ir 45 (.ld 1 false (.t 44)),
      iv 46 (.mv (.t 6)),
      iv 47 (.bin .mul (.t 45) (.t 46)),
      iv 13 (.mv (.t 47))])
    (.seq (.reg [iv 49 (.iadr (some 5) 1 (.t 7) (.k (.int .i64 0))),
      ir 50 (.ld 1 false (.t 49)),
      iv 51 (.mv (.t 13)),
      iv 52 (.iadr (some 4) 1 (.t 5) (.k (.int .i64 0))),
      ir 53 (.ld 1 false (.t 52)),
      ir 54 (.call i_field_line [.t 50, .t 51, .t 53, .k (.int .u64 0)]),
      iv 48 (.mv (.t 54)),
      iv 55 (.ext (.t 48) 0),
      iv 56 (.ext (.t 48) 1),
      iv 10 (.mv (.t 56))])
    (.seq (.seq (.reg [iv 14 (.mv (.k (.int .i64 1)))])
    (.blk 4
     (.loop Bb_field_product)))
    (.seq (.reg [iv 77 (.iadr (some 5) 1 (.t 7) (.k (.int .i64 4))),
      ir 78 (.ld 1 false (.t 77)),
      iv 79 (.mv (.t 10)),
      ic 80 (.call i_math_bits_Add64 [.t 78, .t 79, .k (.int .u64 0)]),
      iv 76 (.mv (.t 80)),
      iv 81 (.ext (.t 76) 0),
      iv 82 (.ext (.t 76) 1),
      iv 83 (.iadr (some 5) 1 (.t 7) (.k (.int .i64 3))),
      jc (.st 1 (.t 83) (.t 81)),
      iv 10 (.mv (.t 82))])
    (.reg [iv 84 (.mv (.t 10)),
      iv 85 (.iadr (some 5) 1 (.t 7) (.k (.int .i64 4))),
      jc (.st 1 (.t 85) (.t 84))]))))))))))
   (.reg [iv 86 (.bin .add (.t 18) (.k (.int .i64 1))),
     iv 18 (.mv (.t 86))])))
def C_field_product : AC := .seq (.reg [iv 2 (.boxv (.t 0)),
   iv 3 (.boxv (.t 1)),
   ic 4 (.alloc (rep1 (.int .u64 0) 4))])
 (.seq (.reg [ir 15 (.call i_field_prime []),
   ir 16 (.call i_field_inverse []),
   ic 5 (.alloc (rep1 (.int .u64 0) 4)),
   jc (.st 4 (.t 5) (.t 15)),
   iv 6 (.mv (.t 16))])
 (.seq (.reg [ic 7 (.alloc (rep1 (.int .u64 0) 5))])
 (.seq (.seq (.reg [ir 17 (.ld 4 true (.t 2)),
   iv 18 (.mv (.k (.int .i64 0)))])
 (.blk 0
  (.loop Bc_field_product)))
 (.seq (.reg [iv 87 (.slice (.arr 5) 1 (.t 7) none (some (.k (.int .i64 4))) none),
   iv 88 (.s2a 4 (.t 87)),
   ir 89 (.ld 4 true (.t 88)),
   ir 90 (.call i_field_below [.t 89]),
   jc (.st 4 (.t 4) (.t 90))])
 (.ret)))))
def F_field_product : AFn := ⟨91, C_field_product, [.cell 4 4 true]⟩
def Ba_limb_Bits : AC := .seq (.seq (.reg [iv 7 (.mv (.t 3)),
     iv 8 (.bin .geq (.t 7) (.k (.int .i64 0)))])
   (.cond (.t 8)
    (.skip)
    (.exit 0)))
   (.seq (.blk 1
    (.seq (.reg [iv 11 (.mv (.t 0)),
      iv 12 (.mv (.t 3)),
      iv 13 (.iadr none 1 (.t 11) (.t 12)),
      ir 14 (.ld 1 false (.t 13)),
      iv 15 (.bin .neq (.t 14) (.k (.int .u64 0)))])
    (.cond (.t 15)
     (.seq (.reg [iv 16 (.mv (.t 3)),
       iv 17 (.bin .mul (.k (.int .i64 64)) (.t 16)),
       iv 18 (.mv (.t 0)),
       iv 19 (.mv (.t 3)),
       iv 20 (.iadr none 1 (.t 18) (.t 19)),
       ir 21 (.ld 1 false (.t 20)),
       ir 22 (.call i_math_bits_Len64 [.t 21]),
       iv 23 (.bin .add (.t 17) (.t 22)),
       iv 2 (.mv (.t 23))])
     (.ret))
     (.skip))))
   (.reg [iv 9 (.mv (.t 3)),
     iv 10 (.bin .sub (.t 9) (.k (.int .i64 1))),
     iv 3 (.mv (.t 10))]))
def C_limb_Bits : AC := .seq (.reg [iv 2 (.mv (.k (.int .i64 0)))])
 (.seq (.seq (.reg [iv 4 (.mv (.t 0)),
   iv 5 (.lenL (.t 4)),
   iv 6 (.bin .sub (.t 5) (.k (.int .i64 1))),
   iv 3 (.mv (.t 6))])
 (.blk 0
  (.loop Ba_limb_Bits)))
 (.seq (.reg [iv 2 (.mv (.k (.int .i64 0)))])
 (.ret)))
def F_limb_Bits : AFn := ⟨24, C_limb_Bits, [.tmp 2]⟩
def C_digest_Hash_put : AC := .draw [⟨(some 6), .v (.mv (.t 0)), none, [0], 0, 0⟩,
   ⟨(some 7), .v (.mv (.t 1)), none, [1], 0, 0⟩,
   ⟨(some 8), .v (.bin .quo (.t 7) (.k (.int .i64 8))), none, [7], 0, 0⟩,
   ⟨(some 9), .v (.nck (.t 6)), none, [6], 0, 0⟩,
   ⟨(some 10), .v (.fadr 0 (.t 9)), none, [9], 0, 0⟩,
   ⟨(some 11), .v (.iadr (some 25) 1 (.t 10) (.t 8)), none, [10, 8], 0, 0⟩,
   ⟨(some 12), .r (.ld 1 false (.t 11)), none, [11], 0, 0⟩,
   ⟨(some 13), .v (.mv (.t 2)), none, [2], 0, 0⟩,
   ⟨(some 14), .v (.i2i .u64 (.t 13)), none, [13], 0, 0⟩,
   ⟨(some 15), .v (.mv (.t 1)), none, [1], 0, 0⟩,
   ⟨(some 16), .v (.bin .rem (.t 15) (.k (.int .i64 8))), none, [15], 0, 0⟩,
   ⟨(some 17), .v (.bin .mul (.k (.int .i64 8)) (.t 16)), none, [16], 0, 0⟩,
   ⟨(some 18), .v (.bin .shl (.t 14) (.t 17)), none, [14, 17], 0, 0⟩,
   ⟨(some 19), .v (.bin .xor (.t 12) (.t 18)), none, [12, 18], 0, 0⟩,
   ⟨(some 20), .v (.nck (.t 6)), none, [6], 0, 0⟩,
   ⟨(some 21), .v (.fadr 0 (.t 20)), none, [20], 0, 0⟩,
   ⟨(some 22), .v (.iadr (some 25) 1 (.t 21) (.t 8)), none, [21, 8], 0, 0⟩,
   ⟨none, .c (.st 1 (.t 22) (.t 19)), none, [22, 19], 0, 0⟩]
def F_digest_Hash_put : AFn := ⟨23, C_digest_Hash_put, []⟩
def Ba_keccak_State_Permute : AC := .seq (.reg [iv 5 (.bin .lss (.t 4) (.k (.int .i64 24)))])
   (.seq (.cond (.t 5)
    (.skip)
    (.exit 0))
   (.seq (.blk 1
    (.seq (.reg [iv 6 (.mv (.t 4)),
      iv 3 (.mv (.t 6))])
    (.reg [ir 7 (.ld 25 true (.t 1)),
      iv 8 (.mv (.t 3)),
      ir 9 (.call i_keccak_State_Round [.t 7, .t 8]),
      jc (.st 25 (.t 1) (.t 9))])))
   (.reg [iv 10 (.bin .add (.t 4) (.k (.int .i64 1))),
     iv 4 (.mv (.t 10))])))
def C_keccak_State_Permute : AC := .seq (.reg [ic 1 (.box (.t 0)),
   ic 2 (.alloc (rep1 (.int .u64 0) 25))])
 (.seq (.seq (.reg [iv 4 (.mv (.k (.int .i64 0)))])
 (.blk 0
  (.loop Ba_keccak_State_Permute)))
 (.seq (.reg [ir 11 (.ld 25 true (.t 1)),
   jc (.st 25 (.t 2) (.t 11))])
 (.ret)))
def F_keccak_State_Permute : AFn := ⟨12, C_keccak_State_Permute, [.cell 2 25 true]⟩
def C_keccak_State_Bytes : AC := .seq (.reg [ic 1 (.box (.t 0)),
   ic 2 (.alloc (rep1 (.int .u8 0) 200))])
 (.seq (.reg [iv 3 (.slice (.arr 25) 1 (.t 1) none none none),
   ir 4 (.call i_limb_Bytes [.t 3]),
   iv 5 (.s2a 200 (.t 4)),
   ir 6 (.ld 200 true (.t 5)),
   jc (.st 200 (.t 2) (.t 6))])
 (.ret))
def F_keccak_State_Bytes : AFn := ⟨7, C_keccak_State_Bytes, [.cell 2 200 true]⟩
def C_item_types : AC := .seq (.reg [iv 2 (.mv (.k (.nsl))),
   iv 3 (.mv (.k (.int .i64 0)))])
 (.seq (.seq (.reg [iv 4 (.mv (.t 0))])
 (.blk 0
  (.seq (.reg [iv 6 (.bin .eql (.t 4) (.k (.int .i64 1))),
    iv 5 (.mv (.t 6))])
  (.cond (.t 5)
   (.seq (.reg [iv 7 (.slit 1 4 [.int .i64 0] [(0, .k (.int .i64 1)), (1, .k (.int .i64 2)), (2, .k (.int .i64 3)), (3, .k (.int .i64 4))]),
     iv 2 (.mv (.t 7)),
     iv 3 (.mv (.k (.int .i64 1048576)))])
   (.ret))
   (.seq (.reg [iv 9 (.bin .eql (.t 4) (.k (.int .i64 2))),
     iv 8 (.mv (.t 9))])
   (.cond (.t 8)
    (.seq (.reg [iv 10 (.slit 1 2 [.int .i64 0] [(0, .k (.int .i64 1)), (1, .k (.int .i64 3))]),
      iv 2 (.mv (.t 10)),
      iv 3 (.mv (.k (.int .i64 1048576)))])
    (.ret))
    (.seq (.reg [iv 12 (.bin .eql (.t 4) (.k (.int .i64 3))),
      iv 11 (.mv (.t 12))])
    (.cond (.t 11)
     (.seq (.reg [iv 13 (.slit 1 1 [.int .i64 0] [(0, .k (.int .i64 0))]),
       iv 2 (.mv (.t 13)),
       iv 3 (.mv (.k (.int .i64 1)))])
     (.ret))
     (.skip)))))))))
 (.seq (.reg [iv 2 (.mv (.k (.nsl))),
   iv 3 (.mv (.k (.int .i64 0)))])
 (.ret)))
def F_item_types : AFn := ⟨14, C_item_types, [.tmp 2, .tmp 3]⟩
def C_slices_Containsint_int : AC := .seq (.reg [iv 4 (.mv (.k (.bool false)))])
 (.seq (.reg [iv 5 (.mv (.t 0)),
   iv 6 (.mv (.t 1)),
   ir 7 (.call i_slices_Indexint_int [.t 5, .t 6]),
   iv 8 (.bin .geq (.t 7) (.k (.int .i64 0))),
   iv 4 (.mv (.t 8))])
 (.ret))
def F_slices_Containsint_int : AFn := ⟨9, C_slices_Containsint_int, [.tmp 4]⟩
def C_limb_Modulus_less : AC := .seq (.reg [iv 6 (.mv (.k (.nsl)))])
 (.seq (.seq (.reg [iv 9 (.mv (.t 2)),
   iv 10 (.bin .eql (.t 9) (.k (.int .u64 0))),
   iv 11 (.mv (.t 10)),
   ⟨(some 12), .v (.mv (.t 1)), (some (11, true)), [], 0, 0⟩,
   ⟨(some 13), .v (.mv (.t 0)), (some (11, true)), [], 0, 0⟩,
   ⟨(some 14), .v (.nck (.t 13)), (some (11, true)), [], 0, 0⟩,
   ⟨(some 15), .v (.fadr 0 (.t 14)), (some (11, true)), [], 0, 0⟩,
   ⟨(some 16), .r (.ld 1 false (.t 15)), (some (11, true)), [], 0, 0⟩,
   ⟨(some 17), .r (.call i_limb_Cmp [.t 12, .t 16]), (some (11, true)), [], 0, 0⟩,
   ⟨(some 18), .v (.bin .lss (.t 17) (.k (.int .i64 0))), (some (11, true)), [], 0, 0⟩,
   iv 19 (.pick (.t 11) (.t 18) (.k (.bool false)))])
 (.cond (.t 19)
  (.seq (.reg [iv 20 (.mv (.t 1)),
    iv 6 (.mv (.t 20))])
  (.ret))
  (.skip)))
 (.seq (.reg [iv 22 (.mv (.t 1)),
   iv 23 (.mv (.t 0)),
   iv 24 (.nck (.t 23)),
   iv 25 (.fadr 0 (.t 24)),
   ir 26 (.ld 1 false (.t 25)),
   ir 27 (.call i_limb_Sub [.t 22, .t 26]),
   iv 21 (.mv (.t 27)),
   iv 28 (.ext (.t 21) 0),
   iv 29 (.ext (.t 21) 1),
   iv 7 (.mv (.t 28)),
   iv 8 (.mv (.t 29))])
 (.seq (.reg [iv 30 (.mv (.t 7)),
   iv 6 (.mv (.t 30))])
 (.ret))))
def F_limb_Modulus_less : AFn := ⟨31, C_limb_Modulus_less, [.tmp 6]⟩
def Ba_field_borrow : AC := .seq (.reg [iv 8 (.bin .lss (.t 7) (.k (.int .i64 4)))])
   (.seq (.cond (.t 8)
    (.skip)
    (.exit 0))
   (.seq (.blk 1
    (.seq (.reg [iv 9 (.mv (.t 7)),
      iv 6 (.mv (.t 9))])
    (.draw [⟨(some 11), .v (.mv (.t 6)), none, [6], 0, 0⟩,
      ⟨(some 12), .v (.mv (.t 6)), none, [6], 0, 0⟩,
      ⟨(some 13), .v (.iadr (some 4) 1 (.t 2) (.t 12)), none, [2, 12], 0, 0⟩,
      ⟨(some 14), .r (.ld 1 false (.t 13)), none, [13], 0, 0⟩,
      ⟨(some 15), .v (.mv (.t 6)), none, [6], 0, 0⟩,
      ⟨(some 16), .v (.iadr (some 4) 1 (.t 3) (.t 15)), none, [3, 15], 0, 0⟩,
      ⟨(some 17), .r (.ld 1 false (.t 16)), none, [16], 0, 0⟩,
      ⟨(some 18), .v (.mv (.t 5)), none, [5], 0, 0⟩,
      ⟨(some 19), .c (.call i_math_bits_Sub64 [.t 14, .t 17, .t 18]), none, [14, 17, 18], 0, 0⟩,
      ⟨(some 10), .v (.mv (.t 19)), none, [19], 0, 0⟩,
      ⟨(some 20), .v (.ext (.t 10) 0), none, [10], 0, 0⟩,
      ⟨(some 21), .v (.ext (.t 10) 1), none, [10], 0, 0⟩,
      ⟨(some 22), .v (.iadr (some 4) 1 (.t 4) (.t 11)), none, [4, 11], 0, 0⟩,
      ⟨none, .c (.st 1 (.t 22) (.t 20)), none, [22, 20], 0, 0⟩,
      ⟨(some 5), .v (.mv (.t 21)), none, [21], 0, 0⟩])))
   (.reg [iv 23 (.bin .add (.t 7) (.k (.int .i64 1))),
     iv 7 (.mv (.t 23))])))
def C_field_borrow : AC := .seq (.reg [iv 2 (.boxv (.t 0)),
   iv 3 (.boxv (.t 1)),
   ic 4 (.alloc (rep1 (.int .u64 0) 4)),
   iv 5 (.mv (.k (.int .u64 0)))])
 (.seq (.seq (.reg [iv 7 (.mv (.k (.int .i64 0)))])
 (.blk 0
  (.loop Ba_field_borrow)))
 (.seq (.reg [ir 24 (.ld 4 true (.t 4)),
   iv 25 (.mv (.t 5)),
   jc (.st 4 (.t 4) (.t 24)),
   iv 5 (.mv (.t 25))])
 (.ret)))
def F_field_borrow : AFn := ⟨26, C_field_borrow, [.cell 4 4 true, .tmp 5]⟩
def Ba_field_inverse : AC := .seq (.reg [iv 6 (.bin .lss (.t 5) (.k (.int .i64 6)))])
   (.seq (.cond (.t 6)
    (.skip)
    (.exit 0))
   (.seq (.blk 1
    (.reg [iv 7 (.mv (.t 2)),
      iv 8 (.mv (.t 1)),
      iv 9 (.mv (.t 2)),
      iv 10 (.bin .mul (.t 8) (.t 9)),
      iv 11 (.bin .sub (.k (.int .u64 2)) (.t 10)),
      iv 12 (.bin .mul (.t 7) (.t 11)),
      iv 2 (.mv (.t 12))]))
   (.reg [iv 13 (.bin .add (.t 5) (.k (.int .i64 1))),
     iv 5 (.mv (.t 13))])))
def C_field_inverse : AC := .seq (.reg [iv 0 (.mv (.k (.int .u64 0)))])
 (.seq (.reg [ir 3 (.call i_field_prime []),
   iv 4 (.idxA 4 1 false (.t 3) (.k (.int .i64 0))),
   iv 1 (.mv (.t 4)),
   iv 2 (.mv (.k (.int .u64 1)))])
 (.seq (.seq (.reg [iv 5 (.mv (.k (.int .i64 0)))])
 (.blk 0
  (.loop Ba_field_inverse)))
 (.seq (.reg [iv 14 (.mv (.t 2)),
   iv 15 (.un .neg (.t 14)),
   iv 0 (.mv (.t 15))])
 (.ret))))
def F_field_inverse : AFn := ⟨16, C_field_inverse, [.tmp 0]⟩
def C_field_line : AC := .seq (.reg [iv 8 (.mv (.k (.int .u64 0))),
   iv 9 (.mv (.k (.int .u64 0)))])
 (.seq (.reg [iv 14 (.mv (.t 1)),
   iv 15 (.mv (.t 2)),
   ir 16 (.call i_math_bits_Mul64 [.t 14, .t 15]),
   iv 13 (.mv (.t 16)),
   iv 17 (.ext (.t 13) 0),
   iv 18 (.ext (.t 13) 1),
   iv 10 (.mv (.t 17)),
   iv 11 (.mv (.t 18))])
 (.seq (.reg [iv 20 (.mv (.t 11)),
   iv 21 (.mv (.t 0)),
   ic 22 (.call i_math_bits_Add64 [.t 20, .t 21, .k (.int .u64 0)]),
   iv 19 (.mv (.t 22)),
   iv 23 (.ext (.t 19) 0),
   iv 24 (.ext (.t 19) 1),
   iv 11 (.mv (.t 23)),
   iv 12 (.mv (.t 24))])
 (.seq (.reg [iv 25 (.mv (.t 10)),
   iv 26 (.mv (.t 12)),
   iv 27 (.bin .add (.t 25) (.t 26)),
   iv 10 (.mv (.t 27))])
 (.seq (.reg [iv 29 (.mv (.t 11)),
   iv 30 (.mv (.t 3)),
   ic 31 (.call i_math_bits_Add64 [.t 29, .t 30, .k (.int .u64 0)]),
   iv 28 (.mv (.t 31)),
   iv 32 (.ext (.t 28) 0),
   iv 33 (.ext (.t 28) 1),
   iv 11 (.mv (.t 32)),
   iv 12 (.mv (.t 33))])
 (.seq (.reg [iv 34 (.mv (.t 11)),
   iv 35 (.mv (.t 10)),
   iv 36 (.mv (.t 12)),
   iv 37 (.bin .add (.t 35) (.t 36)),
   iv 8 (.mv (.t 34)),
   iv 9 (.mv (.t 37))])
 (.ret))))))
def F_field_line : AFn := ⟨38, C_field_line, [.tmp 8, .tmp 9]⟩
def C_math_bits_Len64 : AC := .seq (.reg [iv 2 (.mv (.k (.int .i64 0)))])
 (.seq (.seq (.reg [iv 3 (.mv (.t 0)),
   iv 4 (.bin .geq (.t 3) (.k (.int .u64 4294967296)))])
 (.cond (.t 4)
  (.seq (.reg [iv 5 (.mv (.t 0)),
    iv 6 (.bin .shr (.t 5) (.k (.int .u64 32))),
    iv 0 (.mv (.t 6))])
  (.reg [iv 2 (.mv (.k (.int .i64 32)))]))
  (.skip)))
 (.seq (.seq (.reg [iv 7 (.mv (.t 0)),
   iv 8 (.bin .geq (.t 7) (.k (.int .u64 65536)))])
 (.cond (.t 8)
  (.seq (.reg [iv 9 (.mv (.t 0)),
    iv 10 (.bin .shr (.t 9) (.k (.int .u64 16))),
    iv 0 (.mv (.t 10))])
  (.reg [iv 11 (.mv (.t 2)),
    iv 12 (.bin .add (.t 11) (.k (.int .i64 16))),
    iv 2 (.mv (.t 12))]))
  (.skip)))
 (.seq (.seq (.reg [iv 13 (.mv (.t 0)),
   iv 14 (.bin .geq (.t 13) (.k (.int .u64 256)))])
 (.cond (.t 14)
  (.seq (.reg [iv 15 (.mv (.t 0)),
    iv 16 (.bin .shr (.t 15) (.k (.int .u64 8))),
    iv 0 (.mv (.t 16))])
  (.reg [iv 17 (.mv (.t 2)),
    iv 18 (.bin .add (.t 17) (.k (.int .i64 8))),
    iv 2 (.mv (.t 18))]))
  (.skip)))
 (.seq (.reg [iv 19 (.mv (.t 2)),
   iv 20 (.mv (.t 0)),
   iv 21 (.i2i .u8 (.t 20)),
   iv 22 (.idxS (.k (.str txt_0)) (.t 21)),
   iv 23 (.i2i .i64 (.t 22)),
   iv 24 (.bin .add (.t 19) (.t 23)),
   iv 2 (.mv (.t 24))])
 (.ret)))))
def F_math_bits_Len64 : AFn := ⟨25, C_math_bits_Len64, [.tmp 2]⟩
def C_keccak_State_Round : AC := .seq (.reg [ic 2 (.box (.t 0)),
   ic 4 (.alloc (rep1 (.int .u64 0) 25))])
 (.seq (.reg [ir 5 (.ld 25 true (.t 2)),
   ir 6 (.call i_keccak_State_theta [.t 5]),
   ir 7 (.call i_keccak_State_rhoPi [.t 6]),
   ir 8 (.call i_keccak_State_chi [.t 7]),
   jc (.st 25 (.t 2) (.t 8))])
 (.seq (.draw [⟨(some 9), .v (.iadr (some 25) 1 (.t 2) (.k (.int .i64 0))), none, [2], 0, 0⟩,
   ⟨(some 10), .r (.ld 1 false (.t 9)), none, [9], 0, 0⟩,
   ⟨(some 11), .v (.mv (.t 1)), none, [1], 0, 0⟩,
   ⟨(some 12), .r (.call i_keccak_Constant [.t 11]), none, [11], 0, 0⟩,
   ⟨(some 13), .v (.bin .xor (.t 10) (.t 12)), none, [10, 12], 0, 0⟩,
   ⟨(some 14), .v (.iadr (some 25) 1 (.t 2) (.k (.int .i64 0))), none, [2], 0, 0⟩,
   ⟨none, .c (.st 1 (.t 14) (.t 13)), none, [14, 13], 0, 0⟩])
 (.seq (.reg [ir 15 (.ld 25 true (.t 2)),
   jc (.st 25 (.t 4) (.t 15))])
 (.ret))))
def F_keccak_State_Round : AFn := ⟨16, C_keccak_State_Round, [.cell 4 25 true]⟩
def Ba_limb_Bytes : AC := .seq (.reg [iv 13 (.bin .lss (.t 12) (.k (.int .i64 8)))])
      (.seq (.cond (.t 13)
       (.skip)
       (.exit 2))
      (.seq (.blk 3
       (.seq (.reg [iv 14 (.mv (.t 3)),
         iv 15 (.mv (.t 5)),
         iv 16 (.i2i .u8 (.t 15)),
         iv 17 (.slit 1 1 [.int .u8 0] [(0, .t 16)]),
         ic 18 (.app 1 false (.t 14) (.t 17)),
         iv 3 (.mv (.t 18))])
       (.reg [iv 19 (.mv (.t 5)),
         iv 20 (.bin .shr (.t 19) (.k (.int .u64 8))),
         iv 5 (.mv (.t 20))])))
      (.reg [iv 21 (.bin .add (.t 12) (.k (.int .i64 1))),
        iv 12 (.mv (.t 21))])))
def Bb_limb_Bytes : AC := .seq (.reg [iv 9 (.bin .lss (.t 8) (.t 7))])
   (.seq (.cond (.t 9)
    (.skip)
    (.exit 0))
   (.seq (.blk 1
    (.seq (.reg [iv 10 (.iadr none 1 (.t 6) (.t 8)),
      ir 11 (.ld 1 false (.t 10)),
      iv 5 (.mv (.t 11))])
    (.seq (.reg [iv 12 (.mv (.k (.int .i64 0)))])
    (.blk 2
     (.loop Ba_limb_Bytes)))))
   (.reg [iv 22 (.bin .add (.t 8) (.k (.int .i64 1))),
     iv 8 (.mv (.t 22))])))
def C_limb_Bytes : AC := .seq (.reg [iv 2 (.mv (.k (.nsl)))])
 (.seq (.reg [iv 3 (.mv (.k (.nsl)))])
 (.seq (.seq (.reg [iv 6 (.mv (.t 0)),
   iv 7 (.lenL (.t 6)),
   iv 8 (.mv (.k (.int .i64 0)))])
 (.blk 0
  (.loop Bb_limb_Bytes)))
 (.seq (.reg [iv 23 (.mv (.t 3)),
   iv 2 (.mv (.t 23))])
 (.ret))))
def F_limb_Bytes : AFn := ⟨24, C_limb_Bytes, [.tmp 2]⟩
def Ba_slices_Indexint_int : AC := .seq (.reg [iv 9 (.bin .lss (.t 8) (.t 7))])
   (.seq (.cond (.t 9)
    (.skip)
    (.exit 0))
   (.seq (.blk 1
    (.seq (.reg [iv 10 (.mv (.t 8)),
      iv 5 (.mv (.t 10))])
    (.seq (.reg [iv 11 (.mv (.t 1)),
      iv 12 (.mv (.t 0)),
      iv 13 (.mv (.t 5)),
      iv 14 (.iadr none 1 (.t 12) (.t 13)),
      ir 15 (.ld 1 false (.t 14)),
      iv 16 (.bin .eql (.t 11) (.t 15))])
    (.cond (.t 16)
     (.seq (.reg [iv 17 (.mv (.t 5)),
       iv 4 (.mv (.t 17))])
     (.ret))
     (.skip)))))
   (.reg [iv 18 (.bin .add (.t 8) (.k (.int .i64 1))),
     iv 8 (.mv (.t 18))])))
def C_slices_Indexint_int : AC := .seq (.reg [iv 4 (.mv (.k (.int .i64 0)))])
 (.seq (.seq (.reg [iv 6 (.mv (.t 0)),
   iv 7 (.lenL (.t 6)),
   iv 8 (.mv (.k (.int .i64 0)))])
 (.blk 0
  (.loop Ba_slices_Indexint_int)))
 (.seq (.reg [iv 4 (.mv (.k (.int .i64 (-1))))])
 (.ret)))
def F_slices_Indexint_int : AFn := ⟨19, C_slices_Indexint_int, [.tmp 4]⟩
def Ba_limb_Cmp : AC := .seq (.seq (.reg [iv 13 (.mv (.t 5)),
     iv 14 (.bin .geq (.t 13) (.k (.int .i64 0)))])
   (.cond (.t 14)
    (.skip)
    (.exit 0)))
   (.seq (.blk 1
    (.seq (.reg [iv 17 (.mv (.t 0)),
      iv 18 (.mv (.t 5)),
      ir 19 (.call i_limb_at [.t 17, .t 18]),
      iv 20 (.mv (.t 1)),
      iv 21 (.mv (.t 5)),
      ir 22 (.call i_limb_at [.t 20, .t 21]),
      ir 23 (.call i_cmp_Compareuint64 [.t 19, .t 22]),
      iv 6 (.mv (.t 23))])
    (.seq (.reg [iv 24 (.mv (.t 6)),
      iv 25 (.bin .neq (.t 24) (.k (.int .i64 0)))])
    (.cond (.t 25)
     (.seq (.reg [iv 26 (.mv (.t 6)),
       iv 4 (.mv (.t 26))])
     (.ret))
     (.skip)))))
   (.reg [iv 15 (.mv (.t 5)),
     iv 16 (.bin .sub (.t 15) (.k (.int .i64 1))),
     iv 5 (.mv (.t 16))]))
def C_limb_Cmp : AC := .seq (.reg [iv 4 (.mv (.k (.int .i64 0)))])
 (.seq (.seq (.reg [iv 7 (.mv (.t 0)),
   iv 8 (.lenL (.t 7)),
   iv 9 (.mv (.t 1)),
   iv 10 (.lenL (.t 9)),
   iv 11 (.mxmn true [.t 8, .t 10]),
   iv 12 (.bin .sub (.t 11) (.k (.int .i64 1))),
   iv 5 (.mv (.t 12))])
 (.blk 0
  (.loop Ba_limb_Cmp)))
 (.seq (.reg [iv 4 (.mv (.k (.int .i64 0)))])
 (.ret)))
def F_limb_Cmp : AFn := ⟨27, C_limb_Cmp, [.tmp 4]⟩
def C_limb_Sub : AC := .seq (.reg [iv 4 (.mv (.k (.nsl))),
   iv 5 (.mv (.k (.int .u64 0)))])
 (.seq (.reg [iv 6 (.mv (.t 0)),
   iv 7 (.mv (.t 1)),
   ir 8 (.call i_limb_each [.t 6, .t 7, .k (.fn (.func i_math_bits_Sub64) [] [])]),
   iv 9 (.ext (.t 8) 0),
   iv 10 (.ext (.t 8) 1),
   iv 4 (.mv (.t 9)),
   iv 5 (.mv (.t 10))])
 (.ret))
def F_limb_Sub : AFn := ⟨11, C_limb_Sub, [.tmp 4, .tmp 5]⟩
def C_math_bits_Mul64 : AC := .seq (.reg [iv 4 (.mv (.k (.int .u64 0))),
   iv 5 (.mv (.k (.int .u64 0)))])
 (.seq (.reg [iv 14 (.mv (.t 0)),
   iv 15 (.bin .and (.t 14) (.k (.int .u64 4294967295))),
   iv 6 (.mv (.t 15))])
 (.seq (.reg [iv 16 (.mv (.t 0)),
   iv 17 (.bin .shr (.t 16) (.k (.int .u64 32))),
   iv 7 (.mv (.t 17))])
 (.seq (.reg [iv 18 (.mv (.t 1)),
   iv 19 (.bin .and (.t 18) (.k (.int .u64 4294967295))),
   iv 8 (.mv (.t 19))])
 (.seq (.reg [iv 20 (.mv (.t 1)),
   iv 21 (.bin .shr (.t 20) (.k (.int .u64 32))),
   iv 9 (.mv (.t 21))])
 (.seq (.reg [iv 22 (.mv (.t 6)),
   iv 23 (.mv (.t 8)),
   iv 24 (.bin .mul (.t 22) (.t 23)),
   iv 10 (.mv (.t 24))])
 (.seq (.reg [iv 25 (.mv (.t 7)),
   iv 26 (.mv (.t 8)),
   iv 27 (.bin .mul (.t 25) (.t 26)),
   iv 28 (.mv (.t 10)),
   iv 29 (.bin .shr (.t 28) (.k (.int .u64 32))),
   iv 30 (.bin .add (.t 27) (.t 29)),
   iv 11 (.mv (.t 30))])
 (.seq (.reg [iv 31 (.mv (.t 11)),
   iv 32 (.bin .and (.t 31) (.k (.int .u64 4294967295))),
   iv 12 (.mv (.t 32))])
 (.seq (.reg [iv 33 (.mv (.t 11)),
   iv 34 (.bin .shr (.t 33) (.k (.int .u64 32))),
   iv 13 (.mv (.t 34))])
 (.seq (.reg [iv 35 (.mv (.t 12)),
   iv 36 (.mv (.t 6)),
   iv 37 (.mv (.t 9)),
   iv 38 (.bin .mul (.t 36) (.t 37)),
   iv 39 (.bin .add (.t 35) (.t 38)),
   iv 12 (.mv (.t 39))])
 (.seq (.reg [iv 40 (.mv (.t 7)),
   iv 41 (.mv (.t 9)),
   iv 42 (.bin .mul (.t 40) (.t 41)),
   iv 43 (.mv (.t 13)),
   iv 44 (.bin .add (.t 42) (.t 43)),
   iv 45 (.mv (.t 12)),
   iv 46 (.bin .shr (.t 45) (.k (.int .u64 32))),
   iv 47 (.bin .add (.t 44) (.t 46)),
   iv 4 (.mv (.t 47))])
 (.seq (.reg [iv 48 (.mv (.t 0)),
   iv 49 (.mv (.t 1)),
   iv 50 (.bin .mul (.t 48) (.t 49)),
   iv 5 (.mv (.t 50))])
 (.ret))))))))))))
def F_math_bits_Mul64 : AFn := ⟨51, C_math_bits_Mul64, [.tmp 4, .tmp 5]⟩
def Ba_keccak_State_theta : AC := .seq (.reg [iv 10 (.bin .lss (.t 9) (.k (.int .i64 25)))])
   (.seq (.cond (.t 10)
    (.skip)
    (.exit 0))
   (.seq (.blk 1
    (.seq (.reg [iv 11 (.mv (.t 9)),
      iv 12 (.idxA 25 1 false (.t 8) (.t 9)),
      iv 4 (.mv (.t 11)),
      iv 5 (.mv (.t 12))])
    (.reg [iv 13 (.mv (.t 4)),
      iv 14 (.bin .rem (.t 13) (.k (.int .i64 5))),
      iv 15 (.iadr (some 5) 1 (.t 3) (.t 14)),
      ir 16 (.ld 1 false (.t 15)),
      iv 17 (.mv (.t 5)),
      iv 18 (.bin .xor (.t 16) (.t 17)),
      iv 19 (.iadr (some 5) 1 (.t 3) (.t 14)),
      jc (.st 1 (.t 19) (.t 18))])))
   (.reg [iv 20 (.bin .add (.t 9) (.k (.int .i64 1))),
     iv 9 (.mv (.t 20))])))
def Bb_keccak_State_theta : AC := .seq (.reg [iv 22 (.bin .lss (.t 21) (.k (.int .i64 25)))])
   (.seq (.cond (.t 22)
    (.skip)
    (.exit 2))
   (.seq (.blk 3
    (.seq (.reg [iv 23 (.mv (.t 21)),
      iv 6 (.mv (.t 23))])
    (.seq (.reg [iv 24 (.mv (.t 6)),
      iv 25 (.bin .rem (.t 24) (.k (.int .i64 5))),
      iv 7 (.mv (.t 25))])
    (.draw [⟨(some 26), .v (.mv (.t 6)), none, [6], 0, 0⟩,
      ⟨(some 27), .v (.iadr (some 25) 1 (.t 1) (.t 26)), none, [1, 26], 0, 0⟩,
      ⟨(some 28), .r (.ld 1 false (.t 27)), none, [27], 0, 0⟩,
      ⟨(some 29), .v (.mv (.t 7)), none, [7], 0, 0⟩,
      ⟨(some 30), .v (.bin .add (.t 29) (.k (.int .i64 4))), none, [29], 0, 0⟩,
      ⟨(some 31), .v (.bin .rem (.t 30) (.k (.int .i64 5))), none, [30], 0, 0⟩,
      ⟨(some 32), .v (.iadr (some 5) 1 (.t 3) (.t 31)), none, [3, 31], 0, 0⟩,
      ⟨(some 33), .r (.ld 1 false (.t 32)), none, [32], 0, 0⟩,
      ⟨(some 34), .v (.mv (.t 7)), none, [7], 0, 0⟩,
      ⟨(some 35), .v (.bin .add (.t 34) (.k (.int .i64 1))), none, [34], 0, 0⟩,
      ⟨(some 36), .v (.bin .rem (.t 35) (.k (.int .i64 5))), none, [35], 0, 0⟩,
      ⟨(some 37), .v (.iadr (some 5) 1 (.t 3) (.t 36)), none, [3, 36], 0, 0⟩,
      ⟨(some 38), .r (.ld 1 false (.t 37)), none, [37], 0, 0⟩,
      ⟨(some 39), .r (.call i_math_bits_RotateLeft64 [.t 38, .k (.int .i64 1)]), none, [38], 0, 0⟩,
      ⟨(some 40), .v (.bin .xor (.t 33) (.t 39)), none, [33, 39], 0, 0⟩,
      ⟨(some 41), .v (.bin .xor (.t 28) (.t 40)), none, [28, 40], 0, 0⟩,
      ⟨(some 42), .v (.iadr (some 25) 1 (.t 1) (.t 26)), none, [1, 26], 0, 0⟩,
      ⟨none, .c (.st 1 (.t 42) (.t 41)), none, [42, 41], 0, 0⟩]))))
   (.reg [iv 43 (.bin .add (.t 21) (.k (.int .i64 1))),
     iv 21 (.mv (.t 43))])))
def C_keccak_State_theta : AC := .seq (.reg [ic 1 (.box (.t 0)),
   ic 2 (.alloc (rep1 (.int .u64 0) 25))])
 (.seq (.reg [ic 3 (.alloc (rep1 (.int .u64 0) 5))])
 (.seq (.seq (.reg [ir 8 (.ld 25 true (.t 1)),
   iv 9 (.mv (.k (.int .i64 0)))])
 (.blk 0
  (.loop Ba_keccak_State_theta)))
 (.seq (.seq (.reg [iv 21 (.mv (.k (.int .i64 0)))])
 (.blk 2
  (.loop Bb_keccak_State_theta)))
 (.seq (.reg [ir 44 (.ld 25 true (.t 1)),
   jc (.st 25 (.t 2) (.t 44))])
 (.ret)))))
def F_keccak_State_theta : AFn := ⟨45, C_keccak_State_theta, [.cell 2 25 true]⟩
def Ba_keccak_State_rhoPi : AC := .seq (.reg [iv 12 (.bin .lss (.t 11) (.k (.int .i64 24)))])
   (.seq (.cond (.t 12)
    (.skip)
    (.exit 0))
   (.seq (.blk 1
    (.seq (.reg [iv 13 (.mv (.t 11)),
      iv 6 (.mv (.t 13))])
    (.seq (.reg [iv 14 (.mv (.t 4)),
      iv 15 (.bin .mul (.k (.int .i64 2)) (.t 14)),
      iv 16 (.mv (.t 5)),
      iv 17 (.bin .mul (.k (.int .i64 3)) (.t 16)),
      iv 18 (.bin .add (.t 15) (.t 17)),
      iv 19 (.bin .rem (.t 18) (.k (.int .i64 5))),
      iv 7 (.mv (.t 19))])
    (.seq (.reg [iv 20 (.mv (.t 5)),
      iv 21 (.mv (.t 7)),
      iv 22 (.bin .mul (.k (.int .i64 5)) (.t 21)),
      iv 23 (.bin .add (.t 20) (.t 22)),
      iv 24 (.mv (.t 4)),
      iv 25 (.mv (.t 5)),
      iv 26 (.bin .mul (.k (.int .i64 5)) (.t 25)),
      iv 27 (.bin .add (.t 24) (.t 26)),
      iv 28 (.iadr (some 25) 1 (.t 1) (.t 27)),
      ir 29 (.ld 1 false (.t 28)),
      iv 30 (.mv (.t 6)),
      iv 31 (.bin .add (.t 30) (.k (.int .i64 1))),
      iv 32 (.mv (.t 6)),
      iv 33 (.bin .add (.t 32) (.k (.int .i64 2))),
      iv 34 (.bin .mul (.t 31) (.t 33)),
      iv 35 (.bin .quo (.t 34) (.k (.int .i64 2))),
      ir 36 (.call i_math_bits_RotateLeft64 [.t 29, .t 35]),
      iv 37 (.iadr (some 25) 1 (.t 3) (.t 23)),
      jc (.st 1 (.t 37) (.t 36))])
    (.reg [iv 38 (.mv (.t 5)),
      iv 39 (.mv (.t 7)),
      iv 4 (.mv (.t 38)),
      iv 5 (.mv (.t 39))])))))
   (.reg [iv 40 (.bin .add (.t 11) (.k (.int .i64 1))),
     iv 11 (.mv (.t 40))])))
def C_keccak_State_rhoPi : AC := .seq (.reg [iv 1 (.boxv (.t 0)),
   ic 2 (.alloc (rep1 (.int .u64 0) 25))])
 (.seq (.reg [iv 8 (.iadr (some 25) 1 (.t 1) (.k (.int .i64 0))),
   ir 9 (.ld 1 false (.t 8)),
   iv 10 (.build (rep1 (.int .u64 0) 25) [(0, 1, .t 9)]),
   ic 3 (.alloc (rep1 (.int .u64 0) 25)),
   jc (.st 25 (.t 3) (.t 10))])
 (.seq (.reg [iv 4 (.mv (.k (.int .i64 1))),
   iv 5 (.mv (.k (.int .i64 0)))])
 (.seq (.seq (.reg [iv 11 (.mv (.k (.int .i64 0)))])
 (.blk 0
  (.loop Ba_keccak_State_rhoPi)))
 (.seq (.reg [ir 41 (.ld 25 true (.t 3)),
   jc (.st 25 (.t 2) (.t 41))])
 (.ret)))))
def F_keccak_State_rhoPi : AFn := ⟨42, C_keccak_State_rhoPi, [.cell 2 25 true]⟩
def Ba_keccak_State_chi : AC := .seq (.reg [iv 8 (.bin .lss (.t 7) (.k (.int .i64 25)))])
   (.seq (.cond (.t 8)
    (.skip)
    (.exit 0))
   (.seq (.blk 1
    (.seq (.reg [iv 9 (.mv (.t 7)),
      iv 4 (.mv (.t 9))])
    (.seq (.reg [iv 10 (.mv (.t 4)),
      iv 11 (.mv (.t 4)),
      iv 12 (.bin .rem (.t 11) (.k (.int .i64 5))),
      iv 13 (.bin .sub (.t 10) (.t 12)),
      iv 5 (.mv (.t 13))])
    (.draw [⟨(some 14), .v (.mv (.t 4)), none, [4], 0, 0⟩,
      ⟨(some 15), .v (.iadr (some 25) 1 (.t 3) (.t 14)), none, [3, 14], 0, 0⟩,
      ⟨(some 16), .r (.ld 1 false (.t 15)), none, [15], 0, 0⟩,
      ⟨(some 17), .v (.mv (.t 5)), none, [5], 0, 0⟩,
      ⟨(some 18), .v (.mv (.t 4)), none, [4], 0, 0⟩,
      ⟨(some 19), .v (.bin .add (.t 18) (.k (.int .i64 2))), none, [18], 0, 0⟩,
      ⟨(some 20), .v (.bin .rem (.t 19) (.k (.int .i64 5))), none, [19], 0, 0⟩,
      ⟨(some 21), .v (.bin .add (.t 17) (.t 20)), none, [17, 20], 0, 0⟩,
      ⟨(some 22), .v (.iadr (some 25) 1 (.t 1) (.t 21)), none, [1, 21], 0, 0⟩,
      ⟨(some 23), .r (.ld 1 false (.t 22)), none, [22], 0, 0⟩,
      ⟨(some 24), .v (.mv (.t 5)), none, [5], 0, 0⟩,
      ⟨(some 25), .v (.mv (.t 4)), none, [4], 0, 0⟩,
      ⟨(some 26), .v (.bin .add (.t 25) (.k (.int .i64 1))), none, [25], 0, 0⟩,
      ⟨(some 27), .v (.bin .rem (.t 26) (.k (.int .i64 5))), none, [26], 0, 0⟩,
      ⟨(some 28), .v (.bin .add (.t 24) (.t 27)), none, [24, 27], 0, 0⟩,
      ⟨(some 29), .v (.iadr (some 25) 1 (.t 1) (.t 28)), none, [1, 28], 0, 0⟩,
      ⟨(some 30), .r (.ld 1 false (.t 29)), none, [29], 0, 0⟩,
      ⟨(some 31), .v (.bin .andNot (.t 23) (.t 30)), none, [23, 30], 0, 0⟩,
      ⟨(some 32), .v (.bin .xor (.t 16) (.t 31)), none, [16, 31], 0, 0⟩,
      ⟨(some 33), .v (.iadr (some 25) 1 (.t 3) (.t 14)), none, [3, 14], 0, 0⟩,
      ⟨none, .c (.st 1 (.t 33) (.t 32)), none, [33, 32], 0, 0⟩]))))
   (.reg [iv 34 (.bin .add (.t 7) (.k (.int .i64 1))),
     iv 7 (.mv (.t 34))])))
def C_keccak_State_chi : AC := .seq (.reg [iv 1 (.boxv (.t 0)),
   ic 2 (.alloc (rep1 (.int .u64 0) 25))])
 (.seq (.reg [ir 6 (.ld 25 true (.t 1)),
   ic 3 (.alloc (rep1 (.int .u64 0) 25)),
   jc (.st 25 (.t 3) (.t 6))])
 (.seq (.seq (.reg [iv 7 (.mv (.k (.int .i64 0)))])
 (.blk 0
  (.loop Ba_keccak_State_chi)))
 (.seq (.reg [ir 35 (.ld 25 true (.t 3)),
   jc (.st 25 (.t 2) (.t 35))])
 (.ret))))
def F_keccak_State_chi : AFn := ⟨36, C_keccak_State_chi, [.cell 2 25 true]⟩
def C_keccak_Constant : AC := .seq (.reg [iv 2 (.mv (.k (.int .u64 0)))])
 (.seq (.seq (.reg [iv 3 (.mv (.t 0)),
   iv 4 (.bin .lss (.t 3) (.k (.int .i64 0))),
   iv 5 (.mv (.t 4)),
   ⟨(some 6), .v (.mv (.t 0)), (some (5, false)), [], 0, 0⟩,
   ⟨(some 7), .v (.bin .geq (.t 6) (.k (.int .i64 24))), (some (5, false)), [], 0, 0⟩,
   iv 8 (.pick (.t 5) (.k (.bool true)) (.t 7))])
 (.cond (.t 8)
  (.seq (.reg [iv 2 (.mv (.k (.int .u64 0)))])
  (.ret))
  (.skip)))
 (.seq (.reg [iv 9 (.mv (.t 0)),
   iv 10 (.iadr (some 24) 1 (.g 0) (.t 9)),
   ir 11 (.ld 1 false (.t 10)),
   iv 2 (.mv (.t 11))])
 (.ret)))
def F_keccak_Constant : AFn := ⟨12, C_keccak_Constant, [.tmp 2]⟩
def C_cmp_Compareuint64 : AC := .seq (.reg [iv 4 (.mv (.k (.int .i64 0)))])
 (.seq (.reg [iv 7 (.mv (.t 0)),
   ir 8 (.call i_cmp_isNaNuint64 [.t 7]),
   iv 5 (.mv (.t 8))])
 (.seq (.reg [iv 9 (.mv (.t 1)),
   ir 10 (.call i_cmp_isNaNuint64 [.t 9]),
   iv 6 (.mv (.t 10))])
 (.seq (.seq (.reg [iv 11 (.mv (.t 5))])
 (.cond (.t 11)
  (.seq (.seq (.reg [iv 12 (.mv (.t 6))])
  (.cond (.t 12)
   (.seq (.reg [iv 4 (.mv (.k (.int .i64 0)))])
   (.ret))
   (.skip)))
  (.seq (.reg [iv 4 (.mv (.k (.int .i64 (-1))))])
  (.ret)))
  (.skip)))
 (.seq (.seq (.reg [iv 13 (.mv (.t 6))])
 (.cond (.t 13)
  (.seq (.reg [iv 4 (.mv (.k (.int .i64 1)))])
  (.ret))
  (.skip)))
 (.seq (.seq (.reg [iv 14 (.mv (.t 0)),
   iv 15 (.mv (.t 1)),
   iv 16 (.bin .lss (.t 14) (.t 15))])
 (.cond (.t 16)
  (.seq (.reg [iv 4 (.mv (.k (.int .i64 (-1))))])
  (.ret))
  (.skip)))
 (.seq (.seq (.reg [iv 17 (.mv (.t 0)),
   iv 18 (.mv (.t 1)),
   iv 19 (.bin .gtr (.t 17) (.t 18))])
 (.cond (.t 19)
  (.seq (.reg [iv 4 (.mv (.k (.int .i64 1)))])
  (.ret))
  (.skip)))
 (.seq (.reg [iv 4 (.mv (.k (.int .i64 0)))])
 (.ret))))))))
def F_cmp_Compareuint64 : AFn := ⟨20, C_cmp_Compareuint64, [.tmp 4]⟩
def C_limb_at : AC := .seq (.reg [iv 4 (.mv (.k (.int .u64 0)))])
 (.seq (.seq (.reg [iv 5 (.mv (.t 1)),
   iv 6 (.mv (.t 0)),
   iv 7 (.lenL (.t 6)),
   iv 8 (.bin .lss (.t 5) (.t 7))])
 (.cond (.t 8)
  (.seq (.reg [iv 9 (.mv (.t 0)),
    iv 10 (.mv (.t 1)),
    iv 11 (.iadr none 1 (.t 9) (.t 10)),
    ir 12 (.ld 1 false (.t 11)),
    iv 4 (.mv (.t 12))])
  (.ret))
  (.skip)))
 (.seq (.reg [iv 4 (.mv (.k (.int .u64 0)))])
 (.ret)))
def F_limb_at : AFn := ⟨13, C_limb_at, [.tmp 4]⟩
def Ba_limb_each : AC := .seq (.reg [iv 20 (.bin .lss (.t 19) (.t 18))])
   (.seq (.cond (.t 20)
    (.skip)
    (.exit 0))
   (.seq (.blk 1
    (.seq (.reg [iv 21 (.mv (.t 19)),
      iv 10 (.mv (.t 21))])
    (.reg [iv 23 (.mv (.t 8)),
      iv 24 (.mv (.t 10)),
      iv 25 (.mv (.t 2)),
      iv 26 (.mv (.t 0)),
      iv 27 (.mv (.t 10)),
      ir 28 (.call i_limb_at [.t 26, .t 27]),
      iv 29 (.mv (.t 1)),
      iv 30 (.mv (.t 10)),
      ir 31 (.call i_limb_at [.t 29, .t 30]),
      iv 32 (.mv (.t 9)),
      ic 33 (.callv (.t 25) [.t 28, .t 31, .t 32]),
      iv 22 (.mv (.t 33)),
      iv 34 (.ext (.t 22) 0),
      iv 35 (.ext (.t 22) 1),
      iv 36 (.iadr none 1 (.t 23) (.t 24)),
      jc (.st 1 (.t 36) (.t 34)),
      iv 9 (.mv (.t 35))])))
   (.reg [iv 37 (.bin .add (.t 19) (.k (.int .i64 1))),
     iv 19 (.mv (.t 37))])))
def C_limb_each : AC := .seq (.reg [iv 6 (.mv (.k (.nsl))),
   iv 7 (.mv (.k (.int .u64 0)))])
 (.seq (.reg [iv 11 (.mv (.t 0)),
   iv 12 (.lenL (.t 11)),
   iv 13 (.mv (.t 1)),
   iv 14 (.lenL (.t 13)),
   iv 15 (.mxmn true [.t 12, .t 14]),
   ic 16 (.mk 1 [.int .u64 0] (.t 15)),
   iv 8 (.mv (.t 16))])
 (.seq (.reg [iv 9 (.mv (.k (.int .u64 0)))])
 (.seq (.seq (.reg [iv 17 (.mv (.t 8)),
   iv 18 (.lenL (.t 17)),
   iv 19 (.mv (.k (.int .i64 0)))])
 (.blk 0
  (.loop Ba_limb_each)))
 (.seq (.reg [iv 38 (.mv (.t 8)),
   iv 39 (.mv (.t 9)),
   iv 6 (.mv (.t 38)),
   iv 7 (.mv (.t 39))])
 (.ret)))))
def F_limb_each : AFn := ⟨40, C_limb_each, [.tmp 6, .tmp 7]⟩
def C_math_bits_RotateLeft64 : AC := .seq (.reg [iv 4 (.mv (.k (.int .u64 0)))])
 (.seq (.reg [iv 6 (.mv (.t 1)),
   iv 7 (.i2i .u64 (.t 6)),
   iv 8 (.bin .and (.t 7) (.k (.int .u64 63))),
   iv 5 (.mv (.t 8))])
 (.seq (.reg [iv 9 (.mv (.t 0)),
   iv 10 (.mv (.t 5)),
   iv 11 (.bin .shl (.t 9) (.t 10)),
   iv 12 (.mv (.t 0)),
   iv 13 (.mv (.t 5)),
   iv 14 (.bin .sub (.k (.int .u64 64)) (.t 13)),
   iv 15 (.bin .shr (.t 12) (.t 14)),
   iv 16 (.bin .or (.t 11) (.t 15)),
   iv 4 (.mv (.t 16))])
 (.ret)))
def F_math_bits_RotateLeft64 : AFn := ⟨17, C_math_bits_RotateLeft64, [.tmp 4]⟩
def C_cmp_isNaNuint64 : AC := .seq (.reg [iv 2 (.mv (.k (.bool false)))])
 (.seq (.reg [iv 3 (.mv (.t 0)),
   iv 4 (.mv (.t 0)),
   iv 5 (.bin .neq (.t 3) (.t 4)),
   iv 2 (.mv (.t 5))])
 (.ret))
def F_cmp_isNaNuint64 : AFn := ⟨6, C_cmp_isNaNuint64, [.tmp 2]⟩
def C_gosem_cut_vars : AC := .reg [iv 0 (.build (rep1 (.int .u64 0) 24) [(0, 1, .k (.int .u64 1)), (1, 1, .k (.int .u64 32898)), (2, 1, .k (.int .u64 9223372036854808714)), (3, 1, .k (.int .u64 9223372039002292224)), (4, 1, .k (.int .u64 32907)), (5, 1, .k (.int .u64 2147483649)), (6, 1, .k (.int .u64 9223372039002292353)), (7, 1, .k (.int .u64 9223372036854808585)), (8, 1, .k (.int .u64 138)), (9, 1, .k (.int .u64 136)), (10, 1, .k (.int .u64 2147516425)), (11, 1, .k (.int .u64 2147483658)), (12, 1, .k (.int .u64 2147516555)), (13, 1, .k (.int .u64 9223372036854775947)), (14, 1, .k (.int .u64 9223372036854808713)), (15, 1, .k (.int .u64 9223372036854808579)), (16, 1, .k (.int .u64 9223372036854808578)), (17, 1, .k (.int .u64 9223372036854775936)), (18, 1, .k (.int .u64 32778)), (19, 1, .k (.int .u64 9223372039002259466)), (20, 1, .k (.int .u64 9223372039002292353)), (21, 1, .k (.int .u64 9223372036854808704)), (22, 1, .k (.int .u64 2147483649)), (23, 1, .k (.int .u64 9223372039002292232))]),
   jc (.st 24 (.g 0) (.t 0))]
def F_gosem_cut_vars : AFn := ⟨1, C_gosem_cut_vars, []⟩
def fnsT : FuncId → Option AFn
  | 2 => some F_gosem_cut_init
  | 3 => some F_avouchlaw14zTagDigests
  | 4 => some F_avouchlaw14zspeaks
  | 5 => some F_pattern_Serialise
  | 6 => some F_avouchlaw13zOfs
  | 7 => some F_tag_Tag
  | 8 => some F_tag_Element
  | 9 => some F_field_Element_Equal
  | 10 => some F_field_FromWide
  | 11 => some F_digest_Sum
  | 12 => some F_item_Encode
  | 13 => some F_avouchlaw12zOf
  | 14 => some F_field_prime
  | 15 => some F_limb_New
  | 16 => some F_field_enter
  | 17 => some F_limb_Modulus_Reduce
  | 18 => some F_limb_Words
  | 19 => some F_digest_Hash_Write
  | 20 => some F_digest_Hash_Sum
  | 21 => some F_item_Check
  | 22 => some F_item_number
  | 23 => some F_slices_Cloneuint64zuint64
  | 24 => some F_limb_Modulus_twice
  | 25 => some F_field_below
  | 26 => some F_field_plus
  | 27 => some F_field_product
  | 28 => some F_limb_Bits
  | 29 => some F_digest_Hash_put
  | 30 => some F_keccak_State_Permute
  | 31 => some F_keccak_State_Bytes
  | 32 => some F_item_types
  | 33 => some F_slices_Containsint_int
  | 34 => some F_limb_Modulus_less
  | 35 => some F_field_borrow
  | 37 => some F_field_inverse
  | 38 => some F_field_line
  | 39 => some F_math_bits_Len64
  | 40 => some F_keccak_State_Round
  | 41 => some F_limb_Bytes
  | 42 => some F_slices_Indexint_int
  | 43 => some F_limb_Cmp
  | 44 => some F_limb_Sub
  | 46 => some F_math_bits_Mul64
  | 47 => some F_keccak_State_theta
  | 48 => some F_keccak_State_rhoPi
  | 49 => some F_keccak_State_chi
  | 50 => some F_keccak_Constant
  | 51 => some F_cmp_Compareuint64
  | 52 => some F_limb_at
  | 53 => some F_limb_each
  | 54 => some F_math_bits_RotateLeft64
  | 55 => some F_cmp_isNaNuint64
  | 77 => some F_gosem_cut_vars
  | _ => none
def modeT : FuncId → Av.Mode
  | 15 => ⟨true, false, false, false⟩
  | 17 => ⟨true, false, false, false⟩
  | 18 => ⟨true, false, false, false⟩
  | 19 => ⟨false, false, false, false⟩
  | 22 => ⟨false, false, false, true⟩
  | 23 => ⟨true, false, false, false⟩
  | 24 => ⟨true, false, false, false⟩
  | 28 => ⟨true, false, false, false⟩
  | 29 => ⟨false, false, false, false⟩
  | 34 => ⟨true, false, false, false⟩
  | 41 => ⟨true, false, false, false⟩
  | 43 => ⟨true, false, false, false⟩
  | 44 => ⟨true, false, false, false⟩
  | 52 => ⟨true, false, false, false⟩
  | 53 => ⟨true, false, false, false⟩
  | _ => Mode.pure
def globT : Nat → Option (List AVal)
  | 0 => some ([.int .u64 1, .int .u64 32898, .int .u64 9223372036854808714, .int .u64 9223372039002292224, .int .u64 32907, .int .u64 2147483649, .int .u64 9223372039002292353, .int .u64 9223372036854808585, .int .u64 138, .int .u64 136, .int .u64 2147516425, .int .u64 2147483658, .int .u64 2147516555, .int .u64 9223372036854775947, .int .u64 9223372036854808713, .int .u64 9223372036854808579, .int .u64 9223372036854808578, .int .u64 9223372036854775936, .int .u64 32778, .int .u64 9223372039002259466, .int .u64 9223372039002292353, .int .u64 9223372036854808704, .int .u64 2147483649, .int .u64 9223372039002292232])
  | _ => none
def methL : List (TypeId × String × FuncId) := []
def methT (t : TypeId) (n : String) : Option (List (Nat × Nat × Bool) × FuncId) := (methL.find? fun r => r.1 == t && r.2.1 == n).map fun r => ([], r.2.2)
def extT : FuncId → Option ExtF
  | 36 => some (addX)
  | 45 => some (subX)
  | _ => none
def ctx : Ctx := { fns := fnsT, mode := modeT, glob := globT, meth := methT, ext := extT }
theorem ext_math_bits_Add64 : ctx.ext i_math_bits_Add64 = some (addX) := rfl
theorem ext_math_bits_Sub64 : ctx.ext i_math_bits_Sub64 = some (subX) := rfl
theorem call_gosem_cut_init (L : Lim) (args : List AVal) (h : AHeap) : acall ctx L i_gosem_cut_init args h = callR ctx L Mode.pure h 1 C_gosem_cut_init [] (argsA Mode.pure h args) := acall_at h L (f := i_gosem_cut_init) rfl rfl args
@[simp] theorem quiet_gosem_cut_init : quietMode ctx i_gosem_cut_init = true := rfl
theorem call_avouchlaw14zTagDigests (L : Lim) (args : List AVal) (h : AHeap) : acall ctx L i_avouchlaw14zTagDigests args h = callR ctx L Mode.pure h 68 C_avouchlaw14zTagDigests [.tmp 6] (argsA Mode.pure h args) := acall_at h L (f := i_avouchlaw14zTagDigests) rfl rfl args
@[simp] theorem quiet_avouchlaw14zTagDigests : quietMode ctx i_avouchlaw14zTagDigests = true := rfl
theorem call_avouchlaw14zspeaks (L : Lim) (args : List AVal) (h : AHeap) : acall ctx L i_avouchlaw14zspeaks args h = callR ctx L Mode.pure h 30 C_avouchlaw14zspeaks [.tmp 0] (argsA Mode.pure h args) := acall_at h L (f := i_avouchlaw14zspeaks) rfl rfl args
@[simp] theorem quiet_avouchlaw14zspeaks : quietMode ctx i_avouchlaw14zspeaks = true := rfl
theorem call_pattern_Serialise (L : Lim) (args : List AVal) (h : AHeap) : acall ctx L i_pattern_Serialise args h = callR ctx L Mode.pure h 34 C_pattern_Serialise [.tmp 2, .tmp 3, .tmp 4] (argsA Mode.pure h args) := acall_at h L (f := i_pattern_Serialise) rfl rfl args
@[simp] theorem quiet_pattern_Serialise : quietMode ctx i_pattern_Serialise = true := rfl
theorem call_avouchlaw13zOfs (L : Lim) (args : List AVal) (h : AHeap) : acall ctx L i_avouchlaw13zOfs args h = callR ctx L Mode.pure h 19 C_avouchlaw13zOfs [.tmp 2] (argsA Mode.pure h args) := acall_at h L (f := i_avouchlaw13zOfs) rfl rfl args
@[simp] theorem quiet_avouchlaw13zOfs : quietMode ctx i_avouchlaw13zOfs = true := rfl
theorem call_tag_Tag (L : Lim) (args : List AVal) (h : AHeap) : acall ctx L i_tag_Tag args h = callR ctx L Mode.pure h 36 C_tag_Tag [.cell 4 32 true, .tmp 5, .tmp 6] (argsA Mode.pure h args) := acall_at h L (f := i_tag_Tag) rfl rfl args
@[simp] theorem quiet_tag_Tag : quietMode ctx i_tag_Tag = true := rfl
theorem call_tag_Element (L : Lim) (args : List AVal) (h : AHeap) : acall ctx L i_tag_Element args h = callR ctx L Mode.pure h 5 C_tag_Element [.cell 2 4 true] (argsA Mode.pure h args) := acall_at h L (f := i_tag_Element) rfl rfl args
@[simp] theorem quiet_tag_Element : quietMode ctx i_tag_Element = true := rfl
theorem call_field_Element_Equal (L : Lim) (args : List AVal) (h : AHeap) : acall ctx L i_field_Element_Equal args h = callR ctx L Mode.pure h 8 C_field_Element_Equal [.tmp 4] (argsA Mode.pure h args) := acall_at h L (f := i_field_Element_Equal) rfl rfl args
@[simp] theorem quiet_field_Element_Equal : quietMode ctx i_field_Element_Equal = true := rfl
theorem call_field_FromWide (L : Lim) (args : List AVal) (h : AHeap) : acall ctx L i_field_FromWide args h = callR ctx L Mode.pure h 19 C_field_FromWide [.cell 2 4 true] (argsA Mode.pure h args) := acall_at h L (f := i_field_FromWide) rfl rfl args
@[simp] theorem quiet_field_FromWide : quietMode ctx i_field_FromWide = true := rfl
theorem call_digest_Sum (L : Lim) (args : List AVal) (h : AHeap) : acall ctx L i_digest_Sum args h = callR ctx L Mode.pure h 16 C_digest_Sum [.cell 2 32 true] (argsA Mode.pure h args) := acall_at h L (f := i_digest_Sum) rfl rfl args
@[simp] theorem quiet_digest_Sum : quietMode ctx i_digest_Sum = true := rfl
theorem call_item_Encode (L : Lim) (args : List AVal) (h : AHeap) : acall ctx L i_item_Encode args h = callR ctx L Mode.pure h 29 C_item_Encode [.tmp 2, .tmp 3] (argsA Mode.pure h args) := acall_at h L (f := i_item_Encode) rfl rfl args
@[simp] theorem quiet_item_Encode : quietMode ctx i_item_Encode = true := rfl
theorem call_avouchlaw12zOf (L : Lim) (args : List AVal) (h : AHeap) : acall ctx L i_avouchlaw12zOf args h = callR ctx L Mode.pure h 12 C_avouchlaw12zOf [.cell 2 4 true] (argsA Mode.pure h args) := acall_at h L (f := i_avouchlaw12zOf) rfl rfl args
@[simp] theorem quiet_avouchlaw12zOf : quietMode ctx i_avouchlaw12zOf = true := rfl
theorem call_field_prime (L : Lim) (args : List AVal) (h : AHeap) : acall ctx L i_field_prime args h = callR ctx L Mode.pure h 2 C_field_prime [.cell 0 4 true] (argsA Mode.pure h args) := acall_at h L (f := i_field_prime) rfl rfl args
@[simp] theorem quiet_field_prime : quietMode ctx i_field_prime = true := rfl
theorem call_limb_New (L : Lim) (args : List AVal) (h : AHeap) : acall ctx L i_limb_New args h = callR ctx L ⟨true, false, false, false⟩ h 88 C_limb_New [.tmp 2, .tmp 3] (argsA ⟨true, false, false, false⟩ h args) := acall_at h L (f := i_limb_New) rfl rfl args
@[simp] theorem quiet_limb_New : quietMode ctx i_limb_New = true := rfl
theorem call_field_enter (L : Lim) (args : List AVal) (h : AHeap) : acall ctx L i_field_enter args h = callR ctx L Mode.pure h 16 C_field_enter [.cell 2 4 true] (argsA Mode.pure h args) := acall_at h L (f := i_field_enter) rfl rfl args
@[simp] theorem quiet_field_enter : quietMode ctx i_field_enter = true := rfl
theorem call_limb_Modulus_Reduce (L : Lim) (args : List AVal) (h : AHeap) : acall ctx L i_limb_Modulus_Reduce args h = callR ctx L ⟨true, false, false, false⟩ h 33 C_limb_Modulus_Reduce [.tmp 4] (argsA ⟨true, false, false, false⟩ h args) := acall_at h L (f := i_limb_Modulus_Reduce) rfl rfl args
@[simp] theorem quiet_limb_Modulus_Reduce : quietMode ctx i_limb_Modulus_Reduce = true := rfl
theorem call_limb_Words (L : Lim) (args : List AVal) (h : AHeap) : acall ctx L i_limb_Words args h = callR ctx L ⟨true, false, false, false⟩ h 33 C_limb_Words [.tmp 2] (argsA ⟨true, false, false, false⟩ h args) := acall_at h L (f := i_limb_Words) rfl rfl args
@[simp] theorem quiet_limb_Words : quietMode ctx i_limb_Words = true := rfl
theorem call_digest_Hash_Write (L : Lim) (args : List AVal) (h : AHeap) : acall ctx L i_digest_Hash_Write args h = callR ctx L ⟨false, false, false, false⟩ h 43 C_digest_Hash_Write [] (argsA ⟨false, false, false, false⟩ h args) := acall_at h L (f := i_digest_Hash_Write) rfl rfl args
@[simp] theorem quiet_digest_Hash_Write : quietMode ctx i_digest_Hash_Write = false := rfl
theorem call_digest_Hash_Sum (L : Lim) (args : List AVal) (h : AHeap) : acall ctx L i_digest_Hash_Sum args h = callR ctx L Mode.pure h 19 C_digest_Hash_Sum [.cell 2 32 true] (argsA Mode.pure h args) := acall_at h L (f := i_digest_Hash_Sum) rfl rfl args
@[simp] theorem quiet_digest_Hash_Sum : quietMode ctx i_digest_Hash_Sum = true := rfl
theorem call_item_Check (L : Lim) (args : List AVal) (h : AHeap) : acall ctx L i_item_Check args h = callR ctx L Mode.pure h 36 C_item_Check [.tmp 2] (argsA Mode.pure h args) := acall_at h L (f := i_item_Check) rfl rfl args
@[simp] theorem quiet_item_Check : quietMode ctx i_item_Check = true := rfl
theorem call_item_number (L : Lim) (args : List AVal) (h : AHeap) : acall ctx L i_item_number args h = callR ctx L ⟨false, false, false, true⟩ h 22 C_item_number [.tmp 6] (argsA ⟨false, false, false, true⟩ h args) := acall_at h L (f := i_item_number) rfl rfl args
@[simp] theorem quiet_item_number : quietMode ctx i_item_number = false := rfl
theorem call_slices_Cloneuint64zuint64 (L : Lim) (args : List AVal) (h : AHeap) : acall ctx L i_slices_Cloneuint64zuint64 args h = callR ctx L ⟨true, false, false, false⟩ h 8 C_slices_Cloneuint64zuint64 [.tmp 2] (argsA ⟨true, false, false, false⟩ h args) := acall_at h L (f := i_slices_Cloneuint64zuint64) rfl rfl args
@[simp] theorem quiet_slices_Cloneuint64zuint64 : quietMode ctx i_slices_Cloneuint64zuint64 = true := rfl
theorem call_limb_Modulus_twice (L : Lim) (args : List AVal) (h : AHeap) : acall ctx L i_limb_Modulus_twice args h = callR ctx L ⟨true, false, false, false⟩ h 34 C_limb_Modulus_twice [.tmp 6] (argsA ⟨true, false, false, false⟩ h args) := acall_at h L (f := i_limb_Modulus_twice) rfl rfl args
@[simp] theorem quiet_limb_Modulus_twice : quietMode ctx i_limb_Modulus_twice = true := rfl
theorem call_field_below (L : Lim) (args : List AVal) (h : AHeap) : acall ctx L i_field_below args h = callR ctx L Mode.pure h 15 C_field_below [.cell 2 4 true] (argsA Mode.pure h args) := acall_at h L (f := i_field_below) rfl rfl args
@[simp] theorem quiet_field_below : quietMode ctx i_field_below = true := rfl
theorem call_field_plus (L : Lim) (args : List AVal) (h : AHeap) : acall ctx L i_field_plus args h = callR ctx L Mode.pure h 25 C_field_plus [.cell 4 4 true] (argsA Mode.pure h args) := acall_at h L (f := i_field_plus) rfl rfl args
@[simp] theorem quiet_field_plus : quietMode ctx i_field_plus = true := rfl
theorem call_field_product (L : Lim) (args : List AVal) (h : AHeap) : acall ctx L i_field_product args h = callR ctx L Mode.pure h 91 C_field_product [.cell 4 4 true] (argsA Mode.pure h args) := acall_at h L (f := i_field_product) rfl rfl args
@[simp] theorem quiet_field_product : quietMode ctx i_field_product = true := rfl
theorem call_limb_Bits (L : Lim) (args : List AVal) (h : AHeap) : acall ctx L i_limb_Bits args h = callR ctx L ⟨true, false, false, false⟩ h 24 C_limb_Bits [.tmp 2] (argsA ⟨true, false, false, false⟩ h args) := acall_at h L (f := i_limb_Bits) rfl rfl args
@[simp] theorem quiet_limb_Bits : quietMode ctx i_limb_Bits = true := rfl
theorem call_digest_Hash_put (L : Lim) (args : List AVal) (h : AHeap) : acall ctx L i_digest_Hash_put args h = callR ctx L ⟨false, false, false, false⟩ h 23 C_digest_Hash_put [] (argsA ⟨false, false, false, false⟩ h args) := acall_at h L (f := i_digest_Hash_put) rfl rfl args
@[simp] theorem quiet_digest_Hash_put : quietMode ctx i_digest_Hash_put = false := rfl
theorem call_keccak_State_Permute (L : Lim) (args : List AVal) (h : AHeap) : acall ctx L i_keccak_State_Permute args h = callR ctx L Mode.pure h 12 C_keccak_State_Permute [.cell 2 25 true] (argsA Mode.pure h args) := acall_at h L (f := i_keccak_State_Permute) rfl rfl args
@[simp] theorem quiet_keccak_State_Permute : quietMode ctx i_keccak_State_Permute = true := rfl
theorem call_keccak_State_Bytes (L : Lim) (args : List AVal) (h : AHeap) : acall ctx L i_keccak_State_Bytes args h = callR ctx L Mode.pure h 7 C_keccak_State_Bytes [.cell 2 200 true] (argsA Mode.pure h args) := acall_at h L (f := i_keccak_State_Bytes) rfl rfl args
@[simp] theorem quiet_keccak_State_Bytes : quietMode ctx i_keccak_State_Bytes = true := rfl
theorem call_item_types (L : Lim) (args : List AVal) (h : AHeap) : acall ctx L i_item_types args h = callR ctx L Mode.pure h 14 C_item_types [.tmp 2, .tmp 3] (argsA Mode.pure h args) := acall_at h L (f := i_item_types) rfl rfl args
@[simp] theorem quiet_item_types : quietMode ctx i_item_types = true := rfl
theorem call_slices_Containsint_int (L : Lim) (args : List AVal) (h : AHeap) : acall ctx L i_slices_Containsint_int args h = callR ctx L Mode.pure h 9 C_slices_Containsint_int [.tmp 4] (argsA Mode.pure h args) := acall_at h L (f := i_slices_Containsint_int) rfl rfl args
@[simp] theorem quiet_slices_Containsint_int : quietMode ctx i_slices_Containsint_int = true := rfl
theorem call_limb_Modulus_less (L : Lim) (args : List AVal) (h : AHeap) : acall ctx L i_limb_Modulus_less args h = callR ctx L ⟨true, false, false, false⟩ h 31 C_limb_Modulus_less [.tmp 6] (argsA ⟨true, false, false, false⟩ h args) := acall_at h L (f := i_limb_Modulus_less) rfl rfl args
@[simp] theorem quiet_limb_Modulus_less : quietMode ctx i_limb_Modulus_less = true := rfl
theorem call_field_borrow (L : Lim) (args : List AVal) (h : AHeap) : acall ctx L i_field_borrow args h = callR ctx L Mode.pure h 26 C_field_borrow [.cell 4 4 true, .tmp 5] (argsA Mode.pure h args) := acall_at h L (f := i_field_borrow) rfl rfl args
@[simp] theorem quiet_field_borrow : quietMode ctx i_field_borrow = true := rfl
theorem call_field_inverse (L : Lim) (args : List AVal) (h : AHeap) : acall ctx L i_field_inverse args h = callR ctx L Mode.pure h 16 C_field_inverse [.tmp 0] (argsA Mode.pure h args) := acall_at h L (f := i_field_inverse) rfl rfl args
@[simp] theorem quiet_field_inverse : quietMode ctx i_field_inverse = true := rfl
theorem call_field_line (L : Lim) (args : List AVal) (h : AHeap) : acall ctx L i_field_line args h = callR ctx L Mode.pure h 38 C_field_line [.tmp 8, .tmp 9] (argsA Mode.pure h args) := acall_at h L (f := i_field_line) rfl rfl args
@[simp] theorem quiet_field_line : quietMode ctx i_field_line = true := rfl
theorem call_math_bits_Len64 (L : Lim) (args : List AVal) (h : AHeap) : acall ctx L i_math_bits_Len64 args h = callR ctx L Mode.pure h 25 C_math_bits_Len64 [.tmp 2] (argsA Mode.pure h args) := acall_at h L (f := i_math_bits_Len64) rfl rfl args
@[simp] theorem quiet_math_bits_Len64 : quietMode ctx i_math_bits_Len64 = true := rfl
theorem call_keccak_State_Round (L : Lim) (args : List AVal) (h : AHeap) : acall ctx L i_keccak_State_Round args h = callR ctx L Mode.pure h 16 C_keccak_State_Round [.cell 4 25 true] (argsA Mode.pure h args) := acall_at h L (f := i_keccak_State_Round) rfl rfl args
@[simp] theorem quiet_keccak_State_Round : quietMode ctx i_keccak_State_Round = true := rfl
theorem call_limb_Bytes (L : Lim) (args : List AVal) (h : AHeap) : acall ctx L i_limb_Bytes args h = callR ctx L ⟨true, false, false, false⟩ h 24 C_limb_Bytes [.tmp 2] (argsA ⟨true, false, false, false⟩ h args) := acall_at h L (f := i_limb_Bytes) rfl rfl args
@[simp] theorem quiet_limb_Bytes : quietMode ctx i_limb_Bytes = true := rfl
theorem call_slices_Indexint_int (L : Lim) (args : List AVal) (h : AHeap) : acall ctx L i_slices_Indexint_int args h = callR ctx L Mode.pure h 19 C_slices_Indexint_int [.tmp 4] (argsA Mode.pure h args) := acall_at h L (f := i_slices_Indexint_int) rfl rfl args
@[simp] theorem quiet_slices_Indexint_int : quietMode ctx i_slices_Indexint_int = true := rfl
theorem call_limb_Cmp (L : Lim) (args : List AVal) (h : AHeap) : acall ctx L i_limb_Cmp args h = callR ctx L ⟨true, false, false, false⟩ h 27 C_limb_Cmp [.tmp 4] (argsA ⟨true, false, false, false⟩ h args) := acall_at h L (f := i_limb_Cmp) rfl rfl args
@[simp] theorem quiet_limb_Cmp : quietMode ctx i_limb_Cmp = true := rfl
theorem call_limb_Sub (L : Lim) (args : List AVal) (h : AHeap) : acall ctx L i_limb_Sub args h = callR ctx L ⟨true, false, false, false⟩ h 11 C_limb_Sub [.tmp 4, .tmp 5] (argsA ⟨true, false, false, false⟩ h args) := acall_at h L (f := i_limb_Sub) rfl rfl args
@[simp] theorem quiet_limb_Sub : quietMode ctx i_limb_Sub = true := rfl
theorem call_math_bits_Mul64 (L : Lim) (args : List AVal) (h : AHeap) : acall ctx L i_math_bits_Mul64 args h = callR ctx L Mode.pure h 51 C_math_bits_Mul64 [.tmp 4, .tmp 5] (argsA Mode.pure h args) := acall_at h L (f := i_math_bits_Mul64) rfl rfl args
@[simp] theorem quiet_math_bits_Mul64 : quietMode ctx i_math_bits_Mul64 = true := rfl
theorem call_keccak_State_theta (L : Lim) (args : List AVal) (h : AHeap) : acall ctx L i_keccak_State_theta args h = callR ctx L Mode.pure h 45 C_keccak_State_theta [.cell 2 25 true] (argsA Mode.pure h args) := acall_at h L (f := i_keccak_State_theta) rfl rfl args
@[simp] theorem quiet_keccak_State_theta : quietMode ctx i_keccak_State_theta = true := rfl
theorem call_keccak_State_rhoPi (L : Lim) (args : List AVal) (h : AHeap) : acall ctx L i_keccak_State_rhoPi args h = callR ctx L Mode.pure h 42 C_keccak_State_rhoPi [.cell 2 25 true] (argsA Mode.pure h args) := acall_at h L (f := i_keccak_State_rhoPi) rfl rfl args
@[simp] theorem quiet_keccak_State_rhoPi : quietMode ctx i_keccak_State_rhoPi = true := rfl
theorem call_keccak_State_chi (L : Lim) (args : List AVal) (h : AHeap) : acall ctx L i_keccak_State_chi args h = callR ctx L Mode.pure h 36 C_keccak_State_chi [.cell 2 25 true] (argsA Mode.pure h args) := acall_at h L (f := i_keccak_State_chi) rfl rfl args
@[simp] theorem quiet_keccak_State_chi : quietMode ctx i_keccak_State_chi = true := rfl
theorem call_keccak_Constant (L : Lim) (args : List AVal) (h : AHeap) : acall ctx L i_keccak_Constant args h = callR ctx L Mode.pure h 12 C_keccak_Constant [.tmp 2] (argsA Mode.pure h args) := acall_at h L (f := i_keccak_Constant) rfl rfl args
@[simp] theorem quiet_keccak_Constant : quietMode ctx i_keccak_Constant = true := rfl
theorem call_cmp_Compareuint64 (L : Lim) (args : List AVal) (h : AHeap) : acall ctx L i_cmp_Compareuint64 args h = callR ctx L Mode.pure h 20 C_cmp_Compareuint64 [.tmp 4] (argsA Mode.pure h args) := acall_at h L (f := i_cmp_Compareuint64) rfl rfl args
@[simp] theorem quiet_cmp_Compareuint64 : quietMode ctx i_cmp_Compareuint64 = true := rfl
theorem call_limb_at (L : Lim) (args : List AVal) (h : AHeap) : acall ctx L i_limb_at args h = callR ctx L ⟨true, false, false, false⟩ h 13 C_limb_at [.tmp 4] (argsA ⟨true, false, false, false⟩ h args) := acall_at h L (f := i_limb_at) rfl rfl args
@[simp] theorem quiet_limb_at : quietMode ctx i_limb_at = true := rfl
theorem call_limb_each (L : Lim) (args : List AVal) (h : AHeap) : acall ctx L i_limb_each args h = callR ctx L ⟨true, false, false, false⟩ h 40 C_limb_each [.tmp 6, .tmp 7] (argsA ⟨true, false, false, false⟩ h args) := acall_at h L (f := i_limb_each) rfl rfl args
@[simp] theorem quiet_limb_each : quietMode ctx i_limb_each = true := rfl
theorem call_math_bits_RotateLeft64 (L : Lim) (args : List AVal) (h : AHeap) : acall ctx L i_math_bits_RotateLeft64 args h = callR ctx L Mode.pure h 17 C_math_bits_RotateLeft64 [.tmp 4] (argsA Mode.pure h args) := acall_at h L (f := i_math_bits_RotateLeft64) rfl rfl args
@[simp] theorem quiet_math_bits_RotateLeft64 : quietMode ctx i_math_bits_RotateLeft64 = true := rfl
theorem call_cmp_isNaNuint64 (L : Lim) (args : List AVal) (h : AHeap) : acall ctx L i_cmp_isNaNuint64 args h = callR ctx L Mode.pure h 6 C_cmp_isNaNuint64 [.tmp 2] (argsA Mode.pure h args) := acall_at h L (f := i_cmp_isNaNuint64) rfl rfl args
@[simp] theorem quiet_cmp_isNaNuint64 : quietMode ctx i_cmp_isNaNuint64 = true := rfl
theorem call_gosem_cut_vars (L : Lim) (args : List AVal) (h : AHeap) : acall ctx L i_gosem_cut_vars args h = callR ctx L Mode.pure h 1 C_gosem_cut_vars [] (argsA Mode.pure h args) := acall_at h L (f := i_gosem_cut_vars) rfl rfl args
@[simp] theorem quiet_gosem_cut_vars : quietMode ctx i_gosem_cut_vars = true := rfl
end Go.Av
