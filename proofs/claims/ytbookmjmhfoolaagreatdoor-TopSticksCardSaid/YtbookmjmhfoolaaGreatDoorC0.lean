/- The functions of the program as the machine's code, printed by a program of mine. -/
import Derived.Test.YtbookmjmhfoolaaGreatDoorV6
set_option maxRecDepth 100000
namespace Go.Av
abbrev Mv (a b:Nat):AI:=iv a (.mv (.t b))
abbrev Ld (a b:Nat):AI:=ir a (.ld 1 false (.t b))
abbrev Nk (a b:Nat):AI:=iv a (.nck (.t b))
abbrev Fa (a o b:Nat):AI:=iv a (.fadr o (.t b))
abbrev Ex (a b i:Nat):AI:=iv a (.ext (.t b) i)
abbrev Bt (a:Nat) (o:BinOp) (b c:Nat):AI:=iv a (.bin o (.t b) (.t c))
abbrev Bi (a:Nat) (o:BinOp) (b:Nat) (n:Int):AI:=iv a (.bin o (.t b) (.k (.int .i64 n)))
abbrev Ia (a b c:Nat):AI:=iv a (.iadr none 1 (.t b) (.t c))
abbrev Sx (a b:Nat):AI:=jc (.st 1 (.t a) (.t b))
abbrev Dv (a:Nat) (o:VOp) (u:List Nat):AI:=⟨some a,.v o,none,u,0,0⟩
abbrev Dr (a:Nat) (o:ROp) (u:List Nat) (l h:Nat):AI:=⟨some a,.r o,none,u,l,h⟩
abbrev Dc (a:Nat) (o:COp) (u:List Nat):AI:=⟨some a,.c o,none,u,0,0⟩
abbrev Dn (o:COp) (u:List Nat):AI:=⟨none,.c o,none,u,0,0⟩
abbrev Gv (a:Nat) (o:VOp) (g:Nat) (w:Bool) (u:List Nat):AI:=⟨some a,.v o,some (g,w),u,0,0⟩
abbrev Gr (a:Nat) (o:ROp) (g:Nat) (w:Bool) (u:List Nat) (l h:Nat):AI:=⟨some a,.r o,some (g,w),u,l,h⟩
abbrev Gc (a:Nat) (o:COp) (g:Nat) (w:Bool) (u:List Nat):AI:=⟨some a,.c o,some (g,w),u,0,0⟩
abbrev Dm (a b:Nat):AI:=⟨some a,.v (.mv (.t b)),none,[b],0,0⟩
abbrev Gm (a b g:Nat) (w:Bool):AI:=⟨some a,.v (.mv (.t b)),some (g,w),[b,g],0,0⟩
def zcC:FuncId:=3
def zcD:FuncId:=7
def zeU:FuncId:=8
def zbp:FuncId:=9
def zdi:FuncId:=10
def zed:FuncId:=11
def zih:FuncId:=17
def zdj:FuncId:=18
def zeV:FuncId:=19
def zkt:FuncId:=32
def zpq:FuncId:=33
def zcf:FuncId:=34
def zhx:FuncId:=35
def znk:FuncId:=36
def za5:FuncId:=37
def za0:FuncId:=38
def zaO:FuncId:=39
def zcE:FuncId:=40
def za1:FuncId:=41
def za6:FuncId:=42
def zfE:FuncId:=59
def zdb:FuncId:=60
def zgN:FuncId:=61
def zbq:FuncId:=62
def zfF:FuncId:=63
def zfG:FuncId:=64
def zfh:FuncId:=65
def zjG:FuncId:=66
def zps:FuncId:=67
def zbr:FuncId:=68
def zdo:FuncId:=69
def za7:FuncId:=70
def zav:FuncId:=71
def zeJ:FuncId:=72
def zcF:FuncId:=73
def zgO:FuncId:=74
def zcJ:FuncId:=75
def zhp:FuncId:=106
def zhq:FuncId:=107
def zc7:FuncId:=108
def zcR:FuncId:=109
def zeL:FuncId:=110
def zeA:FuncId:=111
def zna:FuncId:=112
def zkC:FuncId:=113
def zhr:FuncId:=114
def zdt:FuncId:=115
def zdD:FuncId:=116
def zcU:FuncId:=117
def zbK:FuncId:=118
def zhT:FuncId:=130
def zgm:FuncId:=131
def zgn:FuncId:=132
def ze9:FuncId:=144
def za4:FuncId:=147
def zcv:FuncId:=148
def zdH:FuncId:=149
def zbT:FuncId:=150
def zcw:FuncId:=151
def zbd:FuncId:=152
def za8:FuncId:=153
def zbM:FuncId:=154
def zbU:FuncId:=155
def zjm:FuncId:=156
def zd2:FuncId:=157
def zbC:FuncId:=158
def zdJ:FuncId:=159
def zj3:FuncId:=160
def zbZ:FuncId:=161
def zb0:FuncId:=162
def zb1:FuncId:=163
def ziA:FuncId:=164
def zfs:FuncId:=165
def zfa:FuncId:=166
def zaJ:FuncId:=167
def zd3:FuncId:=168
def zd4:FuncId:=170
def zgw:FuncId:=180
def zh0:FuncId:=181
def zh1:FuncId:=182
def ziC:FuncId:=190
def zbD:FuncId:=191
def zcL:FuncId:=192
def zaQ:FuncId:=193
def zbN:FuncId:=194
def zgy:FuncId:=195
def zf1:FuncId:=196
def zeE:FuncId:=197
def ziD:FuncId:=198
def zeN:FuncId:=199
def zft:FuncId:=200
def zeO:FuncId:=201
def zeP:FuncId:=202
def zj6:FuncId:=203
def zcX:FuncId:=204
def zh2:FuncId:=205
def zh3:FuncId:=206
def zjs:FuncId:=211
def zkK:FuncId:=212
def zjt:FuncId:=213
def zh4:FuncId:=214
def zfR:FuncId:=215
def zcy:FuncId:=224
def zcM:FuncId:=225
def zcN:FuncId:=226
def zdw:FuncId:=227
def zd5:FuncId:=228
def zbx:FuncId:=229
def zb2:FuncId:=230
def zh5:FuncId:=231
def zgA:FuncId:=232
def zju:FuncId:=233
def zbO:FuncId:=234
def zoX:FuncId:=235
def zbn:FuncId:=236
def zkO:FuncId:=237
def zbh:FuncId:=243
def zmt:FuncId:=244
def zda:FuncId:=245
def zic:FuncId:=246
def zaH:FuncId:=247
def zkl:FuncId:=248
def zcZ:FuncId:=249
def zga:FuncId:=250
def zeI:FuncId:=270
def zaS:FuncId:=271
def zaG:FuncId:=272
def za2:FuncId:=273
def zaT:FuncId:=274
def zba:FuncId:=275
def zaU:FuncId:=276
def zfB:FuncId:=277
def za3:FuncId:=278
def zbv:FuncId:=279
def zeS:FuncId:=280
def zgf:FuncId:=281
def zec:FuncId:=282
def zhw:FuncId:=283
def ziL:FuncId:=295
def zbw:FuncId:=304
def zce:FuncId:=305
def zbQ:FuncId:=306
def zeT:FuncId:=307
def zci:FuncId:=319
def zdc:FuncId:=320
def zij:FuncId:=335
def zLD:ByteArray:=⟨#[0,1,2,2,3,3,3,3,4,4,4,4,4,4,4,4,5,5,5,5,5,5,5,5,5,5,5,5,5,5,5,5,6,6,6,6,6,6,6,6,6,6,6,6,6,6,6,6,6,6,6,6,6,6,6,6,6,6,6,6,6,6,6,6,7,7,7,7,7,7,7,7,7,7,7,7,7,7,7,7,7,7,7,7,7,7,7,7,7,7,7,7,7,7,7,7,7,7,7,7,7,7,7,7,7,7,7,7,7,7,7,7,7,7,7,7,7,7,7,7,7,7,7,7,7,7,7,7,8,8,8,8,8,8,8,8,8,8,8,8,8,8,8,8,8,8,8,8,8,8,8,8,8,8,8,8,8,8,8,8,8,8,8,8,8,8,8,8,8,8,8,8,8,8,8,8,8,8,8,8,8,8,8,8,8,8,8,8,8,8,8,8,8,8,8,8,8,8,8,8,8,8,8,8,8,8,8,8,8,8,8,8,8,8,8,8,8,8,8,8,8,8,8,8,8,8,8,8,8,8,8,8,8,8,8,8,8,8,8,8,8,8,8,8,8,8,8,8,8,8,8,8,8,8,8,8]⟩
def za9:AC:=.seq (.reg [Bt 40 .lss 39 38]) (.seq (.cond (.t 40) (.skip) (.exit 0)) (.seq (.blk 1 (.seq (.reg [Mv 41 39,iv 42 (.iadr none 2 (.t 37) (.t 39)),ir 43 (.ld 2 true (.t 42)),ic 8 (.alloc [.int .i64 0,.nsl]),Mv 7 41,jc (.st 2 (.t 8) (.t 43))]) (.seq (.seq (.reg [Mv 44 6,Bi 45 .neq 44 0,Mv 46 45,Gv 47 (.fadr 0 (.t 8)) 46 true [],Gr 48 (.ld 1 false (.t 47)) 46 true [] 0 0,Gv 49 (.mv (.t 6)) 46 true [],Gv 50 (.bin .neq (.t 48) (.t 49)) 46 true [],Gv 51 (.mv (.t 50)) 46 true [],Gv 52 (.fadr 1 (.t 8)) 51 false [],Gr 53 (.ld 1 false (.t 52)) 51 false [] 0 0,Gv 54 (.lenL (.t 53)) 51 false [],Gv 55 (.bin .neq (.t 54) (.k (.int .i64 0))) 51 false [],Gv 56 (.pick (.t 51) (.k (.bool true)) (.t 55)) 46 true [],iv 57 (.pick (.t 46) (.t 56) (.k (.bool false))),Mv 58 57,Gv 59 (.fadr 0 (.t 8)) 58 false [],Gr 60 (.ld 1 false (.t 59)) 58 false [] 0 0,Gv 61 (.bin .neq (.t 60) (.k (.int .i64 0))) 58 false [],Gv 62 (.mv (.t 61)) 58 false [],Gv 63 (.fadr 1 (.t 8)) 62 true [],Gr 64 (.ld 1 false (.t 63)) 62 true [] 0 0,Gv 65 (.lenL (.t 64)) 62 true [],Gv 66 (.bin .neq (.t 65) (.k (.int .i64 0))) 62 true [],Gv 67 (.pick (.t 62) (.t 66) (.k (.bool false))) 58 false [],iv 68 (.pick (.t 58) (.k (.bool true)) (.t 67))]) (.cond (.t 68) (.seq (.reg [iv 2 (.mv (.k (.bool false)))]) (.ret)) (.skip))) (.seq (.reg [Fa 69 0 8,Ld 70 69,Bi 71 .neq 70 0,Mv 72 71,Gv 73 (.mv (.t 6)) 72 true [],Gv 74 (.bin .eql (.t 73) (.k (.int .i64 0))) 72 true [],iv 75 (.pick (.t 72) (.t 74) (.k (.bool false)))]) (.cond (.t 75) (.seq (.reg [Fa 76 0 8,Ld 77 76,Mv 6 77]) (.seq (.reg [ir 78 (.ld 3 true (.t 1)),ic 9 (.alloc [.int .i64 0,.nsl,.nsl]),jc (.st 3 (.t 9) (.t 78))]) (.seq (.reg [Fa 79 2 1,Ld 80 79,Mv 81 7,iv 82 (.slice .slc 4 (.t 80) none (some (.t 81)) none),Fa 83 2 9,Sx 83 82]) (.seq (.reg [ir 85 (.ld 3 true (.t 9)),ir 86 (.call zdi [.t 85]),ir 87 (.call zbp [.t 86]),Mv 84 87,Ex 88 84 0,Ex 89 84 1,Ex 90 84 2,Mv 10 88,Mv 11 89,Mv 12 90]) (.seq (.draw [Dm 91 12,Dv 92 (.bin .neq (.t 91) (.k (.int .i64 0))) [91],Dm 93 92,Gm 94 10 93 false,Gc 95 (.call zed [.t 94]) 93 false [94,93],Gm 96 3 93 false,Gm 97 7 93 false,Gv 98 (.slice .slc 2 (.t 96) none (some (.t 97)) none) 93 false [96,97,93],Gc 99 (.call zed [.t 98]) 93 false [98,93],Gv 100 (.bin .neq (.t 95) (.t 99)) 93 false [95,99,93],Dv 101 (.pick (.t 93) (.k (.bool true)) (.t 100)) [93,100]]) (.cond (.t 101) (.seq (.reg [iv 2 (.mv (.k (.bool false)))]) (.ret)) (.skip))))))) (.skip)))))) (.reg [Bi 102 .add 39 1,Mv 39 102])))
def zbj:AC:=.seq (.reg [iv 1 (.boxv (.t 0)),iv 2 (.mv (.k (.bool false)))]) (.seq (.seq (.reg [ir 13 (.call zcD []),iv 14 (.un .not (.t 13)),Mv 15 14,Gr 16 (.ld 3 true (.t 1)) 15 false [] 0 0,Gr 17 (.call zeU [.t 16,.k (.int .i64 12),.k (.int .i64 300),.k (.int .i64 60)]) 15 false [] 0 0,iv 18 (.pick (.t 15) (.k (.bool true)) (.t 17)),Mv 19 18,Gv 20 (.fadr 0 (.t 1)) 19 false [],Gr 21 (.ld 1 false (.t 20)) 19 false [] 0 0,Gv 22 (.bin .eql (.t 21) (.k (.int .i64 2))) 19 false [],iv 23 (.pick (.t 19) (.k (.bool true)) (.t 22))]) (.cond (.t 23) (.seq (.reg [ir 24 (.call zcD []),Mv 2 24]) (.ret)) (.skip))) (.seq (.reg [ir 26 (.ld 3 true (.t 1)),ir 27 (.call zdi [.t 26]),ir 28 (.call zbp [.t 27]),Mv 25 28,Ex 29 25 0,Ex 30 25 1,Ex 31 25 2,Mv 3 29,Mv 4 30,Mv 5 31]) (.seq (.seq (.reg [Mv 32 5,Bi 33 .neq 32 0]) (.cond (.t 33) (.seq (.reg [Mv 34 3,iv 35 (.lenL (.t 34)),Bi 36 .eql 35 0,Mv 2 36]) (.ret)) (.skip))) (.seq (.reg [iv 6 (.mv (.k (.int .i64 0)))]) (.seq (.seq (.reg [Mv 37 3,iv 38 (.lenL (.t 37)),iv 39 (.mv (.k (.int .i64 0)))]) (.blk 0 (.loop za9))) (.seq (.reg [iv 2 (.mv (.k (.bool true)))]) (.ret)))))))
def zgQ:AFn:=⟨103,zbj,[.tmp 2],none⟩
def zfJ:AC:=.seq (.reg [iv 0 (.mv (.k (.bool false)))]) (.seq (.reg [iv 9 (.slit 1 28 [.int .u8 0] [(0,.k (.int .u8 1)),(1,.k (.int .u8 16)),(2,.k (.int .u8 0)),(3,.k (.int .u8 1)),(4,.k (.int .u8 1)),(5,.k (.int .u8 1)),(6,.k (.int .u8 0)),(7,.k (.int .u8 0)),(8,.k (.int .u8 0)),(9,.k (.int .u8 0)),(10,.k (.int .u8 0)),(11,.k (.int .u8 2)),(12,.k (.int .u8 3)),(13,.k (.int .u8 1)),(14,.k (.int .u8 0)),(15,.k (.int .u8 0)),(16,.k (.int .u8 0)),(17,.k (.int .u8 0)),(18,.k (.int .u8 0)),(19,.k (.int .u8 0)),(20,.k (.int .u8 1)),(21,.k (.int .u8 1)),(22,.k (.int .u8 0)),(23,.k (.int .u8 7)),(24,.k (.int .u8 2)),(25,.k (.int .u8 1)),(26,.k (.int .u8 0)),(27,.k (.int .u8 4))]),Mv 1 9]) (.seq (.reg [Mv 11 1,ic 12 (.call zih [.t 11]),Mv 10 12,Ex 13 10 0,Ex 14 10 1,ic 2 (.alloc [.int .i64 0,.nsl,.nsl]),jc (.st 3 (.t 2) (.t 13)),Mv 3 14]) (.seq (.seq (.reg [Mv 15 3,Bi 16 .neq 15 0,Mv 17 16,Gv 18 (.fadr 2 (.t 2)) 17 false [],Gr 19 (.ld 1 false (.t 18)) 17 false [] 0 0,Gv 20 (.lenL (.t 19)) 17 false [],Gv 21 (.bin .neq (.t 20) (.k (.int .i64 3))) 17 false [],iv 22 (.pick (.t 17) (.k (.bool true)) (.t 21))]) (.cond (.t 22) (.seq (.reg [iv 0 (.mv (.k (.bool false)))]) (.ret)) (.skip))) (.seq (.reg [ir 24 (.ld 3 true (.t 2)),ir 25 (.call zbp [.t 24]),Mv 23 25,Ex 26 23 0,Ex 27 23 1,Ex 28 23 2,Mv 4 26,Mv 5 27,Mv 3 28]) (.seq (.reg [Fa 29 2 2,Ld 30 29,iv 31 (.slit 1 1 [.int .u8 0] [(0,.k (.int .u8 8))]),iv 32 (.iadr none 4 (.t 30) (.k (.int .i64 0))),Fa 33 3 32,Sx 33 31]) (.seq (.reg [ir 35 (.ld 3 true (.t 2)),ir 36 (.call zbp [.t 35]),Mv 34 36,Ex 37 34 0,Ex 38 34 1,Ex 39 34 2,Mv 6 37,Mv 7 38,Mv 8 39]) (.seq (.seq (.reg [Mv 40 3,Bi 41 .neq 40 0,Mv 42 41,Gv 43 (.mv (.t 8)) 42 false [],Gv 44 (.bin .neq (.t 43) (.k (.int .i64 0))) 42 false [],iv 45 (.pick (.t 42) (.k (.bool true)) (.t 44)),Mv 46 45,Gv 47 (.mv (.t 4)) 46 false [],Gv 48 (.lenL (.t 47)) 46 false [],Gv 49 (.bin .neq (.t 48) (.k (.int .i64 3))) 46 false [],iv 50 (.pick (.t 46) (.k (.bool true)) (.t 49)),Mv 51 50,Gv 52 (.mv (.t 6)) 51 false [],Gv 53 (.lenL (.t 52)) 51 false [],Gv 54 (.bin .neq (.t 53) (.k (.int .i64 3))) 51 false [],iv 55 (.pick (.t 51) (.k (.bool true)) (.t 54)),Mv 56 55,Gv 57 (.mv (.t 4)) 56 false [],Gv 58 (.iadr none 2 (.t 57) (.k (.int .i64 2))) 56 false [],Gv 59 (.fadr 0 (.t 58)) 56 false [],Gr 60 (.ld 1 false (.t 59)) 56 false [] 0 0,Gv 61 (.bin .neq (.t 60) (.k (.int .i64 0))) 56 false [],iv 62 (.pick (.t 56) (.k (.bool true)) (.t 61)),Mv 63 62,Gv 64 (.mv (.t 4)) 63 false [],Gv 65 (.iadr none 2 (.t 64) (.k (.int .i64 1))) 63 false [],Gv 66 (.fadr 1 (.t 65)) 63 false [],Gr 67 (.ld 1 false (.t 66)) 63 false [] 0 0,Gv 68 (.lenL (.t 67)) 63 false [],Gv 69 (.bin .neq (.t 68) (.k (.int .i64 32))) 63 false [],iv 70 (.pick (.t 63) (.k (.bool true)) (.t 69)),Mv 71 70,Gv 72 (.mv (.t 6)) 71 false [],Gv 73 (.iadr none 2 (.t 72) (.k (.int .i64 1))) 71 false [],Gv 74 (.fadr 1 (.t 73)) 71 false [],Gr 75 (.ld 1 false (.t 74)) 71 false [] 0 0,Gv 76 (.lenL (.t 75)) 71 false [],Gv 77 (.bin .neq (.t 76) (.k (.int .i64 32))) 71 false [],iv 78 (.pick (.t 71) (.k (.bool true)) (.t 77))]) (.cond (.t 78) (.seq (.reg [iv 0 (.mv (.k (.bool false)))]) (.ret)) (.skip))) (.seq (.draw [Dm 79 4,Dv 80 (.iadr none 2 (.t 79) (.k (.int .i64 1))) [79],Dv 81 (.fadr 1 (.t 80)) [80],Dr 82 (.ld 1 false (.t 81)) [81] 0 0,Dr 83 (.b2s (.t 82)) [82] 0 0,Dm 84 6,Dv 85 (.iadr none 2 (.t 84) (.k (.int .i64 1))) [84],Dv 86 (.fadr 1 (.t 85)) [85],Dr 87 (.ld 1 false (.t 86)) [86] 0 0,Dr 88 (.b2s (.t 87)) [87] 0 0,Dv 89 (.bin .neq (.t 83) (.t 88)) [83,88],Dm 0 89]) (.ret)))))))))
def ziN:AFn:=⟨90,zfJ,[.tmp 0],none⟩
def zb3:AC:=.seq (.reg [Bt 15 .lss 14 13]) (.seq (.cond (.t 15) (.skip) (.exit 0)) (.seq (.blk 1 (.seq (.reg [iv 16 (.iadr none 4 (.t 12) (.t 14)),ir 17 (.ld 4 true (.t 16)),ic 10 (.alloc [.int .i64 0,.int .i64 0,.int .i64 0,.nsl]),jc (.st 4 (.t 10) (.t 17))]) (.seq (.reg [Fa 18 3 10,Ld 19 18,iv 20 (.lenL (.t 19)),Mv 21 2,Bt 22 .gtr 20 21,Mv 23 22,Gv 24 (.fadr 2 (.t 10)) 23 false [],Gr 25 (.ld 1 false (.t 24)) 23 false [] 0 0,Gv 26 (.mv (.t 3)) 23 false [],Gv 27 (.bin .gtr (.t 25) (.t 26)) 23 false [],iv 28 (.pick (.t 23) (.k (.bool true)) (.t 27))]) (.cond (.t 28) (.seq (.reg [iv 8 (.mv (.k (.bool true)))]) (.ret)) (.skip))))) (.reg [Bi 29 .add 14 1,Mv 14 29])))
def zdl:AC:=.seq (.reg [iv 4 (.boxv (.t 0)),iv 8 (.mv (.k (.bool false)))]) (.seq (.seq (.reg [Fa 11 2 4,Ld 12 11,iv 13 (.lenL (.t 12)),iv 14 (.mv (.k (.int .i64 0)))]) (.blk 0 (.loop zb3))) (.seq (.reg [Fa 30 2 4,Ld 31 30,iv 32 (.lenL (.t 31)),Mv 33 1,Bt 34 .gtr 32 33,Mv 35 34,Gv 36 (.fadr 1 (.t 4)) 35 false [],Gr 37 (.ld 1 false (.t 36)) 35 false [] 0 0,Gv 38 (.lenL (.t 37)) 35 false [],Gv 39 (.bin .gtr (.t 38) (.k (.int .i64 1000))) 35 false [],iv 40 (.pick (.t 35) (.k (.bool true)) (.t 39)),Mv 8 40]) (.ret)))
def zkR:AFn:=⟨41,zdl,[.tmp 8],none⟩
def zgh:AC:=.seq (.reg [Bt 28 .lss 27 26]) (.seq (.cond (.t 28) (.skip) (.exit 0)) (.seq (.blk 1 (.seq (.reg [iv 29 (.iadr none 4 (.t 25) (.t 27)),ir 30 (.ld 4 true (.t 29)),ic 10 (.alloc [.int .i64 0,.int .i64 0,.int .i64 0,.nsl]),jc (.st 4 (.t 10) (.t 30))]) (.reg [Mv 31 8,ir 32 (.ld 4 true (.t 10)),Mv 33 5,ic 34 (.call zeV [.t 32,.t 33]),iv 35 (.slit 2 1 [.int .i64 0,.nsl] [(0,.t 34)]),ic 36 (.app 2 false (.t 31) (.t 35)),Mv 8 36]))) (.reg [Bi 37 .add 27 1,Mv 27 37])))
def zfK:AC:=.seq (.reg [iv 1 (.boxv (.t 0)),iv 2 (.mv (.k (.nsl))),iv 3 (.mv (.k (.int .i64 0))),iv 4 (.mv (.k (.int .i64 0)))]) (.seq (.reg [Fa 12 0 1,Ld 13 12,Fa 14 1 1,Ld 15 14,ic 16 (.call zdj [.t 13,.t 15]),Mv 11 16,Ex 17 11 0,Ex 18 11 1,Ex 19 11 2,Mv 5 17,Mv 6 18,Mv 7 19]) (.seq (.seq (.reg [Mv 20 7,Bi 21 .neq 20 0]) (.cond (.t 21) (.seq (.reg [Mv 22 6,Mv 23 7,iv 2 (.mv (.k (.nsl))),Mv 3 22,Mv 4 23]) (.ret)) (.skip))) (.seq (.reg [iv 8 (.mv (.k (.nsl)))]) (.seq (.seq (.reg [Fa 24 2 1,Ld 25 24,iv 26 (.lenL (.t 25)),iv 27 (.mv (.k (.int .i64 0)))]) (.blk 0 (.loop zgh))) (.seq (.reg [Mv 38 8,Mv 2 38,iv 3 (.mv (.k (.int .i64 (-1)))),iv 4 (.mv (.k (.int .i64 0)))]) (.ret))))))
def zpB:AFn:=⟨39,zfK,[.tmp 2,.tmp 3,.tmp 4],none⟩
def zeg:AC:=.seq (.reg [Bt 15 .lss 14 13]) (.seq (.cond (.t 15) (.skip) (.exit 0)) (.seq (.blk 1 (.seq (.reg [iv 16 (.iadr none 4 (.t 12) (.t 14)),ir 17 (.ld 4 true (.t 16)),ic 5 (.alloc [.int .i64 0,.int .i64 0,.int .i64 0,.nsl]),jc (.st 4 (.t 5) (.t 17))]) (.reg [Fa 18 2 3,Ld 19 18,Fa 20 0 5,Ld 21 20,Fa 22 1 5,Ld 23 22,Fa 24 2 5,Ld 25 24,Fa 26 3 5,Ld 27 26,iv 28 (.build [.int .i64 0,.int .i64 0,.int .i64 0,.nsl] [(0,1,.t 21),(1,1,.t 23),(2,1,.t 25),(3,1,.t 27)]),iv 29 (.slit 4 1 [.int .i64 0,.int .i64 0,.int .i64 0,.nsl] [(0,.t 28)]),ic 30 (.app 4 false (.t 19) (.t 29)),Fa 31 2 3,Sx 31 30]))) (.reg [Bi 32 .add 14 1,Mv 14 32])))
def zg8:AC:=.seq (.reg [iv 1 (.boxv (.t 0)),ic 2 (.alloc [.int .i64 0,.nsl,.nsl])]) (.seq (.reg [Fa 6 0 1,Ld 7 6,Fa 8 1 1,Ld 9 8,iv 10 (.build [.int .i64 0,.nsl,.nsl] [(0,1,.t 7),(1,1,.t 9)]),ic 3 (.alloc [.int .i64 0,.nsl,.nsl]),jc (.st 3 (.t 3) (.t 10))]) (.seq (.seq (.reg [Fa 11 2 1,Ld 12 11,iv 13 (.lenL (.t 12)),iv 14 (.mv (.k (.int .i64 0)))]) (.blk 0 (.loop zeg))) (.seq (.reg [ir 33 (.ld 3 true (.t 3)),jc (.st 3 (.t 2) (.t 33))]) (.ret))))
def zkS:AFn:=⟨34,zg8,[.cell 2 3 true],none⟩
def zm7:AC:=.seq (.reg [iv 0 (.mv (.k (.bool false)))]) (.seq (.reg [iv 1 (.build [.int .i64 0,.nsl] []),iv 2 (.build [.int .i64 0,.nsl] [(0,1,.k (.int .i64 10))]),iv 3 (.slit 2 2 [.int .i64 0,.nsl] [(0,.t 1),(1,.t 2)]),ic 4 (.call zed [.t 3]),iv 5 (.bin .eql (.t 4) (.k (.str ⟨#[48,10,49,48,10]⟩))),Mv 0 5]) (.ret))
def zhl:AFn:=⟨6,zm7,[.tmp 0],none⟩
def zoc:AC:=.seq (.reg [Bt 9 .lss 8 7]) (.seq (.cond (.t 9) (.skip) (.exit 0)) (.seq (.blk 1 (.seq (.reg [iv 10 (.iadr none 4 (.t 6) (.t 8)),ir 11 (.ld 4 true (.t 10)),ic 4 (.alloc [.int .i64 0,.int .i64 0,.int .i64 0,.nsl]),jc (.st 4 (.t 4) (.t 11))]) (.seq (.reg [Fa 12 3 4,Ld 13 12,iv 14 (.lenL (.t 13)),Bi 15 .gtr 14 300,Mv 16 15,Gv 17 (.fadr 2 (.t 4)) 16 false [],Gr 18 (.ld 1 false (.t 17)) 16 false [] 0 0,Gv 19 (.bin .gtr (.t 18) (.k (.int .i64 60))) 16 false [],Gv 20 (.mv (.t 19)) 16 false [],Gv 21 (.fadr 2 (.t 4)) 20 true [],Gr 22 (.ld 1 false (.t 21)) 20 true [] 0 0,Gv 23 (.bin .leq (.t 22) (.k (.int .i64 1048576))) 20 true [],Gv 24 (.pick (.t 20) (.t 23) (.k (.bool false))) 16 false [],iv 25 (.pick (.t 16) (.k (.bool true)) (.t 24))]) (.cond (.t 25) (.seq (.reg [iv 2 (.mv (.k (.bool true)))]) (.ret)) (.skip))))) (.reg [Bi 26 .add 8 1,Mv 8 26])))
def zpC:AC:=.seq (.reg [iv 1 (.boxv (.t 0)),iv 2 (.mv (.k (.bool false)))]) (.seq (.seq (.reg [Fa 5 2 1,Ld 6 5,iv 7 (.lenL (.t 6)),iv 8 (.mv (.k (.int .i64 0)))]) (.blk 0 (.loop zoc))) (.seq (.reg [Fa 27 1 1,Ld 28 27,iv 29 (.lenL (.t 28)),Bi 30 .gtr 29 1000,Mv 31 30,Gv 32 (.fadr 2 (.t 1)) 31 false [],Gr 33 (.ld 1 false (.t 32)) 31 false [] 0 0,Gv 34 (.lenL (.t 33)) 31 false [],Gv 35 (.bin .gtr (.t 34) (.k (.int .i64 12))) 31 false [],iv 36 (.pick (.t 31) (.k (.bool true)) (.t 35)),Mv 37 36,Gv 38 (.fadr 0 (.t 1)) 37 false [],Gr 39 (.ld 1 false (.t 38)) 37 false [] 0 0,Gv 40 (.bin .eql (.t 39) (.k (.int .i64 2))) 37 false [],iv 41 (.pick (.t 37) (.k (.bool true)) (.t 40)),Mv 2 41]) (.ret)))
def ziO:AFn:=⟨42,zpC,[.tmp 2],none⟩
def zdm:AC:=.seq (.reg [iv 4 (.mv (.k (.nilp))),iv 5 (.mv (.k (.int .i64 0))),iv 6 (.mv (.k (.int .i64 0)))]) (.seq (.seq (.reg [Mv 11 0,Bi 12 .neq 11 1,Mv 13 12,Gv 14 (.mv (.t 0)) 13 true [],Gv 15 (.bin .neq (.t 14) (.k (.int .i64 2))) 13 true [],iv 16 (.pick (.t 13) (.t 15) (.k (.bool false)))]) (.cond (.t 16) (.seq (.reg [iv 4 (.mv (.k (.nilp))),iv 5 (.mv (.k (.int .i64 (-1)))),iv 6 (.mv (.k (.int .i64 15)))]) (.ret)) (.skip))) (.seq (.reg [Mv 18 1,ic 19 (.call zkt [.t 18]),Mv 17 19,Ex 20 17 0,Ex 21 17 1,Ex 22 17 2,Mv 7 20,Mv 8 21,Mv 9 22]) (.seq (.seq (.reg [Mv 23 9,Bi 24 .neq 23 0]) (.cond (.t 24) (.seq (.reg [Mv 25 8,Mv 26 9,iv 4 (.mv (.k (.nilp))),Mv 5 25,Mv 6 26]) (.ret)) (.skip))) (.seq (.reg [Mv 27 7,iv 28 (.build [.nilp,.int .u8 0,.int .u8 0,.int .u8 0,.int .u8 0,.int .u8 0,.int .u8 0,.int .u8 0,.int .u8 0,.int .u8 0,.int .u8 0,.int .u8 0,.int .u8 0,.int .u8 0,.int .u8 0,.int .u8 0,.int .u8 0,.int .u8 0,.int .u8 0,.int .u8 0,.int .u8 0,.int .u8 0,.int .u8 0,.int .u8 0,.int .u8 0,.int .u8 0,.int .u8 0,.int .u8 0,.int .u8 0,.int .u8 0,.int .u8 0,.int .u8 0,.int .u8 0,.nif] [(0,1,.t 27)]),ic 29 (.box (.t 28)),Mv 10 29]) (.seq (.reg [Mv 31 10,Mv 32 0,Mv 33 7,ir 34 (.call zcf [.t 33]),ir 35 (.call zpq [.t 32,.t 34]),Mv 30 35,Ex 36 30 0,Ex 37 30 1,Ex 38 30 2,Nk 39 31,Fa 40 1 39,jc (.st 32 (.t 40) (.t 36))]) (.seq (.reg [Mv 41 10,Mv 42 10,Nk 43 42,Fa 44 1 43,ir 45 (.ld 32 true (.t 44)),ic 46 (.call zhx [.t 45]),iv 47 (.build [.nilp] [(0,1,.t 46)]),iv 48 (.mkif 109 (.t 47)),Nk 49 41,Fa 50 33 49,Sx 50 48]) (.seq (.seq (.reg [Mv 51 0,Bi 52 .eql 51 2]) (.cond (.t 52) (.reg [Mv 53 10,Mv 54 10,Nk 55 54,Fa 56 1 55,ir 57 (.ld 32 true (.t 56)),ic 58 (.call znk [.t 57]),iv 59 (.build [.nilp] [(0,1,.t 58)]),iv 60 (.mkif 113 (.t 59)),Nk 61 53,Fa 62 33 61,Sx 62 60]) (.skip))) (.seq (.reg [Mv 63 10,Mv 4 63,iv 5 (.mv (.k (.int .i64 (-1)))),iv 6 (.mv (.k (.int .i64 0)))]) (.ret)))))))))
def zkT:AFn:=⟨64,zdm,[.tmp 4,.tmp 5,.tmp 6],none⟩
def zc1:AC:=.seq (.reg [Bt 50 .lss 49 48]) (.seq (.cond (.t 50) (.skip) (.exit 1)) (.seq (.blk 2 (.seq (.reg [iv 51 (.iadr none 4 (.t 47) (.t 49)),ir 52 (.ld 4 true (.t 51)),ic 11 (.alloc (zaV (.int .u64 0) 4)),jc (.st 4 (.t 11) (.t 52))]) (.seq (.reg [ir 53 (.ld 4 true (.t 11)),ir 54 (.call zcE [.t 53]),ic 12 (.alloc (zaV (.int .u8 0) 32)),jc (.st 32 (.t 12) (.t 54))]) (.draw [Dv 55 (.fadr 1 (.t 9)) [9],Dr 56 (.ld 1 false (.t 55)) [55] 0 0,Dv 57 (.slice (.arr 32) 1 (.t 12) none none none) [12],Dc 58 (.app 1 false (.t 56) (.t 57)) [56,57],Dv 59 (.fadr 1 (.t 9)) [9],Dn (.st 1 (.t 59) (.t 58)) [59,58]])))) (.reg [Bi 60 .add 49 1,Mv 49 60])))
def zbJ:AC:=.seq (.reg [iv 2 (.boxv (.t 0)),ic 4 (.alloc [.int .i64 0,.nsl])]) (.seq (.seq (.reg [Fa 13 0 2,Ld 14 13]) (.blk 0 (.seq (.reg [Bi 16 .eql 14 0,Mv 15 16]) (.cond (.t 15) (.seq (.reg [Mv 17 1,Fa 18 1 2,Ld 19 18,Fa 20 3 2,Ld 21 20,ic 22 (.call za5 [.t 17,.t 19,.t 21]),iv 23 (.build [.int .i64 0,.nsl] [(0,1,.t 22)]),jc (.st 2 (.t 4) (.t 23))]) (.ret)) (.seq (.reg [Bi 25 .eql 14 1,Mv 24 25]) (.cond (.t 24) (.seq (.reg [Mv 27 1,Fa 28 2 2,Ld 29 28,ic 30 (.call za0 [.t 27,.t 29]),Mv 26 30,Ex 31 26 0,Ex 32 26 1,Mv 5 31,Mv 6 32]) (.seq (.reg [Mv 33 6,Mv 34 5,iv 35 (.build [.int .i64 0,.nsl] [(0,1,.t 33),(1,1,.t 34)]),jc (.st 2 (.t 4) (.t 35))]) (.ret))) (.seq (.reg [Bi 37 .eql 14 2,Mv 36 37]) (.cond (.t 36) (.seq (.reg [Mv 39 1,Fa 40 2 2,Ld 41 40,ic 42 (.call zaO [.t 39,.t 41]),Mv 38 42,Ex 43 38 0,Ex 44 38 1,Mv 7 43,Mv 8 44]) (.seq (.reg [Mv 45 8,iv 46 (.build [.int .i64 0,.nsl] [(0,1,.t 45)]),ic 9 (.alloc [.int .i64 0,.nsl]),jc (.st 2 (.t 9) (.t 46))]) (.seq (.seq (.reg [Mv 47 7,iv 48 (.lenL (.t 47)),iv 49 (.mv (.k (.int .i64 0)))]) (.blk 1 (.loop zc1))) (.seq (.reg [ir 61 (.ld 2 true (.t 9)),jc (.st 2 (.t 4) (.t 61))]) (.ret))))) (.seq (.reg [Bi 63 .eql 14 3,Mv 62 63]) (.cond (.t 62) (.seq (.reg [Mv 64 1,ic 65 (.call za1 [.t 64]),iv 66 (.build [.int .i64 0,.nsl] [(0,1,.t 65)]),jc (.st 2 (.t 4) (.t 66))]) (.ret)) (.skip))))))))))) (.seq (.reg [Mv 67 1,ic 68 (.call za6 [.t 67]),iv 69 (.build [.int .i64 0,.nsl] [(0,1,.t 68)]),jc (.st 2 (.t 4) (.t 69))]) (.ret)))
def zkU:AFn:=⟨70,zbJ,[.cell 4 2 true],none⟩
def zky:AC:=.seq (.reg [iv 2 (.mv (.k (.nilp))),iv 3 (.mv (.k (.int .i64 0))),iv 4 (.mv (.k (.int .i64 0)))]) (.seq (.reg [Mv 9 0,ir 10 (.call zfE [.t 9]),Mv 8 10,Ex 11 8 0,Ex 12 8 1,Ex 13 8 2,Mv 5 11,Mv 6 12,Mv 7 13]) (.seq (.seq (.reg [Mv 14 7,Bi 15 .neq 14 0]) (.cond (.t 15) (.seq (.reg [Mv 16 6,Mv 17 7,iv 2 (.mv (.k (.nilp))),Mv 3 16,Mv 4 17]) (.ret)) (.skip))) (.seq (.reg [Mv 18 5,iv 19 (.build [.nsl,.int .i64 0,.nilp] [(0,1,.t 18)]),ic 20 (.box (.t 19)),Mv 2 20,iv 3 (.mv (.k (.int .i64 (-1)))),iv 4 (.mv (.k (.int .i64 0)))]) (.ret))))
def ztq:AFn:=⟨21,zky,[.tmp 2,.tmp 3,.tmp 4],none⟩
def zhD:AC:=.seq (.reg [ic 4 (.alloc (zaV (.int .u8 0) 32)),iv 5 (.mv (.k (.int .i64 0))),iv 6 (.mv (.k (.int .i64 0)))]) (.seq (.seq (.reg [Mv 10 0,Bi 11 .neq 10 1,Mv 12 11,Gv 13 (.mv (.t 0)) 12 true [],Gv 14 (.bin .neq (.t 13) (.k (.int .i64 2))) 12 true [],iv 15 (.pick (.t 12) (.t 14) (.k (.bool false)))]) (.cond (.t 15) (.seq (.reg [iv 16 (.build (zaV (.int .u8 0) 32) []),jc (.st 32 (.t 4) (.t 16)),iv 5 (.mv (.k (.int .i64 (-1)))),iv 6 (.mv (.k (.int .i64 15)))]) (.ret)) (.skip))) (.seq (.reg [Mv 18 1,ir 19 (.call zdb [.t 18]),Mv 17 19,Ex 20 17 0,Ex 21 17 1,Ex 22 17 2,Mv 7 20,Mv 8 21,Mv 9 22]) (.seq (.seq (.reg [Mv 23 9,Bi 24 .neq 23 0]) (.cond (.t 24) (.seq (.reg [iv 25 (.build (zaV (.int .u8 0) 32) []),Mv 26 8,Mv 27 9,jc (.st 32 (.t 4) (.t 25)),Mv 5 26,Mv 6 27]) (.ret)) (.skip))) (.seq (.reg [ic 28 (.slit 1 19 [.int .u8 0] [(0,.k (.int .u8 97)),(1,.k (.int .u8 118)),(2,.k (.int .u8 111)),(3,.k (.int .u8 117)),(4,.k (.int .u8 99)),(5,.k (.int .u8 104)),(6,.k (.int .u8 47)),(7,.k (.int .u8 116)),(8,.k (.int .u8 114)),(9,.k (.int .u8 97)),(10,.k (.int .u8 110)),(11,.k (.int .u8 115)),(12,.k (.int .u8 99)),(13,.k (.int .u8 114)),(14,.k (.int .u8 105)),(15,.k (.int .u8 112)),(16,.k (.int .u8 116)),(17,.k (.int .u8 47)),(18,.k (.int .u8 49))]),ir 29 (.mark (.t 28)),Mv 30 0,iv 31 (.i2i .u8 (.t 30)),iv 32 (.slit 1 1 [.int .u8 0] [(0,.t 31)]),Mv 33 7,iv 34 (.slit 1 3 [.nsl] [(0,.t 29),(1,.t 32),(2,.t 33)]),ir 35 (.call zgN [.t 34]),jc (.st 32 (.t 4) (.t 35)),iv 5 (.mv (.k (.int .i64 (-1)))),iv 6 (.mv (.k (.int .i64 0)))]) (.ret)))))
def zwA:AFn:=⟨36,zhD,[.cell 4 32 true,.tmp 5,.tmp 6],none⟩
def zeW:AC:=.seq (.reg [iv 2 (.mv (.k (.nsl)))]) (.seq (.reg [Mv 3 0,Nk 4 3,Fa 5 0 4,Ld 6 5,ir 7 (.call zbq [.t 6]),Mv 2 7]) (.ret))
def zhE:AFn:=⟨8,zeW,[.tmp 2],none⟩
def zjQ:AC:=.seq (.reg [iv 1 (.boxv (.t 0)),iv 2 (.mv (.k (.nilp)))]) (.seq (.draw [ir 3 (.call zfG []),Dv 4 (.slice (.arr 32) 1 (.t 1) none none none) [1],Dc 5 (.call zfF [.t 3,.t 4]) [3,4],Dm 2 5]) (.ret))
def zog:AFn:=⟨6,zjQ,[.tmp 2],none⟩
def ztA:AC:=.seq (.reg [iv 1 (.boxv (.t 0)),iv 2 (.mv (.k (.nilp)))]) (.seq (.draw [ic 3 (.call zjG []),Dr 4 (.ld 32 true (.t 1)) [1] 0 1,Dr 5 (.call zps [.t 4]) [4] 1 1,Dv 6 (.slit 4 1 (zaV (.int .u64 0) 4) [(0,.t 5)]) [5],Dc 7 (.call zfh [.t 3,.t 6]) [3,6],Dm 2 7]) (.ret))
def zm9:AFn:=⟨8,ztA,[.tmp 2],none⟩
def zas:AC:=.seq (.reg [iv 6 (.mv (.k (.int .i64 0)))]) (.seq (.seq (.reg [Mv 13 0,ic 14 (.call zbr [.t 13]),Mv 7 14]) (.seq (.reg [Mv 15 7,Bi 16 .neq 15 0]) (.cond (.t 16) (.seq (.reg [Mv 17 7,Mv 6 17]) (.ret)) (.skip)))) (.seq (.reg [Mv 19 1,Mv 20 2,ir 21 (.call zdo [.t 19,.t 20]),Mv 18 21,Ex 22 18 0,Ex 23 18 1,Mv 8 22,Mv 9 23]) (.seq (.seq (.reg [Mv 24 9,Bi 25 .neq 24 0]) (.cond (.t 25) (.seq (.reg [Mv 26 0,Nk 27 26,Fa 28 0 27,Ld 29 28,Mv 30 9,ic 31 (.call za7 [.t 29,.t 30]),Mv 6 31]) (.ret)) (.skip))) (.seq (.reg [Mv 32 1,Mv 33 8,Mv 34 2,iv 35 (.build [.int .i64 0,.int .i64 0,.int .i64 0,.nsl] [(0,1,.k (.int .i64 1)),(1,1,.t 32),(2,1,.t 33),(3,1,.t 34)]),ic 10 (.alloc [.int .i64 0,.int .i64 0,.int .i64 0,.nsl]),jc (.st 4 (.t 10) (.t 35))]) (.seq (.seq (.reg [Mv 36 0,ir 37 (.ld 4 true (.t 10)),ic 38 (.call zav [.t 36,.t 37]),Mv 11 38]) (.seq (.reg [Mv 39 11,Bi 40 .neq 39 0]) (.cond (.t 40) (.seq (.reg [Mv 41 11,Mv 6 41]) (.ret)) (.skip)))) (.seq (.seq (.reg [Mv 42 1,Mv 43 2,ir 44 (.call zeJ [.t 42,.t 43]),Mv 12 44]) (.seq (.reg [Mv 45 12,Bi 46 .neq 45 0]) (.cond (.t 46) (.seq (.reg [Mv 47 0,Nk 48 47,Fa 49 0 48,Ld 50 49,Mv 51 12,ic 52 (.call za7 [.t 50,.t 51]),Mv 6 52]) (.ret)) (.skip)))) (.seq (.draw [Dm 53 0,Dv 54 (.nck (.t 53)) [53],Dv 55 (.fadr 33 (.t 54)) [54],Dr 56 (.ld 1 false (.t 55)) [55] 0 0,Dr 57 (.ld 4 true (.t 10)) [10] 0 0,Dc 58 (.inv (.t 56) "avouch/transcript.tell" [.t 57]) [56,57]]) (.seq (.reg [iv 6 (.mv (.k (.int .i64 0)))]) (.ret)))))))))
def zc4:AFn:=⟨59,zas,[.tmp 6],none⟩
def zaX:AC:=.seq (.reg [iv 4 (.mv (.k (.nsl))),iv 5 (.mv (.k (.int .i64 0)))]) (.seq (.reg [Mv 8 1,iv 9 (.build [.int .i64 0,.int .i64 0,.int .i64 0,.nsl] [(0,1,.k (.int .i64 2)),(1,1,.k (.int .i64 1)),(2,1,.t 8)]),ic 6 (.alloc [.int .i64 0,.int .i64 0,.int .i64 0,.nsl]),jc (.st 4 (.t 6) (.t 9))]) (.seq (.seq (.reg [Mv 10 0,ir 11 (.ld 4 true (.t 6)),ic 12 (.call zav [.t 10,.t 11]),Mv 7 12]) (.seq (.reg [Mv 13 7,Bi 14 .neq 13 0]) (.cond (.t 14) (.seq (.reg [Mv 15 7,iv 4 (.mv (.k (.nsl))),Mv 5 15]) (.ret)) (.skip)))) (.seq (.draw [Dm 16 0,Dv 17 (.nck (.t 16)) [16],Dv 18 (.fadr 33 (.t 17)) [17],Dr 19 (.ld 1 false (.t 18)) [18] 0 0,Dr 20 (.ld 4 true (.t 6)) [6] 0 0,Dc 21 (.inv (.t 19) "avouch/transcript.tell" [.t 20]) [19,20]]) (.seq (.reg [Mv 22 0,Nk 23 22,Fa 24 33 23,Ld 25 24,Mv 26 1,ic 27 (.inv (.t 25) "avouch/transcript.bytes" [.t 26]),Mv 4 27,iv 5 (.mv (.k (.int .i64 0)))]) (.ret)))))
def zcO:AFn:=⟨28,zaX,[.tmp 4,.tmp 5],none⟩
def zaB:AC:=.seq (.reg [iv 4 (.mv (.k (.nsl))),iv 5 (.mv (.k (.int .i64 0)))]) (.seq (.reg [Mv 10 1,iv 11 (.build [.int .i64 0,.int .i64 0,.int .i64 0,.nsl] [(0,1,.k (.int .i64 2)),(1,1,.k (.int .i64 3)),(2,1,.t 10)]),ic 6 (.alloc [.int .i64 0,.int .i64 0,.int .i64 0,.nsl]),jc (.st 4 (.t 6) (.t 11))]) (.seq (.seq (.reg [Mv 12 0,ir 13 (.ld 4 true (.t 6)),ic 14 (.call zav [.t 12,.t 13]),Mv 7 14]) (.seq (.reg [Mv 15 7,Bi 16 .neq 15 0]) (.cond (.t 16) (.seq (.reg [Mv 17 7,iv 4 (.mv (.k (.nsl))),Mv 5 17]) (.ret)) (.skip)))) (.seq (.draw [Dm 18 0,Dv 19 (.nck (.t 18)) [18],Dv 20 (.fadr 33 (.t 19)) [19],Dr 21 (.ld 1 false (.t 20)) [20] 0 0,Dr 22 (.ld 4 true (.t 6)) [6] 0 0,Dc 23 (.inv (.t 21) "avouch/transcript.tell" [.t 22]) [21,22]]) (.seq (.reg [Mv 25 0,Nk 26 25,Fa 27 33 26,Ld 28 27,Mv 29 1,ic 30 (.inv (.t 28) "avouch/transcript.fields" [.t 29]),Mv 24 30,Ex 31 24 0,Ex 32 24 1,Mv 8 31,Mv 9 32]) (.seq (.seq (.reg [Mv 33 9,Bi 34 .neq 33 0]) (.cond (.t 34) (.seq (.reg [Mv 35 0,Nk 36 35,Fa 37 0 36,Ld 38 37,Mv 39 9,ic 40 (.call za7 [.t 38,.t 39]),iv 4 (.mv (.k (.nsl))),Mv 5 40]) (.ret)) (.skip))) (.seq (.reg [Mv 41 8,Mv 4 41,iv 5 (.mv (.k (.int .i64 0)))]) (.ret)))))))
def zcs:AFn:=⟨42,zaB,[.tmp 4,.tmp 5],none⟩
def zdB:AC:=.seq (.reg [iv 1 (.boxv (.t 0)),ic 2 (.alloc (zaV (.int .u8 0) 32))]) (.seq (.reg [ir 4 (.ld 4 true (.t 1)),ir 5 (.call zcF [.t 4]),ic 3 (.alloc (zaV (.int .u64 0) 4)),jc (.st 4 (.t 3) (.t 5))]) (.seq (.reg [iv 6 (.slice (.arr 4) 1 (.t 3) none none none),ir 7 (.call zgO [.t 6]),iv 8 (.s2a 32 (.t 7)),ir 9 (.ld 32 true (.t 8)),jc (.st 32 (.t 2) (.t 9))]) (.ret)))
def zgj:AFn:=⟨10,zdB,[.cell 2 32 true],none⟩
def zaY:AC:=.seq (.reg [iv 2 (.mv (.k (.int .i64 0)))]) (.seq (.reg [iv 5 (.build [.int .i64 0,.int .i64 0,.int .i64 0,.nsl] [(0,1,.k (.int .i64 3)),(1,1,.k (.int .i64 0)),(2,1,.k (.int .i64 1))]),ic 3 (.alloc [.int .i64 0,.int .i64 0,.int .i64 0,.nsl]),jc (.st 4 (.t 3) (.t 5))]) (.seq (.reg [Mv 6 0,ir 7 (.ld 4 true (.t 3)),ic 8 (.call zav [.t 6,.t 7]),Mv 4 8]) (.seq (.seq (.reg [Mv 9 4,Bi 10 .eql 9 0]) (.cond (.t 10) (.seq (.draw [Dm 11 0,Dv 12 (.nck (.t 11)) [11],Dv 13 (.fadr 33 (.t 12)) [12],Dr 14 (.ld 1 false (.t 13)) [13] 0 0,Dr 15 (.ld 4 true (.t 3)) [3] 0 0,Dc 16 (.inv (.t 14) "avouch/transcript.tell" [.t 15]) [14,15]]) (.reg [Mv 17 0,Nk 18 17,Fa 19 33 18,Ld 20 19,ic 21 (.inv (.t 20) "Ratchet" [])])) (.skip))) (.seq (.reg [Mv 22 4,Mv 2 22]) (.ret)))))
def zcP:AFn:=⟨23,zaY,[.tmp 2],none⟩
def zbB:AC:=.seq (.reg [iv 2 (.mv (.k (.int .i64 0)))]) (.seq (.reg [Mv 3 0,Nk 4 3,Fa 5 0 4,Ld 6 5,ic 7 (.call zcJ [.t 6]),Mv 2 7]) (.ret))
def zc5:AFn:=⟨8,zbB,[.tmp 2],none⟩
def zco:AC:=.seq (.seq (.reg [Mv 10 0,iv 11 (.lenL (.t 10)),Bi 12 .gtr 11 0]) (.cond (.t 12) (.skip) (.exit 0))) (.seq (.blk 1 (.seq (.seq (.reg [Mv 15 6,Bi 16 .eql 15 1024]) (.cond (.t 16) (.seq (.reg [Mv 17 6,iv 2 (.mv (.k (.nsl))),Mv 3 17,iv 4 (.mv (.k (.int .i64 9)))]) (.ret)) (.skip))) (.seq (.reg [Mv 19 0,ir 20 (.call zhp [.t 19]),Mv 18 20,Ex 21 18 0,Ex 22 18 1,Ex 23 18 2,ic 7 (.alloc [.int .i64 0,.int .i64 0,.int .i64 0,.str ⟨#[]⟩]),jc (.st 4 (.t 7) (.t 21)),Mv 8 22,Mv 9 23]) (.seq (.seq (.reg [Mv 24 9,Bi 25 .neq 24 0]) (.cond (.t 25) (.seq (.reg [Mv 26 6,Mv 27 9,iv 2 (.mv (.k (.nsl))),Mv 3 26,Mv 4 27]) (.ret)) (.skip))) (.seq (.reg [Mv 28 5,ir 29 (.ld 4 true (.t 7)),iv 30 (.slit 4 1 [.int .i64 0,.int .i64 0,.int .i64 0,.str ⟨#[]⟩] [(0,.t 29)]),ic 31 (.app 4 false (.t 28) (.t 30)),Mv 5 31]) (.reg [Mv 32 8,Mv 0 32])))))) (.reg [Mv 13 6,Bi 14 .add 13 1,Mv 6 14]))
def zhK:AC:=.seq (.reg [iv 2 (.mv (.k (.nsl))),iv 3 (.mv (.k (.int .i64 0))),iv 4 (.mv (.k (.int .i64 0)))]) (.seq (.reg [iv 5 (.mv (.k (.nsl)))]) (.seq (.seq (.reg [iv 6 (.mv (.k (.int .i64 0)))]) (.blk 0 (.loop zco))) (.seq (.reg [Mv 33 5,Mv 2 33,iv 3 (.mv (.k (.int .i64 (-1)))),iv 4 (.mv (.k (.int .i64 0)))]) (.ret))))
def zlo:AFn:=⟨34,zhK,[.tmp 2,.tmp 3,.tmp 4],none⟩
def zbu:AC:=.seq (.reg [Bt 13 .lss 12 11]) (.seq (.cond (.t 13) (.skip) (.exit 0)) (.seq (.blk 1 (.seq (.reg [Mv 14 12,iv 15 (.iadr none 4 (.t 10) (.t 12)),ir 16 (.ld 4 true (.t 15)),ic 7 (.alloc [.int .i64 0,.int .i64 0,.int .i64 0,.str ⟨#[]⟩]),Mv 6 14,jc (.st 4 (.t 7) (.t 16))]) (.seq (.seq (.reg [Mv 17 6,Bi 18 .eql 17 1024]) (.cond (.t 18) (.seq (.reg [Mv 19 6,iv 2 (.mv (.k (.nsl))),Mv 3 19,iv 4 (.mv (.k (.int .i64 9)))]) (.ret)) (.skip))) (.seq (.reg [ir 21 (.ld 4 true (.t 7)),ir 22 (.call zhq [.t 21]),Mv 20 22,Ex 23 20 0,Ex 24 20 1,Mv 8 23,Mv 9 24]) (.seq (.seq (.reg [Mv 25 9,Bi 26 .neq 25 0]) (.cond (.t 26) (.seq (.reg [Mv 27 6,Mv 28 9,iv 2 (.mv (.k (.nsl))),Mv 3 27,Mv 4 28]) (.ret)) (.skip))) (.reg [Mv 29 5,Mv 30 8,ic 31 (.app 1 false (.t 29) (.t 30)),Mv 5 31])))))) (.reg [Bi 32 .add 12 1,Mv 12 32])))
def zeZ:AC:=.seq (.reg [iv 2 (.mv (.k (.nsl))),iv 3 (.mv (.k (.int .i64 0))),iv 4 (.mv (.k (.int .i64 0)))]) (.seq (.reg [iv 5 (.mv (.k (.nsl)))]) (.seq (.seq (.reg [Mv 10 0,iv 11 (.lenL (.t 10)),iv 12 (.mv (.k (.int .i64 0)))]) (.blk 0 (.loop zbu))) (.seq (.reg [Mv 33 5,Mv 2 33,iv 3 (.mv (.k (.int .i64 (-1)))),iv 4 (.mv (.k (.int .i64 0)))]) (.ret))))
def zhL:AFn:=⟨34,zeZ,[.tmp 2,.tmp 3,.tmp 4],none⟩
def zdX:AC:=.seq (.reg [Bt 9 .lss 8 7]) (.seq (.cond (.t 9) (.skip) (.exit 0)) (.seq (.blk 1 (.seq (.reg [Ia 10 6 8,Ld 11 10,Mv 5 11]) (.reg [Mv 12 5,ic 13 (.call zc7 [.t 3,.t 12])]))) (.reg [Bi 14 .add 8 1,Mv 8 14])))
def zlq:AC:=.seq (.reg [ic 2 (.alloc (zaV (.int .u8 0) 32))]) (.seq (.reg [ic 3 (.alloc [.int .u64 0,.int .u64 0,.int .u64 0,.int .u64 0,.int .u64 0,.int .u64 0,.int .u64 0,.int .u64 0,.int .u64 0,.int .u64 0,.int .u64 0,.int .u64 0,.int .u64 0,.int .u64 0,.int .u64 0,.int .u64 0,.int .u64 0,.int .u64 0,.int .u64 0,.int .u64 0,.int .u64 0,.int .u64 0,.int .u64 0,.int .u64 0,.int .u64 0,.int .i64 0])]) (.seq (.seq (.reg [Mv 6 0,iv 7 (.lenL (.t 6)),iv 8 (.mv (.k (.int .i64 0)))]) (.blk 0 (.loop zdX))) (.seq (.reg [ir 15 (.call zcR [.t 3]),jc (.st 32 (.t 2) (.t 15))]) (.ret))))
def zqz:AFn:=⟨16,zlq,[.cell 2 32 true],none⟩
def zfn:AC:=.seq (.reg [iv 5 (.slit 4 0 [.int .i64 0,.int .i64 0,.int .i64 0,.str ⟨#[]⟩] []),Mv 6 0,ic 7 (.app 4 false (.t 5) (.t 6)),Mv 2 7]) (.ret)
def zct:AFn:=⟨8,zfn,[.tmp 2],some (.reg [iv 2 (.mv (.k (.nsl)))],3,4,.cond (.t 4)
  (.seq (.reg [iv 2 (.mv (.k (.nsl)))])
  (.ret))
  (.skip))⟩
def zhP:AC:=.seq (.reg [iv 4 (.mv (.k (.nilp)))]) (.seq (.reg [Mv 8 0,Mv 9 1,ic 10 (.call zeL [.t 8,.t 9]),Mv 7 10,Ex 11 7 0,Ex 12 7 1,Mv 5 11,Mv 6 12]) (.seq (.reg [Mv 13 5,Mv 4 13]) (.ret)))
def zlt:AFn:=⟨14,zhP,[.tmp 4],none⟩
def zhQ:AC:=.seq (.reg [iv 0 (.mv (.k (.nif)))]) (.seq (.reg [iv 1 (.build [] []),iv 2 (.mkif 230 (.t 1)),Mv 0 2]) (.ret))
def zlw:AFn:=⟨3,zhQ,[.tmp 0],none⟩
def zjc:AC:=.seq (.reg [iv 4 (.mv (.k (.nilp)))]) (.seq (.reg [Mv 8 0,Mv 9 1,ic 10 (.call zeA [.t 8,.t 9]),Mv 7 10,Ex 11 7 0,Ex 12 7 1,Mv 5 11,Mv 6 12]) (.seq (.reg [Mv 13 5,Mv 4 13]) (.ret)))
def ze7:AFn:=⟨14,zjc,[.tmp 4],none⟩
def zpJ:AC:=.seq (.reg [iv 0 (.mv (.k (.nif)))]) (.seq (.reg [ic 1 (.call zna []),iv 2 (.build [.nilp] [(0,1,.t 1)]),iv 3 (.mkif 236 (.t 2)),Mv 0 3]) (.ret))
def zjd:AFn:=⟨4,zpJ,[.tmp 0],none⟩
def zu8:AC:=.seq (.reg [ic 1 (.box (.t 0)),ic 2 (.alloc (zaV (.int .u64 0) 4))]) (.seq (.reg [iv 3 (.slice (.arr 32) 1 (.t 1) none none none),ir 4 (.call zkC [.t 3]),jc (.st 4 (.t 2) (.t 4))]) (.ret))
def zop:AFn:=⟨5,zu8,[.cell 2 4 true],none⟩
def zb6:AC:=.seq (.reg [iv 2 (.mv (.k (.int .i64 0)))]) (.seq (.reg [Mv 3 0,Nk 4 3,Fa 5 0 4,Ld 6 5,ic 7 (.call za7 [.t 6,.k (.int .i64 0)]),Mv 2 7]) (.ret))
def zdE:AFn:=⟨8,zb6,[.tmp 2],none⟩
def zcG:AC:=.seq (.reg [iv 4 (.mv (.k (.int .i64 0))),iv 5 (.mv (.k (.int .i64 0)))]) (.seq (.reg [Mv 7 0,ir 8 (.call zhr [.t 7]),Mv 6 8]) (.seq (.blk 0 (.seq (.reg [Mv 10 6,Bi 11 .eql 10 0,Mv 9 11]) (.cond (.t 9) (.seq (.reg [iv 4 (.mv (.k (.int .i64 0))),iv 5 (.mv (.k (.int .i64 6)))]) (.ret)) (.seq (.reg [Mv 13 1,iv 14 (.lenL (.t 13)),Mv 15 6,Bt 16 .rem 14 15,Bi 17 .neq 16 0,Mv 12 17]) (.cond (.t 12) (.seq (.reg [iv 4 (.mv (.k (.int .i64 0))),iv 5 (.mv (.k (.int .i64 3)))]) (.ret)) (.seq (.reg [Mv 19 1,iv 20 (.lenL (.t 19)),Bi 21 .eql 20 0,Mv 22 21,Gv 23 (.mv (.t 1)) 22 false [],Gv 24 (.lenL (.t 23)) 22 false [],Gv 25 (.mv (.t 6)) 22 false [],Gv 26 (.bin .quo (.t 24) (.t 25)) 22 false [],Gv 27 (.bin .gtr (.t 26) (.k (.int .i64 1048576))) 22 false [],iv 28 (.pick (.t 22) (.k (.bool true)) (.t 27)),Mv 18 28]) (.cond (.t 18) (.seq (.reg [iv 4 (.mv (.k (.int .i64 0))),iv 5 (.mv (.k (.int .i64 7)))]) (.ret)) (.skip)))))))) (.seq (.reg [Mv 29 1,iv 30 (.lenL (.t 29)),Mv 31 6,Bt 32 .quo 30 31,Mv 4 32,iv 5 (.mv (.k (.int .i64 0)))]) (.ret))))
def znc:AFn:=⟨33,zcG,[.tmp 4,.tmp 5],none⟩
def zcu:AC:=.seq (.reg [iv 4 (.mv (.k (.int .i64 0)))]) (.seq (.seq (.reg [Mv 5 0,Nk 6 5,Fa 7 2 6,Ld 8 7,iv 9 (.eq .ptr false (.t 8) (.k (.nilp))),Mv 10 9,Gv 11 (.mv (.t 1)) 10 true [],Gv 12 (.bin .neq (.t 11) (.k (.int .i64 0))) 10 true [],iv 13 (.pick (.t 10) (.t 12) (.k (.bool false)))]) (.cond (.t 13) (.reg [Mv 14 0,Mv 15 1,iv 16 (.build [.int .i64 0] [(0,1,.t 15)]),iv 17 (.boxv (.t 16)),Nk 18 14,Fa 19 2 18,Sx 19 17]) (.skip))) (.seq (.seq (.reg [Mv 20 0,Nk 21 20,Fa 22 2 21,Ld 23 22,iv 24 (.eq .ptr false (.t 23) (.k (.nilp)))]) (.cond (.t 24) (.seq (.reg [iv 4 (.mv (.k (.int .i64 0)))]) (.ret)) (.skip))) (.seq (.reg [Mv 25 0,Nk 26 25,Fa 27 2 26,Ld 28 27,Nk 29 28,Fa 30 0 29,Ld 31 30,Mv 4 31]) (.ret))))
def ziy:AFn:=⟨32,zcu,[.tmp 4],none⟩
def zbS:AC:=.seq (.reg [iv 3 (.boxv (.t 1)),iv 4 (.mv (.k (.int .i64 0)))]) (.seq (.draw [Dm 5 0,Dv 6 (.nck (.t 5)) [5],Dv 7 (.fadr 0 (.t 6)) [6],Dr 8 (.ld 1 false (.t 7)) [7] 0 0,Dv 9 (.fadr 0 (.t 3)) [3],Dr 10 (.ld 1 false (.t 9)) [9] 0 0,Dv 11 (.fadr 1 (.t 3)) [3],Dr 12 (.ld 1 false (.t 11)) [11] 0 0,Dv 13 (.fadr 2 (.t 3)) [3],Dr 14 (.ld 1 false (.t 13)) [13] 0 0,Dc 15 (.call zdt [.t 8,.t 10,.t 12,.t 14]) [8,10,12,14],Dm 4 15]) (.ret))
def zdu:AFn:=⟨16,zbS,[.tmp 4],none⟩
def zcW:AC:=.seq (.seq (.reg [Fa 20 1 7,Ld 21 20,iv 22 (.eq .fn true (.t 21) (.k (.nfn))),Mv 23 22,Gv 24 (.mv (.t 8)) 23 true [],Gv 25 (.mv (.t 1)) 23 true [],Gv 26 (.lenL (.t 25)) 23 true [],Gv 27 (.bin .lss (.t 24) (.t 26)) 23 true [],iv 28 (.pick (.t 23) (.t 27) (.k (.bool false)))]) (.cond (.t 28) (.skip) (.exit 0))) (.seq (.blk 1 (.seq (.draw [Dv 33 (.fadr 1 (.t 7)) [7],Dr 34 (.ld 1 false (.t 33)) [33] 0 0,Dm 35 1,Dm 36 8,Dm 37 8,Dv 38 (.fadr 0 (.t 7)) [7],Dr 39 (.ld 1 false (.t 38)) [38] 0 0,Dv 40 (.bin .add (.t 37) (.t 39)) [37,39],Dv 41 (.slice .slc 1 (.t 35) (some (.t 36)) (some (.t 40)) none) [35,36,40],Dc 42 (.callv (.t 34) [.t 41]) [34,41],Dv 43 (.bin .neq (.t 42) (.k (.int .i64 0))) [42]]) (.cond (.t 43) (.seq (.reg [iv 4 (.mv (.k (.int .i64 4)))]) (.ret)) (.skip)))) (.reg [Mv 29 8,Fa 30 0 7,Ld 31 30,Bt 32 .add 29 31,Mv 8 32]))
def zeB:AC:=.seq (.reg [iv 4 (.mv (.k (.int .i64 0)))]) (.seq (.seq (.reg [Mv 10 0,Mv 11 1,ir 12 (.call zdo [.t 10,.t 11]),Mv 9 12,Ex 13 9 0,Ex 14 9 1,Mv 5 13,Mv 6 14]) (.seq (.reg [Mv 15 6,Bi 16 .neq 15 0]) (.cond (.t 16) (.seq (.reg [Mv 17 6,Mv 4 17]) (.ret)) (.skip)))) (.seq (.reg [Mv 18 0,ir 19 (.call zdD [.t 18]),ic 7 (.alloc [.int .i64 0,.nfn,.nsl]),jc (.st 3 (.t 7) (.t 19))]) (.seq (.seq (.reg [iv 8 (.mv (.k (.int .i64 0)))]) (.blk 0 (.loop zcW))) (.seq (.reg [iv 4 (.mv (.k (.int .i64 0)))]) (.ret)))))
def znd:AFn:=⟨44,zeB,[.tmp 4],none⟩
def zdF:AC:=.seq (.reg [iv 1 (.boxv (.t 0)),ic 2 (.alloc (zaV (.int .u64 0) 4))]) (.seq (.reg [Fa 3 0 1,ir 4 (.ld 4 true (.t 3)),iv 5 (.build (zaV (.int .u64 0) 4) [(0,1,.k (.int .u64 1))]),ir 6 (.call zcU [.t 4,.t 5]),jc (.st 4 (.t 2) (.t 6))]) (.ret))
def zgp:AFn:=⟨7,zdF,[.cell 2 4 true],none⟩
def zd0:AC:=.seq (.reg [Bi 13 .lss 12 8]) (.seq (.cond (.t 13) (.skip) (.exit 2)) (.seq (.blk 3 (.seq (.reg [Mv 14 3,Mv 15 5,iv 16 (.i2i .u8 (.t 15)),iv 17 (.slit 1 1 [.int .u8 0] [(0,.t 16)]),ic 18 (.app 1 false (.t 14) (.t 17)),Mv 3 18]) (.reg [Mv 19 5,iv 20 (.bin .shr (.t 19) (.k (.int .u64 8))),Mv 5 20]))) (.reg [Bi 21 .add 12 1,Mv 12 21])))
def zhs:AC:=.seq (.reg [Bt 9 .lss 8 7]) (.seq (.cond (.t 9) (.skip) (.exit 0)) (.seq (.blk 1 (.seq (.reg [Ia 10 6 8,Ld 11 10,Mv 5 11]) (.seq (.reg [iv 12 (.mv (.k (.int .i64 0)))]) (.blk 2 (.loop zd0))))) (.reg [Bi 22 .add 8 1,Mv 8 22])))
def zlC:AC:=.seq (.reg [iv 2 (.mv (.k (.nsl)))]) (.seq (.reg [iv 3 (.mv (.k (.nsl)))]) (.seq (.seq (.reg [Mv 6 0,iv 7 (.lenL (.t 6)),iv 8 (.mv (.k (.int .i64 0)))]) (.blk 0 (.loop zhs))) (.seq (.reg [Mv 23 3,Mv 2 23]) (.ret))))
def zqD:AFn:=⟨24,zlC,[.tmp 2],none⟩
def zcK:AC:=.seq (.reg [iv 2 (.mv (.k (.int .i64 0)))]) (.seq (.draw [Dm 3 0,Dm 4 0,Dv 5 (.nck (.t 4)) [4],Dv 6 (.fadr 1 (.t 5)) [5],Dr 7 (.ld 1 false (.t 6)) [6] 0 0,Dm 8 0,Dv 9 (.nck (.t 8)) [8],Dv 10 (.fadr 0 (.t 9)) [9],Dr 11 (.ld 1 false (.t 10)) [10] 0 0,Dv 12 (.lenL (.t 11)) [11],Dv 13 (.bin .eql (.t 7) (.t 12)) [7,12],Dc 14 (.call zbK [.t 3,.t 13,.k (.int .i64 12)]) [3,13],Dm 2 14]) (.ret))
def zhd:AFn:=⟨15,zcK,[.tmp 2],none⟩
def ziT:AC:=.seq (.seq (.reg [Mv 9 7,Mv 10 1,Bt 11 .lss 9 10]) (.cond (.t 11) (.skip) (.exit 0))) (.seq (.blk 1 (.seq (.seq (.reg [Fa 14 2 2,Ld 15 14,Bi 16 .eql 15 136]) (.cond (.t 16) (.seq (.reg [ir 17 (.ld 4 true (.t 2)),ir 18 (.call ze9 [.t 17]),jc (.st 4 (.t 2) (.t 18))]) (.seq (.reg [Fa 19 1 2,jc (.st 1 (.t 19) (.k (.int .i64 0)))]) (.reg [Fa 20 2 2,jc (.st 1 (.t 20) (.k (.int .i64 0)))]))) (.skip))) (.seq (.reg [Mv 21 6,Fa 22 0 2,Ld 23 22,Fa 24 2 2,Ld 25 24,Ia 26 23 25,Ld 27 26,iv 28 (.slit 1 1 [.int .u8 0] [(0,.t 27)]),ic 29 (.app 1 false (.t 21) (.t 28)),Mv 6 29]) (.reg [Fa 30 2 2,Ld 31 30,Bi 32 .add 31 1,Fa 33 2 2,Sx 33 32])))) (.reg [Mv 12 7,Bi 13 .add 12 1,Mv 7 13]))
def zji:AC:=.seq (.reg [ic 2 (.box (.t 0)),ic 4 (.alloc [.nsl,.int .i64 0,.int .i64 0,.int .i64 0]),iv 5 (.mv (.k (.nsl)))]) (.seq (.reg [iv 8 (.slit 1 0 [.int .u8 0] []),Mv 6 8]) (.seq (.seq (.reg [iv 7 (.mv (.k (.int .i64 0)))]) (.blk 0 (.loop ziT))) (.seq (.reg [ir 34 (.ld 4 true (.t 2)),Mv 35 6,jc (.st 4 (.t 4) (.t 34)),Mv 5 35]) (.ret))))
def ze8:AFn:=⟨36,zji,[.cell 4 4 true,.tmp 5],none⟩
def zfo:AC:=.seq (.reg [ic 2 (.alloc [.int .i64 0,.int .i64 0,.int .i64 0,.str ⟨#[]⟩]),iv 3 (.mv (.k (.nsl))),iv 4 (.mv (.k (.int .i64 0)))]) (.seq (.reg [Mv 9 0,iv 10 (.build [.nsl,.bool false] [(0,1,.t 9)]),ic 11 (.box (.t 10)),Mv 5 11]) (.seq (.reg [Mv 12 5,ic 13 (.call za4 [.t 12,.k (.int .i64 1)]),Mv 14 5,ic 15 (.call za4 [.t 14,.k (.int .i64 1)]),Mv 16 5,ic 17 (.call za4 [.t 16,.k (.int .i64 4)]),iv 18 (.build [.int .i64 0,.int .i64 0,.int .i64 0,.str ⟨#[]⟩] [(0,1,.t 13),(1,1,.t 15),(2,1,.t 17)]),ic 6 (.alloc [.int .i64 0,.int .i64 0,.int .i64 0,.str ⟨#[]⟩]),jc (.st 4 (.t 6) (.t 18))]) (.seq (.reg [Mv 19 5,ic 20 (.call za4 [.t 19,.k (.int .i64 2)]),Mv 7 20]) (.seq (.reg [Mv 21 5,Mv 22 7,ic 23 (.call zcv [.t 21,.t 22]),ir 24 (.b2s (.t 23)),Fa 25 3 6,Sx 25 24]) (.seq (.seq (.reg [Mv 26 5,Nk 27 26,Fa 28 1 27,Ld 29 28]) (.cond (.t 29) (.seq (.reg [iv 30 (.build [.int .i64 0,.int .i64 0,.int .i64 0,.str ⟨#[]⟩] []),jc (.st 4 (.t 2) (.t 30)),iv 3 (.mv (.k (.nsl))),iv 4 (.mv (.k (.int .i64 2)))]) (.ret)) (.skip))) (.seq (.seq (.reg [ir 31 (.ld 4 true (.t 6)),ir 32 (.call zdH [.t 31]),Mv 8 32]) (.seq (.reg [Mv 33 8,Bi 34 .neq 33 0]) (.cond (.t 34) (.seq (.reg [iv 35 (.build [.int .i64 0,.int .i64 0,.int .i64 0,.str ⟨#[]⟩] []),Mv 36 8,jc (.st 4 (.t 2) (.t 35)),iv 3 (.mv (.k (.nsl))),Mv 4 36]) (.ret)) (.skip)))) (.seq (.draw [Dr 37 (.ld 4 true (.t 6)) [6] 0 0,Dm 38 5,Dv 39 (.nck (.t 38)) [38],Dv 40 (.fadr 0 (.t 39)) [39],Dr 41 (.ld 1 false (.t 40)) [40] 0 0,Dr 42 (.call zbT [.t 41]) [41] 0 0,Dn (.st 4 (.t 2) (.t 37)) [2,37],Dm 3 42,iv 4 (.mv (.k (.int .i64 0)))]) (.ret))))))))
def zow:AFn:=⟨43,zfo,[.cell 2 4 true,.tmp 3,.tmp 4],none⟩
def zjX:AC:=.seq (.reg [iv 1 (.boxv (.t 0)),iv 2 (.mv (.k (.nsl))),iv 3 (.mv (.k (.int .i64 0)))]) (.seq (.seq (.reg [ir 6 (.ld 4 true (.t 1)),ir 7 (.call zdH [.t 6]),Mv 4 7]) (.seq (.reg [Mv 8 4,Bi 9 .neq 8 0]) (.cond (.t 9) (.seq (.reg [Mv 10 4,iv 2 (.mv (.k (.nsl))),Mv 3 10]) (.ret)) (.skip)))) (.seq (.reg [Fa 11 0 1,Ld 12 11,iv 13 (.i2i .u8 (.t 12)),Fa 14 1 1,Ld 15 14,iv 16 (.i2i .u8 (.t 15)),iv 17 (.slit 1 2 [.int .u8 0] [(0,.t 13),(1,.t 16)]),Fa 18 2 1,Ld 19 18,ic 20 (.call zcw [.t 17,.t 19,.k (.int .i64 4)]),Mv 5 20]) (.seq (.draw [Dm 21 5,Dv 22 (.fadr 3 (.t 1)) [1],Dr 23 (.ld 1 false (.t 22)) [22] 0 0,Dv 24 (.lenS (.t 23)) [23],Dc 25 (.call zcw [.t 21,.t 24,.k (.int .i64 2)]) [21,24],Dv 26 (.fadr 3 (.t 1)) [1],Dr 27 (.ld 1 false (.t 26)) [26] 0 1,Dc 28 (.app 1 false (.t 25) (.t 27)) [25,27],Dm 2 28,iv 3 (.mv (.k (.int .i64 0)))]) (.ret))))
def zoy:AFn:=⟨29,zjX,[.tmp 2,.tmp 3],none⟩
def zbL:AC:=.seq (.reg [Bt 9 .lss 8 7]) (.seq (.cond (.t 9) (.skip) (.exit 0)) (.seq (.blk 1 (.seq (.reg [Ia 10 6 8,Ld 11 10,Mv 5 11]) (.seq (.reg [Mv 12 0,Mv 13 0,Nk 14 13,Fa 15 25 14,Ld 16 15,Mv 17 5,ic 18 (.call zbd [.t 12,.t 16,.t 17])]) (.seq (.reg [Mv 19 0,Nk 20 19,Fa 21 25 20,Ld 22 21,Bi 23 .add 22 1,Nk 24 19,Fa 25 25 24,Sx 25 23]) (.seq (.reg [Mv 26 0,Nk 27 26,Fa 28 25 27,Ld 29 28,Bi 30 .eql 29 136]) (.cond (.t 30) (.reg [Mv 31 0,Mv 32 0,Mv 33 0,Nk 34 33,Fa 35 0 34,ir 36 (.ld 25 true (.t 35)),ir 37 (.call za8 [.t 36]),Nk 38 31,Fa 39 0 38,jc (.st 25 (.t 39) (.t 37)),Nk 40 32,Fa 41 25 40,jc (.st 1 (.t 41) (.k (.int .i64 0)))]) (.skip))))))) (.reg [Bi 42 .add 8 1,Mv 8 42])))
def ze1:AC:=.seq (.reg [Mv 6 1,iv 7 (.lenL (.t 6)),iv 8 (.mv (.k (.int .i64 0)))]) (.blk 0 (.loop zbL))
def zhV:AFn:=⟨43,ze1,[],none⟩
def zfY:AC:=.seq (.reg [ic 2 (.alloc (zaV (.int .u8 0) 32))]) (.seq (.reg [Mv 5 0,Nk 6 5,ir 7 (.ld 26 true (.t 6)),ic 3 (.alloc [.int .u64 0,.int .u64 0,.int .u64 0,.int .u64 0,.int .u64 0,.int .u64 0,.int .u64 0,.int .u64 0,.int .u64 0,.int .u64 0,.int .u64 0,.int .u64 0,.int .u64 0,.int .u64 0,.int .u64 0,.int .u64 0,.int .u64 0,.int .u64 0,.int .u64 0,.int .u64 0,.int .u64 0,.int .u64 0,.int .u64 0,.int .u64 0,.int .u64 0,.int .i64 0]),jc (.st 26 (.t 3) (.t 7))]) (.seq (.reg [Fa 8 25 3,Ld 9 8,ic 10 (.call zbd [.t 3,.t 9,.k (.int .u8 6)])]) (.seq (.reg [ic 11 (.call zbd [.t 3,.k (.int .i64 135),.k (.int .u8 128)])]) (.seq (.reg [Fa 12 0 3,ir 13 (.ld 25 true (.t 12)),ir 14 (.call za8 [.t 13]),ir 15 (.call zbM [.t 14]),ic 4 (.alloc (zaV (.int .u8 0) 200)),jc (.st 200 (.t 4) (.t 15))]) (.seq (.reg [iv 16 (.slice (.arr 200) 1 (.t 4) none (some (.k (.int .i64 32))) none),iv 17 (.s2a 32 (.t 16)),ir 18 (.ld 32 true (.t 17)),jc (.st 32 (.t 2) (.t 18))]) (.ret))))))
def zjl:AFn:=⟨19,zfY,[.cell 2 32 true],none⟩
def zgY:AC:=.seq (.reg [iv 4 (.mv (.k (.nilp))),iv 5 (.mv (.k (.int .i64 0)))]) (.seq (.seq (.reg [Mv 7 1,iv 8 (.lenL (.t 7)),Mv 9 0,ir 10 (.inv (.t 9) "Width" []),Mv 11 0,ir 12 (.inv (.t 11) "Rate" []),Bt 13 .sub 10 12,Bt 14 .gtr 8 13]) (.cond (.t 14) (.seq (.reg [iv 4 (.mv (.k (.nilp))),iv 5 (.mv (.k (.int .i64 1)))]) (.ret)) (.skip))) (.seq (.draw [Dm 15 0,Dm 16 0,Dr 17 (.inv (.t 16) "Width" []) [16] 0 0,Dc 18 (.mk 1 [.int .u8 0] (.t 17)) [17,17],Dm 19 0,Dr 20 (.inv (.t 19) "Rate" []) [19] 0 1,Dv 21 (.build [.nif,.nsl,.int .i64 0,.int .i64 0,.int .i64 0] [(0,1,.t 15),(1,1,.t 18),(3,1,.t 20)]) [15,18,20],Dc 22 (.box (.t 21)) [21],Dm 6 22]) (.seq (.draw [Dm 23 6,Dv 24 (.nck (.t 23)) [23],Dv 25 (.fadr 1 (.t 24)) [24],Dr 26 (.ld 1 false (.t 25)) [25] 0 0,Dm 27 0,Dr 28 (.inv (.t 27) "Rate" []) [27] 0 0,Dv 29 (.slice .slc 1 (.t 26) (some (.t 28)) none none) [26,28],Dm 30 1,Dc 31 (.copy 1 (.t 29) (.t 30)) [29,30]]) (.seq (.reg [Mv 32 6,Mv 4 32,iv 5 (.mv (.k (.int .i64 0)))]) (.ret)))))
def zkH:AFn:=⟨33,zgY,[.tmp 4,.tmp 5],none⟩
def ziU:AC:=.seq (.reg [iv 4 (.mv (.k (.nilp))),iv 5 (.mv (.k (.int .i64 0)))]) (.seq (.seq (.reg [Mv 7 1,iv 8 (.lenL (.t 7)),Mv 9 0,ir 10 (.inv (.t 9) "Width" []),Mv 11 0,ir 12 (.inv (.t 11) "Rate" []),Bt 13 .sub 10 12,Bt 14 .gtr 8 13]) (.cond (.t 14) (.seq (.reg [iv 4 (.mv (.k (.nilp))),iv 5 (.mv (.k (.int .i64 1)))]) (.ret)) (.skip))) (.seq (.draw [Dm 15 0,Dm 16 0,Dr 17 (.inv (.t 16) "Width" []) [16] 0 0,Dc 18 (.mk 4 (zaV (.int .u64 0) 4) (.t 17)) [17,17],Dm 19 0,Dr 20 (.inv (.t 19) "Rate" []) [19] 0 1,Dv 21 (.build [.nif,.nsl,.int .i64 0,.int .i64 0,.int .i64 0] [(0,1,.t 15),(1,1,.t 18),(3,1,.t 20)]) [15,18,20],Dc 22 (.box (.t 21)) [21],Dm 6 22]) (.seq (.draw [Dm 23 6,Dv 24 (.nck (.t 23)) [23],Dv 25 (.fadr 1 (.t 24)) [24],Dr 26 (.ld 1 false (.t 25)) [25] 0 0,Dm 27 0,Dr 28 (.inv (.t 27) "Rate" []) [27] 0 0,Dv 29 (.slice .slc 4 (.t 26) (some (.t 28)) none none) [26,28],Dm 30 1,Dc 31 (.copy 4 (.t 29) (.t 30)) [29,30]]) (.seq (.reg [Mv 32 6,Mv 4 32,iv 5 (.mv (.k (.int .i64 0)))]) (.ret)))))
def zeF:AFn:=⟨33,ziU,[.tmp 4,.tmp 5],none⟩
def ztO:AC:=.seq (.reg [iv 0 (.mv (.k (.nilp)))]) (.seq (.reg [iv 1 (.build [.int .u32 0,.int .i32 0,.int .u32 0,.int .u64 0,.int .u64 0,.int .u64 0,.int .u64 0,.int .u64 0,.int .u64 0,.int .u64 0,.int .u64 0,.int .u64 0,.int .u64 0,.int .u64 0,.int .u64 0,.int .u64 0,.int .u64 0,.int .u64 0,.int .u64 0,.int .u64 0,.int .u64 0,.int .u64 0,.int .u64 0,.int .u64 0,.int .u64 0,.int .u64 0,.int .u64 0,.int .u64 0,.int .u64 0,.int .u64 0,.int .u64 0,.int .u64 0,.int .u64 0,.int .u64 0,.int .u64 0,.int .u64 0,.int .u64 0,.int .u64 0,.int .u64 0,.int .u64 0,.int .u64 0,.int .u64 0,.int .u64 0,.int .u64 0,.int .u64 0,.int .u64 0,.int .u64 0,.int .u64 0,.int .u64 0,.int .u64 0,.int .u64 0,.int .u64 0,.int .u64 0,.int .u64 0,.int .u64 0,.int .u64 0,.int .u64 0,.int .u64 0,.int .u64 0,.int .u64 0,.int .u64 0,.int .u64 0,.int .u64 0,.int .u64 0,.int .u64 0,.int .u64 0,.int .u64 0,.int .u64 0,.int .u64 0,.int .u64 0,.int .u64 0,.int .u64 0,.int .u64 0,.int .u64 0,.int .u64 0,.int .u64 0,.int .u64 0,.int .u64 0,.int .u64 0,.int .u64 0,.int .u64 0,.int .u64 0,.int .u64 0,.int .u64 0,.int .u64 0,.int .u64 0,.int .u64 0,.int .u64 0,.int .u64 0,.int .u64 0,.int .u64 0,.int .u64 0,.int .u64 0,.int .u64 0,.int .u64 0,.int .u64 0,.int .u64 0,.int .u64 0,.int .u64 0,.int .u64 0,.int .u64 0,.int .u64 0,.int .u64 0,.int .u64 0,.int .u64 0,.int .u64 0,.int .u64 0,.int .u64 0,.int .u64 0,.int .u64 0,.int .u64 0,.int .u64 0,.int .u64 0,.int .u64 0,.int .u64 0,.int .u64 0,.int .u64 0,.int .u64 0,.int .u64 0,.int .u64 0,.int .u64 0,.int .u64 0,.int .u64 0,.int .u64 0,.int .u64 0,.int .u64 0,.int .u64 0,.int .u64 0,.int .u64 0,.int .u64 0,.int .u64 0,.int .u64 0,.int .u64 0,.int .u64 0,.int .u64 0,.int .u64 0,.int .u64 0,.int .u64 0,.int .u64 0,.int .u64 0,.int .u64 0,.int .u64 0,.int .u64 0,.int .u64 0,.int .u64 0,.int .u64 0,.int .u64 0,.int .u64 0,.int .u64 0,.int .u64 0,.int .u64 0,.int .u64 0,.int .u64 0,.int .u64 0,.int .u64 0,.int .u64 0,.int .u64 0,.int .u64 0,.int .u64 0,.int .u64 0,.int .u64 0,.int .u64 0,.int .u64 0,.int .u64 0,.int .u64 0,.int .u64 0,.int .u64 0,.int .u64 0,.int .u64 0,.int .u64 0,.int .u64 0,.int .u64 0,.int .u64 0,.int .u64 0,.int .u64 0,.int .u64 0,.int .u64 0,.int .u64 0,.int .u64 0,.int .u64 0,.int .u64 0,.int .u64 0,.int .u64 0,.int .u64 0,.int .u64 0,.int .u64 0,.int .u64 0,.int .u64 0,.int .u64 0,.int .u64 0,.int .u64 0,.int .u64 0,.int .u64 0,.int .u64 0,.int .u64 0,.int .u64 0,.int .u64 0,.int .u64 0,.int .u64 0,.int .u64 0,.int .u64 0,.int .u64 0,.int .u64 0,.int .u64 0,.int .u64 0,.int .u64 0,.int .u64 0,.int .u64 0,.int .u64 0,.int .u64 0,.int .u64 0,.int .u64 0,.int .u64 0,.int .u64 0,.int .u64 0,.int .u64 0,.int .u64 0,.int .u64 0,.int .u64 0,.int .u64 0,.int .u64 0,.int .u64 0,.int .u64 0,.int .u64 0,.int .u64 0,.int .u64 0,.int .u64 0,.int .u64 0,.int .u64 0,.int .u64 0,.int .u64 0,.int .u64 0,.int .u64 0,.int .u64 0,.int .u64 0,.int .u64 0,.int .u64 0,.int .u64 0,.int .u64 0,.int .u64 0,.int .u64 0,.int .u64 0,.int .u64 0,.int .u64 0,.int .u64 0,.int .u64 0,.int .u64 0,.int .u64 0,.int .u64 0,.int .u64 0,.int .u64 0,.int .u64 0,.int .u64 0,.int .u64 0,.int .u64 0,.int .u64 0,.int .u64 0,.int .u64 0,.int .u64 0,.int .u64 0,.int .u64 0,.int .u64 0,.int .u64 0,.int .u64 0,.int .u64 0,.int .u64 0,.int .u64 0,.int .u64 0,.int .u64 0,.int .u64 0,.int .u64 0,.int .u64 0,.int .u64 0,.int .u64 0,.int .u64 0,.int .u64 0,.int .u64 0,.int .u64 0,.int .u64 0,.int .u64 0,.int .u64 0,.int .u64 0,.int .u64 0,.int .u64 0,.int .u64 0,.int .u64 0,.int .u64 0,.int .u64 0,.int .u64 0,.int .u64 0,.int .u64 0,.int .u64 0,.int .u64 0,.int .u64 0,.int .u64 0,.int .u64 0,.int .u64 0,.int .u64 0,.int .u64 0,.int .u64 0,.int .u64 0,.int .u64 0,.int .u64 0,.int .u64 0,.int .u64 0,.int .u64 0,.int .u64 0,.int .u64 0,.int .u64 0,.int .u64 0,.int .u64 0,.int .u64 0,.int .u64 0,.int .u64 0,.int .u64 0,.int .u64 0,.int .u64 0,.int .u64 0,.int .u64 0,.int .u64 0,.int .u64 0,.int .u64 0,.int .u64 0,.int .u64 0,.int .u64 0,.int .u64 0,.int .u64 0,.int .u64 0,.int .u64 0,.int .u64 0,.int .u64 0,.int .u64 0,.int .u64 0,.int .u64 0,.int .u64 0,.int .u64 0,.int .u64 0,.int .u64 0,.int .u64 0,.int .u64 0,.int .u64 0,.int .u64 0,.int .u64 0,.int .u64 0,.int .u64 0,.int .u64 0,.int .u64 0,.int .u64 0,.int .u64 0,.int .u64 0,.int .u64 0,.int .u64 0,.int .u64 0,.int .u64 0,.int .u64 0,.int .u64 0,.int .u64 0,.int .u64 0,.int .u64 0,.int .u64 0,.int .u64 0,.int .u64 0,.int .u64 0,.int .u64 0,.int .u64 0,.int .u64 0,.int .u64 0,.int .u64 0,.int .u64 0,.int .u64 0,.int .u64 0,.int .u64 0,.int .u64 0,.int .u64 0,.int .u64 0,.int .u64 0,.int .u64 0,.int .u64 0,.int .u64 0,.int .u64 0,.int .u64 0,.int .u64 0,.int .u64 0,.int .u64 0,.int .u64 0,.int .u64 0,.int .u64 0,.int .u64 0,.int .u64 0,.int .u64 0,.int .u64 0,.int .u64 0,.int .u64 0,.int .u64 0,.int .u64 0,.int .u64 0,.int .u64 0,.int .u64 0,.int .u64 0,.int .u64 0,.int .u64 0,.int .u64 0,.int .u64 0,.int .u64 0,.int .u64 0,.int .u64 0,.int .u64 0,.int .u64 0,.int .u64 0,.int .u64 0,.int .u64 0,.int .u64 0,.int .u64 0,.int .u64 0,.int .u64 0,.int .u64 0,.int .u64 0,.int .u64 0,.int .u64 0,.int .u64 0,.int .u64 0,.int .u64 0,.int .u64 0,.int .u64 0,.int .u64 0,.int .u64 0,.int .u64 0,.int .u64 0,.int .u64 0,.int .u64 0,.int .u64 0,.int .u64 0,.int .u64 0,.int .u64 0,.int .u64 0,.int .u64 0,.int .u64 0,.int .u64 0,.int .u64 0,.int .u64 0,.int .u64 0,.int .u64 0,.int .u64 0,.int .u64 0,.int .u64 0,.int .u64 0,.int .u64 0,.int .u64 0,.int .u64 0,.int .u64 0,.int .u64 0,.int .u64 0,.int .u64 0,.int .u64 0,.int .u64 0,.int .u64 0,.int .u64 0,.int .u64 0,.int .u64 0,.int .u64 0,.int .u64 0,.int .u64 0,.int .u64 0,.int .u64 0,.int .u64 0,.int .u64 0,.int .u64 0,.int .u64 0,.int .u64 0,.int .u64 0,.int .u64 0,.int .u64 0,.int .u64 0,.int .u64 0,.int .u64 0,.int .u64 0,.int .u64 0,.int .u64 0,.int .u64 0,.int .u64 0,.int .u64 0,.int .u64 0,.int .u64 0,.int .u64 0,.int .u64 0,.int .u64 0,.int .u64 0,.int .u64 0,.int .u64 0,.int .u64 0,.int .u64 0,.int .u64 0,.int .u64 0,.int .u64 0,.int .u64 0,.int .u64 0,.int .u64 0,.int .u64 0,.int .u64 0,.int .u64 0,.int .u64 0,.int .u64 0,.int .u64 0,.int .u64 0,.int .u64 0,.int .u64 0,.int .u64 0,.int .u64 0,.int .u64 0,.int .u64 0,.int .u64 0,.int .u64 0,.int .u64 0,.int .u64 0,.int .u64 0,.int .u64 0,.int .u64 0,.int .u64 0,.int .u64 0,.int .u64 0,.int .u64 0,.int .u64 0,.int .u64 0,.int .u64 0,.int .u64 0,.int .u64 0,.int .u64 0,.int .u64 0,.int .u64 0,.int .u64 0,.int .u64 0,.int .u64 0,.int .u64 0,.int .u64 0,.int .u64 0,.int .u64 0,.int .u64 0,.int .u64 0,.int .u64 0,.int .u64 0,.int .u64 0,.int .u64 0,.int .u64 0,.int .u64 0,.int .u64 0,.int .u64 0,.int .u64 0,.int .u64 0,.int .u64 0,.int .u64 0,.int .u64 0,.int .u64 0,.int .u64 0,.int .u64 0,.int .u64 0,.int .u64 0,.int .u64 0,.int .u64 0,.int .u64 0,.int .u64 0,.int .u64 0,.int .u64 0,.int .u64 0,.int .u64 0,.int .u64 0,.int .u64 0,.int .u64 0,.int .u64 0,.int .u64 0,.int .u64 0,.int .u64 0,.int .u64 0,.int .u64 0,.int .u64 0,.int .u64 0,.int .u64 0,.int .u64 0,.int .u64 0,.int .u64 0,.int .u64 0,.int .u64 0,.int .u64 0,.int .u64 0,.int .u64 0,.int .u64 0,.int .u64 0,.int .u64 0,.int .u64 0,.int .u64 0,.int .u64 0,.int .u64 0,.int .u64 0,.int .u64 0,.int .u64 0,.int .u64 0,.int .u64 0,.int .u64 0,.int .u64 0,.int .u64 0,.int .u64 0,.int .u64 0,.int .u64 0,.int .u64 0,.int .u64 0,.int .u64 0,.int .u64 0,.int .u64 0,.int .u64 0,.int .u64 0,.int .u64 0,.int .u64 0,.int .u64 0,.int .u64 0,.int .u64 0,.int .u64 0,.int .u64 0,.int .u64 0,.int .u64 0,.int .u64 0,.int .u64 0,.int .u64 0,.int .u64 0,.int .u64 0,.int .u64 0,.int .u64 0,.int .u64 0,.int .u64 0,.int .u64 0,.int .u64 0,.int .u64 0,.int .u64 0,.int .u64 0,.int .u64 0,.int .u64 0,.int .u64 0,.int .u64 0,.int .u64 0,.int .u64 0,.int .u64 0,.int .u64 0,.int .u64 0,.int .u64 0,.int .u64 0,.int .u64 0,.int .u64 0,.int .u64 0,.int .u64 0,.int .u64 0,.int .u64 0,.int .u64 0,.int .u64 0,.int .u64 0,.int .u64 0,.int .u64 0,.int .u64 0,.int .u64 0,.int .u64 0,.int .u64 0,.int .u64 0,.int .u64 0,.int .u64 0,.int .u64 0,.int .u64 0,.int .u64 0,.int .u64 0,.int .u64 0,.int .u64 0,.int .u64 0,.int .u64 0,.int .u64 0,.int .u64 0,.int .u64 0,.int .u64 0,.int .u64 0,.int .u64 0,.int .u64 0,.int .u64 0,.int .u64 0,.int .u64 0,.int .u64 0,.int .u64 0,.int .u64 0,.int .u64 0,.int .u64 0,.int .u64 0,.int .u64 0,.int .u64 0,.int .u64 0,.int .u64 0,.int .u64 0,.int .u64 0,.int .u64 0,.int .u64 0,.int .u64 0,.int .u64 0,.int .u64 0,.int .u64 0,.int .u64 0,.int .u64 0,.int .u64 0,.int .u64 0,.int .u64 0,.int .u64 0,.int .u64 0,.int .u64 0,.int .u64 0,.int .u64 0,.int .u64 0,.int .u64 0,.int .u64 0,.int .u64 0,.int .u64 0,.int .u64 0,.int .u64 0,.int .u64 0,.int .u64 0,.int .u64 0,.int .u64 0,.int .u64 0,.int .u64 0,.int .u64 0,.int .u64 0,.int .u64 0,.int .u64 0,.int .u64 0,.int .u64 0,.int .u64 0,.int .u64 0,.int .u64 0,.int .u64 0,.int .u64 0,.int .u64 0,.int .u64 0,.int .u64 0,.int .u64 0,.int .u64 0,.int .u64 0,.int .u64 0,.int .u64 0,.int .u64 0,.int .u64 0,.int .u64 0,.int .u64 0,.int .u64 0,.int .u64 0,.int .u64 0,.int .u64 0,.int .u64 0,.int .u64 0,.int .u64 0,.int .u64 0,.int .u64 0,.int .u64 0,.int .u64 0,.int .u64 0,.int .u64 0,.int .u64 0,.int .u64 0,.int .u64 0,.int .u64 0,.int .u64 0,.int .u64 0,.int .u64 0,.int .u64 0,.int .u64 0,.int .u64 0,.int .u64 0,.int .u64 0,.int .u64 0,.int .u64 0,.int .u64 0,.int .u64 0,.int .u64 0,.int .u64 0,.int .u64 0,.int .u64 0,.int .u64 0,.int .u64 0,.int .u64 0,.int .u64 0,.int .u64 0,.int .u64 0,.int .u64 0,.int .u64 0,.int .u64 0,.int .u64 0,.int .u64 0,.int .u64 0,.int .u64 0,.int .u64 0,.int .u64 0,.int .u64 0,.int .u64 0,.int .u64 0,.int .u64 0,.int .u64 0,.int .u64 0,.int .u64 0,.int .u64 0,.int .u64 0,.int .u64 0,.int .u64 0,.int .u64 0,.int .u64 0,.int .u64 0,.int .u64 0,.int .u64 0,.int .u64 0,.int .u64 0,.int .u64 0,.int .u64 0,.int .u64 0,.int .u64 0,.int .u64 0,.int .u64 0,.int .u64 0,.int .u64 0,.int .u64 0,.int .u64 0] []),ic 2 (.box (.t 1)),Mv 0 2]) (.ret))
def znh:AFn:=⟨3,ztO,[.tmp 0],none⟩
def zq8:AC:=.seq (.reg [ic 2 (.alloc (zaV (.int .u64 0) 4))]) (.seq (.reg [ir 6 (.call zbU []),ic 3 (.alloc (zaV (.int .u64 0) 4)),jc (.st 4 (.t 3) (.t 6))]) (.seq (.reg [iv 8 (.slice (.arr 4) 1 (.t 3) none none none),ir 9 (.call zjm [.t 8]),Mv 7 9,Ex 10 7 0,Ex 11 7 1,Mv 4 10,Mv 5 11]) (.seq (.reg [Mv 12 4,Mv 13 0,ir 14 (.call zdJ [.t 13]),ir 15 (.call zbC [.t 12,.t 14]),iv 16 (.s2a 4 (.t 15)),ir 17 (.ld 4 true (.t 16)),ir 18 (.call zd2 [.t 17]),jc (.st 4 (.t 2) (.t 18))]) (.ret))))
def zkL:AFn:=⟨19,zq8,[.cell 2 4 true],none⟩
def zj9:AC:=.seq (.reg [iv 2 (.mv (.k (.int .i64 0)))]) (.seq (.reg [Mv 3 0,ir 4 (.call zdD [.t 3]),iv 5 (.fld 0 1 false (.t 4)),Mv 2 5]) (.ret))
def zo0:AFn:=⟨6,zj9,[.tmp 2],none⟩
def zcA:AC:=.seq (.reg [iv 8 (.mv (.k (.int .i64 0)))]) (.seq (.reg [Mv 11 1,Mv 12 2,Mv 13 3,iv 14 (.build [.int .i64 0,.int .i64 0,.int .i64 0,.str ⟨#[]⟩] [(0,1,.t 11),(1,1,.t 12),(2,1,.t 13)]),ic 9 (.alloc [.int .i64 0,.int .i64 0,.int .i64 0,.str ⟨#[]⟩]),jc (.st 4 (.t 9) (.t 14))]) (.seq (.draw [Dm 15 0,Dm 16 0,Dv 17 (.nck (.t 16)) [16],Dv 18 (.fadr 1 (.t 17)) [17],Dr 19 (.ld 1 false (.t 18)) [18] 0 0,Dm 20 0,Dv 21 (.nck (.t 20)) [20],Dv 22 (.fadr 0 (.t 21)) [21],Dr 23 (.ld 1 false (.t 22)) [22] 0 0,Dv 24 (.lenL (.t 23)) [23],Dv 25 (.bin .lss (.t 19) (.t 24)) [19,24],Dm 26 25,Gm 27 0 26 true,Gv 28 (.nck (.t 27)) 26 true [27,26],Gv 29 (.fadr 0 (.t 28)) 26 true [28,26],Gr 30 (.ld 1 false (.t 29)) 26 true [29,26] 0 0,Gm 31 0 26 true,Gv 32 (.nck (.t 31)) 26 true [31,26],Gv 33 (.fadr 1 (.t 32)) 26 true [32,26],Gr 34 (.ld 1 false (.t 33)) 26 true [33,26] 0 0,Gv 35 (.iadr none 4 (.t 30) (.t 34)) 26 true [30,34,26],Gr 36 (.ld 4 true (.t 35)) 26 true [35,26] 0 0,Gr 37 (.ld 4 true (.t 9)) 26 true [9,26] 0 0,Gr 38 (.call zj3 [.t 36,.t 37]) 26 true [36,37,26] 0 0,Dv 39 (.pick (.t 26) (.t 38) (.k (.bool false))) [26,38],Dc 40 (.call zbK [.t 15,.t 39,.k (.int .i64 10)]) [15,39],Dm 10 40]) (.seq (.seq (.reg [Mv 41 10,Bi 42 .eql 41 0]) (.cond (.t 42) (.reg [Mv 43 0,Nk 44 43,Fa 45 1 44,Ld 46 45,Bi 47 .add 46 1,Nk 48 43,Fa 49 1 48,Sx 49 47]) (.skip))) (.seq (.reg [Mv 50 10,Mv 8 50]) (.ret)))))
def ziG:AFn:=⟨51,zcA,[.tmp 8],none⟩
def zb7:AC:=.seq (.reg [ic 2 (.alloc [.int .i64 0,.nfn,.nsl])]) (.seq (.seq (.reg [Mv 3 0]) (.blk 0 (.seq (.reg [Bi 5 .eql 3 1,Mv 4 5]) (.cond (.t 4) (.seq (.reg [iv 6 (.build [.int .i64 0,.nfn,.nsl] [(0,1,.k (.int .i64 1))]),jc (.st 3 (.t 2) (.t 6))]) (.ret)) (.seq (.reg [Bi 8 .eql 3 2,Mv 7 8]) (.cond (.t 7) (.seq (.reg [iv 9 (.slit 1 1 [.int .i64 0] [(0,.k (.int .i64 8))]),iv 10 (.build [.int .i64 0,.nfn,.nsl] [(0,1,.k (.int .i64 8)),(2,1,.t 9)]),jc (.st 3 (.t 2) (.t 10))]) (.ret)) (.seq (.reg [Bi 12 .eql 3 3,Mv 11 12]) (.cond (.t 11) (.seq (.reg [iv 13 (.slit 1 1 [.int .i64 0] [(0,.k (.int .i64 32))]),iv 14 (.build [.int .i64 0,.nfn,.nsl] [(0,1,.k (.int .i64 32)),(1,1,.k (.fn (.func zbZ) [] [])),(2,1,.t 13)]),jc (.st 3 (.t 2) (.t 14))]) (.ret)) (.seq (.reg [Bi 16 .eql 3 4,Mv 15 16]) (.cond (.t 15) (.seq (.reg [iv 17 (.slit 1 4 [.int .i64 0] [(0,.k (.int .i64 31)),(1,.k (.int .i64 31)),(2,.k (.int .i64 31)),(3,.k (.int .i64 3))]),iv 18 (.build [.int .i64 0,.nfn,.nsl] [(0,1,.k (.int .i64 96)),(1,1,.k (.fn (.func zb1) [] [])),(2,1,.t 17)]),jc (.st 3 (.t 2) (.t 18))]) (.ret)) (.skip))))))))))) (.seq (.reg [iv 19 (.build [.int .i64 0,.nfn,.nsl] []),jc (.st 3 (.t 2) (.t 19))]) (.ret)))
def zlP:AFn:=⟨20,zb7,[.cell 2 3 true],none⟩
def zaW:AC:=.seq (.reg [Bi 23 .lss 22 4]) (.seq (.cond (.t 23) (.skip) (.exit 2)) (.seq (.blk 3 (.seq (.reg [Mv 24 22,iv 25 (.idxA 4 1 false (.t 21) (.t 22)),Mv 11 24,Mv 12 25]) (.reg [Mv 27 11,Mv 28 11,iv 29 (.iadr (some 5) 1 (.t 7) (.t 28)),Ld 30 29,Mv 31 9,Mv 32 12,Mv 33 10,ir 34 (.call zfa [.t 30,.t 31,.t 32,.t 33]),Mv 26 34,Ex 35 26 0,Ex 36 26 1,iv 37 (.iadr (some 5) 1 (.t 7) (.t 27)),Sx 37 35,Mv 10 36]))) (.reg [Bi 38 .add 22 1,Mv 22 38])))
def zbI:AC:=.seq (.seq (.reg [Mv 57 14,Bi 58 .lss 57 4]) (.cond (.t 58) (.skip) (.exit 4))) (.seq (.blk 5 (.draw [Dm 62 14,Dv 63 (.bin .sub (.t 62) (.k (.int .i64 1))) [62],Dm 64 14,Dv 65 (.iadr (some 5) 1 (.t 7) (.t 64)) [7,64],Dr 66 (.ld 1 false (.t 65)) [65] 0 0,Dm 67 13,Dm 68 14,Dv 69 (.iadr (some 4) 1 (.t 5) (.t 68)) [5,68],Dr 70 (.ld 1 false (.t 69)) [69] 0 0,Dm 71 10,Dr 72 (.call zfa [.t 66,.t 67,.t 70,.t 71]) [66,67,70,71] 0 0,Dm 61 72,Dv 73 (.ext (.t 61) 0) [61],Dv 74 (.ext (.t 61) 1) [61],Dv 75 (.iadr (some 5) 1 (.t 7) (.t 63)) [7,63],Dn (.st 1 (.t 75) (.t 73)) [75,73],Dm 10 74])) (.reg [Mv 59 14,Bi 60 .add 59 1,Mv 14 60]))
def zcp:AC:=.seq (.reg [Bi 19 .lss 18 4]) (.seq (.cond (.t 19) (.skip) (.exit 0)) (.seq (.blk 1 (.seq (.reg [iv 20 (.idxA 4 1 false (.t 17) (.t 18)),Mv 9 20]) (.seq (.reg [iv 10 (.mv (.k (.int .u64 0)))]) (.seq (.seq (.reg [ir 21 (.ld 4 true (.t 3)),iv 22 (.mv (.k (.int .i64 0)))]) (.blk 2 (.loop zaW))) (.seq (.reg [iv 39 (.iadr (some 5) 1 (.t 7) (.k (.int .i64 4))),Ld 40 39,Mv 41 10,Bt 42 .add 40 41,iv 43 (.iadr (some 5) 1 (.t 7) (.k (.int .i64 4))),Sx 43 42]) (.seq (.reg [iv 44 (.iadr (some 5) 1 (.t 7) (.k (.int .i64 0))),Ld 45 44,Mv 46 6,Bt 47 .mul 45 46,Mv 13 47]) (.seq (.reg [iv 49 (.iadr (some 5) 1 (.t 7) (.k (.int .i64 0))),Ld 50 49,Mv 51 13,iv 52 (.iadr (some 4) 1 (.t 5) (.k (.int .i64 0))),Ld 53 52,ir 54 (.call zfa [.t 50,.t 51,.t 53,.k (.int .u64 0)]),Mv 48 54,Ex 55 48 0,Ex 56 48 1,Mv 10 56]) (.seq (.seq (.reg [iv 14 (.mv (.k (.int .i64 1)))]) (.blk 4 (.loop zbI))) (.seq (.reg [iv 77 (.iadr (some 5) 1 (.t 7) (.k (.int .i64 4))),Ld 78 77,Mv 79 10,ic 80 (.call zaJ [.t 78,.t 79,.k (.int .u64 0)]),Mv 76 80,Ex 81 76 0,Ex 82 76 1,iv 83 (.iadr (some 5) 1 (.t 7) (.k (.int .i64 3))),Sx 83 81,Mv 10 82]) (.reg [Mv 84 10,iv 85 (.iadr (some 5) 1 (.t 7) (.k (.int .i64 4))),Sx 85 84])))))))))) (.reg [Bi 86 .add 18 1,Mv 18 86])))
def zh6:AC:=.seq (.reg [iv 2 (.boxv (.t 0)),iv 3 (.boxv (.t 1)),ic 4 (.alloc (zaV (.int .u64 0) 4))]) (.seq (.reg [ir 15 (.call zbU []),ir 16 (.call zfs []),ic 5 (.alloc (zaV (.int .u64 0) 4)),jc (.st 4 (.t 5) (.t 15)),Mv 6 16]) (.seq (.reg [ic 7 (.alloc (zaV (.int .u64 0) 5))]) (.seq (.seq (.reg [ir 17 (.ld 4 true (.t 2)),iv 18 (.mv (.k (.int .i64 0)))]) (.blk 0 (.loop zcp))) (.seq (.reg [iv 87 (.slice (.arr 5) 1 (.t 7) none (some (.k (.int .i64 4))) none),iv 88 (.s2a 4 (.t 87)),ir 89 (.ld 4 true (.t 88)),ir 90 (.call zd3 [.t 89]),jc (.st 4 (.t 4) (.t 90))]) (.ret)))))
def zlQ:AFn:=⟨91,zh6,[.cell 4 4 true],none⟩
def zes:AC:=.seq (.reg [iv 6 (.mv (.k (.int .i64 0)))]) (.seq (.seq (.reg [Mv 7 1]) (.cond (.t 7) (.reg [iv 2 (.mv (.k (.int .i64 0)))]) (.skip))) (.seq (.reg [Mv 8 0,Mv 9 2,ic 10 (.call za7 [.t 8,.t 9]),Mv 6 10]) (.ret)))
def zhg:AFn:=⟨11,zes,[.tmp 6],none⟩
def zmU:AC:=.seq (.seq (.reg [Mv 15 6,Bi 16 .lss 15 8]) (.cond (.t 16) (.skip) (.exit 2))) (.seq (.blk 3 (.seq (.reg [Mv 19 3,Mv 20 5,iv 21 (.bin .rem (.t 20) (.k (.int .u64 256))),iv 22 (.i2i .u8 (.t 21)),iv 23 (.slit 1 1 [.int .u8 0] [(0,.t 22)]),ic 24 (.app 1 true (.t 19) (.t 23)),Mv 3 24]) (.reg [Mv 25 5,iv 26 (.bin .quo (.t 25) (.k (.int .u64 256))),Mv 5 26]))) (.reg [Mv 17 6,Bi 18 .add 17 1,Mv 6 18]))
def zmV:AC:=.seq (.seq (.reg [Mv 8 4,Bi 9 .lss 8 25]) (.cond (.t 9) (.skip) (.exit 0))) (.seq (.blk 1 (.seq (.reg [Mv 12 4,iv 13 (.iadr (some 25) 1 (.t 1) (.t 12)),Ld 14 13,Mv 5 14]) (.seq (.reg [iv 6 (.mv (.k (.int .i64 0)))]) (.blk 2 (.loop zmU))))) (.reg [Mv 10 4,Bi 11 .add 10 1,Mv 4 11]))
def znM:AC:=.seq (.reg [iv 1 (.boxv (.t 0)),iv 2 (.mv (.k (.nsl)))]) (.seq (.reg [iv 7 (.slit 1 0 [.int .u8 0] []),Mv 3 7]) (.seq (.seq (.reg [iv 4 (.mv (.k (.int .i64 0)))]) (.blk 0 (.loop zmV))) (.seq (.reg [Mv 27 3,Mv 2 27]) (.ret))))
def zh8:AFn:=⟨28,znM,[.tmp 2],none⟩
def zk4:AC:=.seq (.seq (.reg [Mv 7 4,Bi 8 .lss 7 24]) (.cond (.t 8) (.skip) (.exit 0))) (.seq (.blk 1 (.reg [ir 11 (.ld 1600 true (.t 3)),Mv 12 4,ir 13 (.call zh0 [.t 11,.t 12]),jc (.st 1600 (.t 3) (.t 13))])) (.reg [Mv 9 4,Bi 10 .add 9 1,Mv 4 10]))
def zlT:AC:=.seq (.reg [iv 1 (.boxv (.t 0)),ic 2 (.alloc (zaV (.int .u64 0) 25))]) (.seq (.reg [ir 5 (.ld 25 true (.t 1)),ir 6 (.call zgw [.t 5]),ic 3 (.alloc (zaV (.bool false) 1600)),jc (.st 1600 (.t 3) (.t 6))]) (.seq (.seq (.reg [iv 4 (.mv (.k (.int .i64 0)))]) (.blk 0 (.loop zk4))) (.seq (.reg [ir 14 (.ld 1600 true (.t 3)),ir 15 (.call zh1 [.t 14]),jc (.st 25 (.t 2) (.t 15))]) (.ret))))
def zgC:AFn:=⟨16,zlT,[.cell 2 25 true],none⟩
def zk5:AC:=.seq (.seq (.reg [Mv 9 4,Bi 10 .geq 9 0]) (.cond (.t 10) (.skip) (.exit 0))) (.seq (.blk 1 (.draw [Dm 13 4,Dv 14 (.bin .quo (.t 13) (.k (.int .i64 8))) [13],Dm 15 4,Dv 16 (.bin .quo (.t 15) (.k (.int .i64 8))) [15],Dv 17 (.iadr (some 25) 1 (.t 3) (.t 16)) [3,16],Dr 18 (.ld 1 false (.t 17)) [17] 0 0,Dv 19 (.bin .mul (.t 18) (.k (.int .u64 256))) [18],Dm 20 0,Dm 21 4,Dv 22 (.iadr none 1 (.t 20) (.t 21)) [20,21],Dr 23 (.ld 1 false (.t 22)) [22] 0 0,Dv 24 (.i2i .u64 (.t 23)) [23],Dv 25 (.bin .add (.t 19) (.t 24)) [19,24],Dv 26 (.iadr (some 25) 1 (.t 3) (.t 14)) [3,14],Dn (.st 1 (.t 26) (.t 25)) [26,25]])) (.reg [Mv 11 4,Bi 12 .sub 11 1,Mv 4 12]))
def zlU:AC:=.seq (.reg [ic 2 (.alloc (zaV (.int .u64 0) 25))]) (.seq (.reg [iv 5 (.build (zaV (.int .u64 0) 25) []),ic 3 (.alloc (zaV (.int .u64 0) 25)),jc (.st 25 (.t 3) (.t 5))]) (.seq (.seq (.reg [Mv 6 0,iv 7 (.lenL (.t 6)),Bi 8 .sub 7 1,Mv 4 8]) (.blk 0 (.loop zk5))) (.seq (.reg [ir 27 (.ld 25 true (.t 3)),jc (.st 25 (.t 2) (.t 27))]) (.ret))))
def zgD:AFn:=⟨28,zlU,[.cell 2 25 true],none⟩
def zjx:AC:=.seq (.reg [ic 1 (.box (.t 0)),ic 2 (.alloc [.nsl,.int .i64 0,.int .i64 0,.int .i64 0])]) (.seq (.reg [Fa 3 0 1,Ld 4 3,ir 5 (.call zgn [.t 4]),ir 6 (.call zgm [.t 5]),ic 7 (.call zhT [.t 6]),Fa 8 0 1,Sx 8 7]) (.seq (.reg [Fa 9 3 1,Ld 10 9,Bi 11 .add 10 1,Fa 12 3 1,Sx 12 11]) (.seq (.reg [ir 13 (.ld 4 true (.t 1)),jc (.st 4 (.t 2) (.t 13))]) (.ret))))
def zfd:AFn:=⟨14,zjx,[.cell 2 4 true],none⟩
def zcB:AC:=.seq (.reg [Bt 13 .lss 12 11]) (.seq (.cond (.t 13) (.skip) (.exit 0)) (.seq (.blk 1 (.seq (.reg [Mv 14 12,Ia 15 10 12,Ld 16 15,Mv 6 14,Mv 7 16]) (.reg [Mv 17 5,Mv 18 7,iv 19 (.i2i .i64 (.t 18)),Mv 20 6,iv 21 (.bin .mul (.k (.int .i64 8)) (.t 20)),Bt 22 .shl 19 21,Bt 23 .or 17 22,Mv 5 23]))) (.reg [Bi 24 .add 12 1,Mv 12 24])))
def zeu:AC:=.seq (.reg [iv 4 (.mv (.k (.int .i64 0)))]) (.seq (.reg [iv 5 (.mv (.k (.int .i64 0)))]) (.seq (.seq (.reg [Mv 8 0,Mv 9 1,ic 10 (.call zcv [.t 8,.t 9]),iv 11 (.lenL (.t 10)),iv 12 (.mv (.k (.int .i64 0)))]) (.blk 0 (.loop zcB))) (.seq (.reg [Mv 25 5,Mv 4 25]) (.ret))))
def zhj:AFn:=⟨26,zeu,[.tmp 4],none⟩
def zdx:AC:=.seq (.reg [iv 4 (.mv (.k (.nsl)))]) (.seq (.seq (.reg [Mv 6 0,Nk 7 6,Fa 8 0 7,Ld 9 8,iv 10 (.lenL (.t 9)),Mv 11 1,Bt 12 .lss 10 11]) (.cond (.t 12) (.seq (.reg [Mv 13 0,Nk 14 13,Fa 15 1 14,jc (.st 1 (.t 15) (.k (.bool true)))]) (.reg [iv 1 (.mv (.k (.int .i64 0)))])) (.skip))) (.seq (.reg [Mv 16 0,Nk 17 16,Fa 18 0 17,Ld 19 18,Mv 20 1,Mv 21 1,iv 22 (.slice .slc 1 (.t 19) none (some (.t 20)) (some (.t 21))),Mv 5 22]) (.seq (.reg [Mv 23 0,Mv 24 0,Nk 25 24,Fa 26 0 25,Ld 27 26,Mv 28 1,iv 29 (.slice .slc 1 (.t 27) (some (.t 28)) none none),Nk 30 23,Fa 31 0 30,Sx 31 29]) (.seq (.reg [Mv 32 5,Mv 4 32]) (.ret)))))
def ziJ:AFn:=⟨33,zdx,[.tmp 4],none⟩
def zlW:AC:=.seq (.reg [iv 1 (.boxv (.t 0)),iv 2 (.mv (.k (.int .i64 0)))]) (.seq (.reg [Fa 6 0 1,Ld 7 6,ir 8 (.call ziC [.t 7]),Mv 5 8,Ex 9 5 0,Ex 10 5 1,Mv 3 9,Mv 4 10]) (.seq (.blk 0 (.seq (.reg [Mv 12 3,iv 13 (.lenL (.t 12)),Bi 14 .eql 13 0,Mv 11 14]) (.cond (.t 11) (.seq (.reg [iv 2 (.mv (.k (.int .i64 5)))]) (.ret)) (.seq (.reg [Mv 16 3,Fa 17 1 1,Ld 18 17,ir 19 (.call zbD [.t 16,.t 18]),iv 20 (.un .not (.t 19)),Mv 15 20]) (.cond (.t 15) (.seq (.reg [iv 2 (.mv (.k (.int .i64 6)))]) (.ret)) (.seq (.reg [Fa 22 2 1,Ld 23 22,Bi 24 .lss 23 1,Mv 25 24,Gv 26 (.fadr 2 (.t 1)) 25 false [],Gr 27 (.ld 1 false (.t 26)) 25 false [] 0 0,Gv 28 (.mv (.t 4)) 25 false [],Gv 29 (.bin .gtr (.t 27) (.t 28)) 25 false [],iv 30 (.pick (.t 25) (.k (.bool true)) (.t 29)),Mv 21 30]) (.cond (.t 21) (.seq (.reg [iv 2 (.mv (.k (.int .i64 7)))]) (.ret)) (.seq (.reg [Fa 32 3 1,Ld 33 32,iv 34 (.lenS (.t 33)),Bi 35 .gtr 34 255,Mv 31 35]) (.cond (.t 31) (.seq (.reg [iv 2 (.mv (.k (.int .i64 8)))]) (.ret)) (.skip)))))))))) (.seq (.reg [iv 2 (.mv (.k (.int .i64 0)))]) (.ret))))
def zqL:AFn:=⟨36,zlW,[.tmp 2],none⟩
def zkc:AC:=.seq (.reg [iv 5 (.slit 1 0 [.int .u8 0] []),Mv 6 0,ic 7 (.app 1 false (.t 5) (.t 6)),Mv 2 7]) (.ret)
def zfx:AFn:=⟨8,zkc,[.tmp 2],some (.reg [iv 2 (.mv (.k (.nsl)))],3,4,.cond (.t 4)
  (.seq (.reg [iv 2 (.mv (.k (.nsl)))])
  (.ret))
  (.skip))⟩
def zbX:AC:=.seq (.reg [Bt 10 .lss 9 8]) (.seq (.cond (.t 10) (.skip) (.exit 0)) (.seq (.blk 1 (.seq (.reg [Mv 11 9,Mv 7 11]) (.reg [Mv 12 0,Mv 13 1,Mv 14 7,iv 15 (.bin .mul (.k (.int .i64 8)) (.t 14)),Bt 16 .shr 13 15,iv 17 (.i2i .u8 (.t 16)),iv 18 (.slit 1 1 [.int .u8 0] [(0,.t 17)]),ic 19 (.app 1 false (.t 12) (.t 18)),Mv 0 19]))) (.reg [Bi 20 .add 9 1,Mv 9 20])))
def zhv:AC:=.seq (.reg [iv 6 (.mv (.k (.nsl)))]) (.seq (.seq (.reg [Mv 8 2,iv 9 (.mv (.k (.int .i64 0)))]) (.blk 0 (.loop zbX))) (.seq (.reg [Mv 21 0,Mv 6 21]) (.ret)))
def zo7:AFn:=⟨22,zhv,[.tmp 6],none⟩
def zf6:AC:=.draw [Dm 6 0,Dm 7 1,Dv 8 (.bin .quo (.t 7) (.k (.int .i64 8))) [7],Dv 9 (.nck (.t 6)) [6],Dv 10 (.fadr 0 (.t 9)) [9],Dv 11 (.iadr (some 25) 1 (.t 10) (.t 8)) [10,8],Dr 12 (.ld 1 false (.t 11)) [11] 0 0,Dm 13 2,Dv 14 (.i2i .u64 (.t 13)) [13],Dm 15 1,Dv 16 (.bin .rem (.t 15) (.k (.int .i64 8))) [15],Dv 17 (.bin .mul (.k (.int .i64 8)) (.t 16)) [16],Dv 18 (.bin .shl (.t 14) (.t 17)) [14,17],Dv 19 (.bin .xor (.t 12) (.t 18)) [12,18],Dv 20 (.nck (.t 6)) [6],Dv 21 (.fadr 0 (.t 20)) [20],Dv 22 (.iadr (some 25) 1 (.t 21) (.t 8)) [21,8],Dn (.st 1 (.t 22) (.t 19)) [22,19]]
def zjy:AFn:=⟨23,zf6,[],none⟩
def zaZ:AC:=.seq (.reg [Bi 5 .lss 4 24]) (.seq (.cond (.t 5) (.skip) (.exit 0)) (.seq (.blk 1 (.seq (.reg [Mv 6 4,Mv 3 6]) (.reg [ir 7 (.ld 25 true (.t 1)),Mv 8 3,ir 9 (.call zcL [.t 7,.t 8]),jc (.st 25 (.t 1) (.t 9))]))) (.reg [Bi 10 .add 4 1,Mv 4 10])))
def zds:AC:=.seq (.reg [ic 1 (.box (.t 0)),ic 2 (.alloc (zaV (.int .u64 0) 25))]) (.seq (.seq (.reg [iv 4 (.mv (.k (.int .i64 0)))]) (.blk 0 (.loop zaZ))) (.seq (.reg [ir 11 (.ld 25 true (.t 1)),jc (.st 25 (.t 2) (.t 11))]) (.ret)))
def zfU:AFn:=⟨12,zds,[.cell 2 25 true],none⟩
def zev:AC:=.seq (.reg [ic 1 (.box (.t 0)),ic 2 (.alloc (zaV (.int .u8 0) 200))]) (.seq (.reg [iv 3 (.slice (.arr 25) 1 (.t 1) none none none),ir 4 (.call zgO [.t 3]),iv 5 (.s2a 200 (.t 4)),ir 6 (.ld 200 true (.t 5)),jc (.st 200 (.t 2) (.t 6))]) (.ret))
def zhk:AFn:=⟨7,zev,[.cell 2 200 true],none⟩
def zkd:AC:=.seq (.reg [ic 0 (.alloc (zaV (.int .u64 0) 4))]) (.seq (.reg [iv 1 (.build (zaV (.int .u64 0) 4) [(0,1,.k (.int .u64 4891460686036598785)),(1,1,.k (.int .u64 2896914383306846353)),(2,1,.k (.int .u64 13281191951274694749)),(3,1,.k (.int .u64 3486998266802970665))]),jc (.st 4 (.t 0) (.t 1))]) (.ret))
def zpa:AFn:=⟨2,zkd,[.cell 0 4 true],none⟩
def zc9:AC:=.seq (.reg [Bi 46 .lss 45 6]) (.seq (.cond (.t 46) (.skip) (.exit 0)) (.seq (.blk 1 (.reg [Mv 47 5,Mv 48 0,iv 49 (.iadr none 1 (.t 48) (.k (.int .i64 0))),Ld 50 49,Mv 51 5,Bt 52 .mul 50 51,iv 53 (.bin .sub (.k (.int .u64 2)) (.t 52)),Bt 54 .mul 47 53,Mv 5 54])) (.reg [Bi 55 .add 45 1,Mv 45 55])))
def zf7:AC:=.seq (.reg [Bt 76 .lss 75 74]) (.seq (.cond (.t 76) (.skip) (.exit 2)) (.seq (.blk 3 (.reg [Mv 77 4,Mv 78 4,Mv 79 4,Nk 80 79,Fa 81 2 80,Ld 82 81,ir 83 (.call zbN [.t 78,.t 82,.k (.int .u64 0)]),Nk 84 77,Fa 85 2 84,Sx 85 83])) (.reg [Bi 86 .add 75 1,Mv 75 86])))
def zqe:AC:=.seq (.reg [iv 2 (.mv (.k (.nilp))),iv 3 (.mv (.k (.int .i64 0)))]) (.seq (.seq (.reg [Mv 6 0,iv 7 (.lenL (.t 6)),Bi 8 .lss 7 1,Mv 9 8,Gv 10 (.mv (.t 0)) 9 false [],Gv 11 (.lenL (.t 10)) 9 false [],Gv 12 (.bin .gtr (.t 11) (.k (.int .i64 16))) 9 false [],iv 13 (.pick (.t 9) (.k (.bool true)) (.t 12)),Mv 14 13,Gv 15 (.mv (.t 0)) 14 false [],Gv 16 (.iadr none 1 (.t 15) (.k (.int .i64 0))) 14 false [],Gr 17 (.ld 1 false (.t 16)) 14 false [] 0 0,Gv 18 (.bin .and (.t 17) (.k (.int .u64 1))) 14 false [],Gv 19 (.bin .eql (.t 18) (.k (.int .u64 0))) 14 false [],iv 20 (.pick (.t 14) (.k (.bool true)) (.t 19)),Mv 21 20,Gv 22 (.mv (.t 0)) 21 false [],Gv 23 (.mv (.t 0)) 21 false [],Gv 24 (.lenL (.t 23)) 21 false [],Gv 25 (.bin .sub (.t 24) (.k (.int .i64 1))) 21 false [],Gv 26 (.iadr none 1 (.t 22) (.t 25)) 21 false [],Gr 27 (.ld 1 false (.t 26)) 21 false [] 0 0,Gv 28 (.bin .eql (.t 27) (.k (.int .u64 0))) 21 false [],iv 29 (.pick (.t 21) (.k (.bool true)) (.t 28)),Mv 30 29,Gv 31 (.mv (.t 0)) 30 false [],Gv 32 (.lenL (.t 31)) 30 false [],Gv 33 (.bin .eql (.t 32) (.k (.int .i64 1))) 30 false [],Gv 34 (.mv (.t 33)) 30 false [],Gv 35 (.mv (.t 0)) 34 true [],Gv 36 (.iadr none 1 (.t 35) (.k (.int .i64 0))) 34 true [],Gr 37 (.ld 1 false (.t 36)) 34 true [] 0 0,Gv 38 (.bin .eql (.t 37) (.k (.int .u64 1))) 34 true [],Gv 39 (.pick (.t 34) (.t 38) (.k (.bool false))) 30 false [],iv 40 (.pick (.t 30) (.k (.bool true)) (.t 39))]) (.cond (.t 40) (.seq (.reg [iv 2 (.mv (.k (.nilp))),iv 3 (.mv (.k (.int .i64 1)))]) (.ret)) (.skip))) (.seq (.reg [Mv 41 0,ir 42 (.call zaQ [.t 41]),iv 43 (.build [.nsl,.int .u64 0,.nsl] [(0,1,.t 42)]),ic 44 (.box (.t 43)),Mv 4 44]) (.seq (.reg [iv 5 (.mv (.k (.int .u64 1)))]) (.seq (.seq (.reg [iv 45 (.mv (.k (.int .i64 0)))]) (.blk 0 (.loop zc9))) (.seq (.reg [Mv 56 4,Mv 57 5,iv 58 (.un .neg (.t 57)),Nk 59 56,Fa 60 1 59,Sx 60 58]) (.seq (.reg [Mv 61 4,Mv 62 0,iv 63 (.lenL (.t 62)),ic 64 (.mk 1 [.int .u64 0] (.t 63)),Nk 65 61,Fa 66 2 65,Sx 66 64]) (.seq (.reg [Mv 67 4,Nk 68 67,Fa 69 2 68,Ld 70 69,iv 71 (.iadr none 1 (.t 70) (.k (.int .i64 0))),jc (.st 1 (.t 71) (.k (.int .u64 1)))]) (.seq (.seq (.reg [Mv 72 0,iv 73 (.lenL (.t 72)),iv 74 (.bin .mul (.k (.int .i64 128)) (.t 73)),iv 75 (.mv (.k (.int .i64 0)))]) (.blk 2 (.loop zf7))) (.seq (.reg [Mv 87 4,Mv 2 87,iv 3 (.mv (.k (.int .i64 0)))]) (.ret))))))))))
def zuJ:AFn:=⟨88,zqe,[.tmp 2,.tmp 3],none⟩
def zdn:AC:=.seq (.reg [Bi 6 .lss 5 512]) (.seq (.cond (.t 6) (.skip) (.exit 0)) (.seq (.blk 1 (.reg [ir 7 (.ld 4 true (.t 3)),ir 8 (.ld 4 true (.t 3)),ir 9 (.call zgy [.t 7,.t 8]),ir 10 (.call zd3 [.t 9]),jc (.st 4 (.t 3) (.t 10))])) (.reg [Bi 11 .add 5 1,Mv 5 11])))
def zkg:AC:=.seq (.reg [iv 1 (.boxv (.t 0)),ic 2 (.alloc (zaV (.int .u64 0) 4))]) (.seq (.reg [iv 4 (.build (zaV (.int .u64 0) 4) [(0,1,.k (.int .u64 1))]),ic 3 (.alloc (zaV (.int .u64 0) 4)),jc (.st 4 (.t 3) (.t 4))]) (.seq (.seq (.reg [iv 5 (.mv (.k (.int .i64 0)))]) (.blk 0 (.loop zdn))) (.seq (.reg [ir 12 (.ld 4 true (.t 1)),ir 13 (.ld 4 true (.t 3)),ir 14 (.call zcU [.t 12,.t 13]),iv 15 (.build (zaV (.int .u64 0) 4) [(0,4,.t 14)]),jc (.st 4 (.t 2) (.t 15))]) (.ret))))
def zpd:AFn:=⟨16,zkg,[.cell 2 4 true],none⟩
def zch:AC:=.seq (.seq (.reg [Mv 16 6,Bi 17 .geq 16 0]) (.cond (.t 17) (.skip) (.exit 0))) (.seq (.blk 1 (.reg [Mv 20 0,Mv 21 5,Mv 22 1,Mv 23 6,Bi 24 .quo 23 64,Ia 25 22 24,Ld 26 25,Mv 27 6,Bi 28 .rem 27 64,Bt 29 .shr 26 28,iv 30 (.bin .and (.t 29) (.k (.int .u64 1))),ir 31 (.call zbN [.t 20,.t 21,.t 30]),Mv 5 31])) (.reg [Mv 18 6,Bi 19 .sub 18 1,Mv 6 19]))
def zdQ:AC:=.seq (.reg [iv 4 (.mv (.k (.nsl)))]) (.seq (.reg [Mv 7 0,Nk 8 7,Fa 9 0 8,Ld 10 9,iv 11 (.lenL (.t 10)),ic 12 (.mk 1 [.int .u64 0] (.t 11)),Mv 5 12]) (.seq (.seq (.reg [Mv 13 1,ir 14 (.call zf1 [.t 13]),Bi 15 .sub 14 1,Mv 6 15]) (.blk 0 (.loop zch))) (.seq (.reg [Mv 32 5,Mv 4 32]) (.ret))))
def zgG:AFn:=⟨33,zdQ,[.tmp 4],none⟩
def zd7:AC:=.seq (.reg [Bt 14 .lss 13 12]) (.seq (.cond (.t 14) (.skip) (.exit 0)) (.seq (.blk 1 (.seq (.reg [Mv 15 13,Ia 16 11 13,Ld 17 16,Mv 4 15,Mv 5 17]) (.draw [Dm 18 3,Dm 19 4,Dv 20 (.bin .quo (.t 19) (.k (.int .i64 8))) [19],Dv 21 (.iadr none 1 (.t 18) (.t 20)) [18,20],Dr 22 (.ld 1 false (.t 21)) [21] 0 0,Dm 23 5,Dv 24 (.i2i .u64 (.t 23)) [23],Dm 25 4,Dv 26 (.bin .rem (.t 25) (.k (.int .i64 8))) [25],Dv 27 (.bin .mul (.k (.int .i64 8)) (.t 26)) [26],Dv 28 (.bin .shl (.t 24) (.t 27)) [24,27],Dv 29 (.bin .or (.t 22) (.t 28)) [22,28],Dv 30 (.iadr none 1 (.t 18) (.t 20)) [18,20],Dn (.st 1 (.t 30) (.t 29)) [30,29]]))) (.reg [Bi 31 .add 13 1,Mv 13 31])))
def zl2:AC:=.seq (.reg [iv 2 (.mv (.k (.nsl)))]) (.seq (.reg [Mv 6 0,iv 7 (.lenL (.t 6)),Bi 8 .add 7 7,Bi 9 .quo 8 8,ic 10 (.mk 1 [.int .u64 0] (.t 9)),Mv 3 10]) (.seq (.seq (.reg [Mv 11 0,iv 12 (.lenL (.t 11)),iv 13 (.mv (.k (.int .i64 0)))]) (.blk 0 (.loop zd7))) (.seq (.reg [Mv 32 3,Mv 2 32]) (.ret))))
def zqN:AFn:=⟨33,zl2,[.tmp 2],none⟩
def znS:AC:=.seq (.reg [ic 2 (.box (.t 0)),ic 3 (.box (.t 1)),iv 4 (.mv (.k (.bool false)))]) (.seq (.reg [Fa 5 3 2,jc (.st 1 (.t 5) (.k (.str ⟨#[]⟩))),Fa 6 3 3,jc (.st 1 (.t 6) (.k (.str ⟨#[]⟩)))]) (.seq (.reg [ir 7 (.ld 4 true (.t 2)),ir 8 (.ld 4 true (.t 3)),iv 9 (.eq (.agg [.i,.i,.i,.s]) false (.t 7) (.t 8)),Mv 4 9]) (.ret)))
def zsM:AFn:=⟨10,znS,[.tmp 4],none⟩
def zd8:AC:=.seq (.reg [iv 2 (.mv (.k (.int .i64 0)))]) (.seq (.reg [Mv 6 0,ir 7 (.call zb0 [.t 6]),Mv 5 7,Ex 8 5 0,Ex 9 5 1,ic 3 (.alloc (zaV (.int .u64 0) 4)),jc (.st 4 (.t 3) (.t 8)),Mv 4 9]) (.seq (.reg [Mv 10 4,Mv 2 10]) (.ret)))
def zjB:AFn:=⟨11,zd8,[.tmp 2],none⟩
def zea:AC:=.seq (.reg [ic 2 (.alloc (zaV (.int .u64 0) 4)),iv 3 (.mv (.k (.int .i64 0)))]) (.seq (.seq (.reg [Mv 7 0,iv 8 (.lenL (.t 7)),Bi 9 .neq 8 32]) (.cond (.t 9) (.seq (.reg [iv 10 (.build (zaV (.int .u64 0) 4) []),jc (.st 4 (.t 2) (.t 10)),iv 3 (.mv (.k (.int .i64 1)))]) (.ret)) (.skip))) (.seq (.reg [Mv 11 0,ir 12 (.call zdJ [.t 11]),iv 13 (.s2a 4 (.t 12)),ir 14 (.ld 4 true (.t 13)),ic 4 (.alloc (zaV (.int .u64 0) 4)),jc (.st 4 (.t 4) (.t 14))]) (.seq (.seq (.draw [Dr 16 (.ld 4 true (.t 4)) [4] 0 1,Dr 17 (.call zbU []) [] 0 1,Dr 18 (.call zeE [.t 16,.t 17]) [16,17] 0 1,Dm 15 18,Dv 19 (.ext (.t 15) 0) [15],Dv 20 (.ext (.t 15) 1) [15],ic 5 (.alloc (zaV (.int .u64 0) 4)),Dn (.st 4 (.t 5) (.t 19)) [5,19],Dm 6 20]) (.seq (.reg [Mv 21 6,iv 22 (.bin .eql (.t 21) (.k (.int .u64 0)))]) (.cond (.t 22) (.seq (.reg [iv 23 (.build (zaV (.int .u64 0) 4) []),jc (.st 4 (.t 2) (.t 23)),iv 3 (.mv (.k (.int .i64 4)))]) (.ret)) (.skip)))) (.seq (.reg [ir 24 (.ld 4 true (.t 4)),ir 25 (.call zd2 [.t 24]),jc (.st 4 (.t 2) (.t 25)),iv 3 (.mv (.k (.int .i64 0)))]) (.ret)))))
def zjC:AFn:=⟨26,zea,[.cell 2 4 true,.tmp 3],none⟩
def zf9:AC:=.seq (.reg [iv 2 (.mv (.k (.int .i64 0)))]) (.seq (.reg [Mv 6 0,ir 7 (.call ziA [.t 6]),Mv 5 7,Ex 8 5 0,Ex 9 5 1,ic 3 (.alloc (zaV (.int .u64 0) 12)),jc (.st 12 (.t 3) (.t 8)),Mv 4 9]) (.seq (.reg [Mv 10 4,Mv 2 10]) (.ret)))
def zjD:AFn:=⟨11,zf9,[.tmp 2],none⟩
def zfg:AC:=.seq (.reg [ic 2 (.alloc (zaV (.int .u64 0) 12)),iv 3 (.mv (.k (.int .i64 0)))]) (.seq (.reg [ir 7 (.call ziD []),Mv 4 7]) (.seq (.reg [Mv 9 4,Mv 10 0,ir 11 (.call zeN [.t 9,.t 10]),Mv 8 11,Ex 12 8 0,Ex 13 8 1,ic 5 (.alloc (zaV (.int .u64 0) 12)),jc (.st 12 (.t 5) (.t 12)),Mv 6 13]) (.seq (.blk 0 (.seq (.reg [Mv 15 6,Bi 16 .neq 15 0,Mv 14 16]) (.cond (.t 14) (.seq (.reg [iv 17 (.build (zaV (.int .u64 0) 12) []),Mv 18 6,jc (.st 12 (.t 2) (.t 17)),Mv 3 18]) (.ret)) (.seq (.draw [Dm 20 4,Dr 21 (.ld 12 true (.t 5)) [5] 0 0,ir 22 (.call zeO []),Dr 23 (.call zeP [.t 22]) [22] 0 0,Dr 24 (.call zft [.t 20,.t 21,.t 23]) [20,21,23] 0 0,ir 25 (.call zj6 []),Dv 26 (.fld 0 12 true (.t 25)) [25],Dv 27 (.eq (.agg (zaV .i 12)) true (.t 24) (.t 26)) [24,26],Dm 19 27]) (.cond (.t 19) (.seq (.reg [iv 28 (.build (zaV (.int .u64 0) 12) []),jc (.st 12 (.t 2) (.t 28)),iv 3 (.mv (.k (.int .i64 4)))]) (.ret)) (.skip)))))) (.seq (.reg [ir 29 (.ld 12 true (.t 5)),iv 30 (.build (zaV (.int .u64 0) 12) [(0,12,.t 29)]),jc (.st 12 (.t 2) (.t 30)),iv 3 (.mv (.k (.int .i64 0)))]) (.ret)))))
def zqO:AFn:=⟨31,zfg,[.cell 2 12 true,.tmp 3],none⟩
def zcq:AC:=.seq (.reg [Bi 6 .lss 5 6]) (.seq (.cond (.t 6) (.skip) (.exit 0)) (.seq (.blk 1 (.reg [Mv 7 2,Mv 8 1,Mv 9 2,Bt 10 .mul 8 9,iv 11 (.bin .sub (.k (.int .u64 2)) (.t 10)),Bt 12 .mul 7 11,Mv 2 12])) (.reg [Bi 13 .add 5 1,Mv 5 13])))
def zhC:AC:=.seq (.reg [iv 0 (.mv (.k (.int .u64 0)))]) (.seq (.reg [ir 3 (.call zbU []),iv 4 (.idxA 4 1 false (.t 3) (.k (.int .i64 0))),Mv 1 4,iv 2 (.mv (.k (.int .u64 1)))]) (.seq (.seq (.reg [iv 5 (.mv (.k (.int .i64 0)))]) (.blk 0 (.loop zcq))) (.seq (.reg [Mv 14 2,iv 15 (.un .neg (.t 14)),Mv 0 15]) (.ret))))
def zlj:AFn:=⟨16,zhC,[.tmp 0],none⟩
def zlk:AC:=.seq (.reg [iv 8 (.mv (.k (.int .u64 0))),iv 9 (.mv (.k (.int .u64 0)))]) (.seq (.reg [Mv 14 1,Mv 15 2,ir 16 (.call zcX [.t 14,.t 15]),Mv 13 16,Ex 17 13 0,Ex 18 13 1,Mv 10 17,Mv 11 18]) (.seq (.reg [Mv 20 11,Mv 21 0,ic 22 (.call zaJ [.t 20,.t 21,.k (.int .u64 0)]),Mv 19 22,Ex 23 19 0,Ex 24 19 1,Mv 11 23,Mv 12 24]) (.seq (.reg [Mv 25 10,Mv 26 12,Bt 27 .add 25 26,Mv 10 27]) (.seq (.reg [Mv 29 11,Mv 30 3,ic 31 (.call zaJ [.t 29,.t 30,.k (.int .u64 0)]),Mv 28 31,Ex 32 28 0,Ex 33 28 1,Mv 11 32,Mv 12 33]) (.seq (.reg [Mv 34 11,Mv 35 10,Mv 36 12,Bt 37 .add 35 36,Mv 8 34,Mv 9 37]) (.ret))))))
def zqx:AFn:=⟨38,zlk,[.tmp 8,.tmp 9],none⟩
def zhn:AC:=.seq (.reg [iv 1 (.boxv (.t 0)),ic 2 (.alloc (zaV (.int .u64 0) 4))]) (.seq (.seq (.draw [Dr 6 (.ld 4 true (.t 1)) [1] 0 1,Dr 7 (.call zbU []) [] 0 1,Dr 8 (.call zeE [.t 6,.t 7]) [6,7] 0 1,Dm 5 8,Dv 9 (.ext (.t 5) 0) [5],Dv 10 (.ext (.t 5) 1) [5],ic 3 (.alloc (zaV (.int .u64 0) 4)),Dn (.st 4 (.t 3) (.t 9)) [3,9],Dm 4 10]) (.seq (.reg [Mv 11 4,iv 12 (.bin .eql (.t 11) (.k (.int .u64 0)))]) (.cond (.t 12) (.seq (.reg [ir 13 (.ld 4 true (.t 3)),jc (.st 4 (.t 2) (.t 13))]) (.ret)) (.skip)))) (.seq (.reg [ir 14 (.ld 4 true (.t 1)),jc (.st 4 (.t 2) (.t 14))]) (.ret)))
def zoh:AFn:=⟨15,zhn,[.cell 2 4 true],none⟩
def zaI:AC:=.seq (.reg [iv 2 (.mv (.k (.int .i64 0)))]) (.seq (.seq (.reg [Mv 3 0,iv 4 (.bin .geq (.t 3) (.k (.int .u64 4294967296)))]) (.cond (.t 4) (.seq (.reg [Mv 5 0,iv 6 (.bin .shr (.t 5) (.k (.int .u64 32))),Mv 0 6]) (.reg [iv 2 (.mv (.k (.int .i64 32)))])) (.skip))) (.seq (.seq (.reg [Mv 7 0,iv 8 (.bin .geq (.t 7) (.k (.int .u64 65536)))]) (.cond (.t 8) (.seq (.reg [Mv 9 0,iv 10 (.bin .shr (.t 9) (.k (.int .u64 16))),Mv 0 10]) (.reg [Mv 11 2,Bi 12 .add 11 16,Mv 2 12])) (.skip))) (.seq (.seq (.reg [Mv 13 0,iv 14 (.bin .geq (.t 13) (.k (.int .u64 256)))]) (.cond (.t 14) (.seq (.reg [Mv 15 0,iv 16 (.bin .shr (.t 15) (.k (.int .u64 8))),Mv 0 16]) (.reg [Mv 17 2,Bi 18 .add 17 8,Mv 2 18])) (.skip))) (.seq (.reg [Mv 19 2,Mv 20 0,iv 21 (.i2i .u8 (.t 20)),iv 22 (.idxS (.k (.str zLD)) (.t 21)),iv 23 (.i2i .i64 (.t 22)),Bt 24 .add 19 23,Mv 2 24]) (.ret)))))
def zi8:AFn:=⟨25,zaI,[.tmp 2],none⟩
def ziQ:AC:=.seq (.reg [iv 2 (.mv (.k (.int .i64 0)))]) (.seq (.cond (.k (.bool false)) (.seq (.reg [Mv 3 0,iv 4 (.i2i .u32 (.t 3)),ir 5 (.call zh2 [.t 4]),Mv 2 5]) (.ret)) (.skip)) (.seq (.reg [Mv 6 0,ir 7 (.call zh3 [.t 6]),Mv 2 7]) (.ret)))
def zey:AFn:=⟨8,ziQ,[.tmp 2],none⟩
def zkV:AC:=.seq (.seq (.reg [Mv 15 6,Bi 16 .lss 15 64]) (.cond (.t 16) (.skip) (.exit 2))) (.seq (.blk 3 (.seq (.reg [Mv 19 4,Bi 20 .rem 19 5,Mv 21 4,Bi 22 .quo 21 5,Mv 23 6,Mv 24 5,iv 25 (.bin .rem (.t 24) (.k (.int .u64 2))),iv 26 (.bin .eql (.t 25) (.k (.int .u64 1))),iv 27 (.iadr (some 5) 320 (.t 3) (.t 20)),iv 28 (.iadr (some 5) 64 (.t 27) (.t 22)),iv 29 (.iadr (some 64) 1 (.t 28) (.t 23)),Sx 29 26]) (.reg [Mv 30 5,iv 31 (.bin .quo (.t 30) (.k (.int .u64 2))),Mv 5 31]))) (.reg [Mv 17 6,Bi 18 .add 17 1,Mv 6 18]))
def zkW:AC:=.seq (.seq (.reg [Mv 8 4,Bi 9 .lss 8 25]) (.cond (.t 9) (.skip) (.exit 0))) (.seq (.blk 1 (.seq (.reg [Mv 12 4,iv 13 (.iadr (some 25) 1 (.t 1) (.t 12)),Ld 14 13,Mv 5 14]) (.seq (.reg [iv 6 (.mv (.k (.int .i64 0)))]) (.blk 2 (.loop zkV))))) (.reg [Mv 10 4,Bi 11 .add 10 1,Mv 4 11]))
def zll:AC:=.seq (.reg [iv 1 (.boxv (.t 0)),ic 2 (.alloc (zaV (.bool false) 1600))]) (.seq (.reg [iv 7 (.build (zaV (.bool false) 1600) []),ic 3 (.alloc (zaV (.bool false) 1600)),jc (.st 1600 (.t 3) (.t 7))]) (.seq (.seq (.reg [iv 4 (.mv (.k (.int .i64 0)))]) (.blk 0 (.loop zkW))) (.seq (.reg [ir 32 (.ld 1600 true (.t 3)),jc (.st 1600 (.t 2) (.t 32))]) (.ret))))
def zgi:AFn:=⟨33,zll,[.cell 2 1600 true],none⟩
def zmB:AC:=.seq (.seq (.reg [Mv 14 6,Bi 15 .lss 14 64]) (.cond (.t 15) (.skip) (.exit 0))) (.seq (.blk 1 (.draw [Dm 18 6,Dm 19 6,Dv 20 (.iadr (some 5) 320 (.t 2) (.k (.int .i64 0))) [2],Dv 21 (.iadr (some 5) 64 (.t 20) (.k (.int .i64 0))) [20],Dv 22 (.iadr (some 64) 1 (.t 21) (.t 19)) [21,19],Dr 23 (.ld 1 false (.t 22)) [22] 0 0,Dm 24 6,Dv 25 (.iadr (some 64) 1 (.t 5) (.t 24)) [5,24],Dr 26 (.ld 1 false (.t 25)) [25] 0 0,Dv 27 (.eq .bool true (.t 23) (.t 26)) [23,26],Dv 28 (.iadr (some 5) 320 (.t 2) (.k (.int .i64 0))) [2],Dv 29 (.iadr (some 5) 64 (.t 28) (.k (.int .i64 0))) [28],Dv 30 (.iadr (some 64) 1 (.t 29) (.t 18)) [29,18],Dn (.st 1 (.t 30) (.t 27)) [30,27]])) (.reg [Mv 16 6,Bi 17 .add 16 1,Mv 6 17]))
def zno:AC:=.seq (.reg [ic 2 (.box (.t 0)),ic 4 (.alloc (zaV (.bool false) 1600))]) (.seq (.reg [ir 7 (.ld 1600 true (.t 2)),ir 8 (.call zh4 [.t 7]),ir 9 (.call zjt [.t 8]),ir 10 (.call zkK [.t 9]),ir 11 (.call zjs [.t 10]),jc (.st 1600 (.t 2) (.t 11))]) (.seq (.reg [Mv 12 1,ir 13 (.call zfR [.t 12]),ic 5 (.alloc (zaV (.bool false) 64)),jc (.st 64 (.t 5) (.t 13))]) (.seq (.seq (.reg [iv 6 (.mv (.k (.int .i64 0)))]) (.blk 0 (.loop zmB))) (.seq (.reg [ir 31 (.ld 1600 true (.t 2)),jc (.st 1600 (.t 4) (.t 31))]) (.ret)))))
def zhH:AFn:=⟨32,zno,[.cell 4 1600 true],none⟩
def zmC:AC:=.seq (.seq (.reg [Mv 12 6,Bi 13 .geq 12 0]) (.cond (.t 13) (.skip) (.exit 2))) (.seq (.blk 3 (.seq (.reg [Mv 16 5,iv 17 (.bin .mul (.t 16) (.k (.int .u64 2))),Mv 5 17]) (.seq (.reg [Mv 18 4,Bi 19 .rem 18 5,Mv 20 4,Bi 21 .quo 20 5,Mv 22 6,iv 23 (.iadr (some 5) 320 (.t 1) (.t 19)),iv 24 (.iadr (some 5) 64 (.t 23) (.t 21)),iv 25 (.iadr (some 64) 1 (.t 24) (.t 22)),Ld 26 25]) (.cond (.t 26) (.reg [Mv 27 5,iv 28 (.bin .add (.t 27) (.k (.int .u64 1))),Mv 5 28]) (.skip))))) (.reg [Mv 14 6,Bi 15 .sub 14 1,Mv 6 15]))
def zmD:AC:=.seq (.seq (.reg [Mv 8 4,Bi 9 .lss 8 25]) (.cond (.t 9) (.skip) (.exit 0))) (.seq (.blk 1 (.seq (.reg [iv 5 (.mv (.k (.int .u64 0)))]) (.seq (.seq (.reg [iv 6 (.mv (.k (.int .i64 63)))]) (.blk 2 (.loop zmC))) (.reg [Mv 29 4,Mv 30 5,iv 31 (.iadr (some 25) 1 (.t 3) (.t 29)),Sx 31 30])))) (.reg [Mv 10 4,Bi 11 .add 10 1,Mv 4 11]))
def znq:AC:=.seq (.reg [iv 1 (.boxv (.t 0)),ic 2 (.alloc (zaV (.int .u64 0) 25))]) (.seq (.reg [iv 7 (.build (zaV (.int .u64 0) 25) []),ic 3 (.alloc (zaV (.int .u64 0) 25)),jc (.st 25 (.t 3) (.t 7))]) (.seq (.seq (.reg [iv 4 (.mv (.k (.int .i64 0)))]) (.blk 0 (.loop zmD))) (.seq (.reg [ir 32 (.ld 25 true (.t 3)),jc (.st 25 (.t 2) (.t 32))]) (.ret))))
def zhI:AFn:=⟨33,znq,[.cell 2 25 true],none⟩
def zln:AC:=.seq (.reg [iv 2 (.mv (.k (.nsl))),iv 3 (.mv (.k (.int .i64 0)))]) (.seq (.seq (.reg [Mv 4 0]) (.blk 0 (.seq (.reg [Bi 6 .eql 4 1,Mv 5 6]) (.cond (.t 5) (.seq (.reg [iv 7 (.slit 1 4 [.int .i64 0] [(0,.k (.int .i64 1)),(1,.k (.int .i64 2)),(2,.k (.int .i64 3)),(3,.k (.int .i64 4))]),Mv 2 7,iv 3 (.mv (.k (.int .i64 1048576)))]) (.ret)) (.seq (.reg [Bi 9 .eql 4 2,Mv 8 9]) (.cond (.t 8) (.seq (.reg [iv 10 (.slit 1 2 [.int .i64 0] [(0,.k (.int .i64 1)),(1,.k (.int .i64 3))]),Mv 2 10,iv 3 (.mv (.k (.int .i64 1048576)))]) (.ret)) (.seq (.reg [Bi 12 .eql 4 3,Mv 11 12]) (.cond (.t 11) (.seq (.reg [iv 13 (.slit 1 1 [.int .i64 0] [(0,.k (.int .i64 0))]),Mv 2 13,iv 3 (.mv (.k (.int .i64 1)))]) (.ret)) (.skip))))))))) (.seq (.reg [iv 2 (.mv (.k (.nsl))),iv 3 (.mv (.k (.int .i64 0)))]) (.ret)))
def zqy:AFn:=⟨14,zln,[.tmp 2,.tmp 3],none⟩
def zcQ:AC:=.seq (.reg [iv 4 (.mv (.k (.bool false)))]) (.seq (.reg [Mv 5 0,Mv 6 1,ir 7 (.call zcy [.t 5,.t 6]),Bi 8 .geq 7 0,Mv 4 8]) (.ret))
def ze6:AFn:=⟨9,zcQ,[.tmp 4],none⟩
def zem:AC:=.seq (.reg [ic 2 (.box (.t 0)),ic 4 (.alloc (zaV (.int .u64 0) 25))]) (.seq (.reg [ir 5 (.ld 25 true (.t 2)),ir 6 (.call zcM [.t 5]),ir 7 (.call zcN [.t 6]),ir 8 (.call zdw [.t 7]),jc (.st 25 (.t 2) (.t 8))]) (.seq (.draw [Dv 9 (.iadr (some 25) 1 (.t 2) (.k (.int .i64 0))) [2],Dr 10 (.ld 1 false (.t 9)) [9] 0 0,Dm 11 1,Dr 12 (.call zd5 [.t 11]) [11] 0 0,Dv 13 (.bin .xor (.t 10) (.t 12)) [10,12],Dv 14 (.iadr (some 25) 1 (.t 2) (.k (.int .i64 0))) [2],Dn (.st 1 (.t 14) (.t 13)) [14,13]]) (.seq (.reg [ir 15 (.ld 25 true (.t 2)),jc (.st 25 (.t 4) (.t 15))]) (.ret))))
def zha:AFn:=⟨16,zem,[.cell 4 25 true],none⟩
def zb5:AC:=.seq (.reg [iv 2 (.mv (.k (.nsl)))]) (.seq (.seq (.reg [Mv 3 0,iv 4 (.eq .slc false (.t 3) (.k (.nsl)))]) (.cond (.t 4) (.seq (.reg [iv 2 (.mv (.k (.nsl)))]) (.ret)) (.skip))) (.seq (.reg [iv 5 (.slit 1 0 [.int .u64 0] []),Mv 6 0,ic 7 (.app 1 false (.t 5) (.t 6)),Mv 2 7]) (.ret)))
def zdC:AFn:=⟨8,zb5,[.tmp 2],none⟩
def zaP:AC:=.seq (.reg [Bt 16 .lss 15 14]) (.seq (.cond (.t 16) (.skip) (.exit 0)) (.seq (.blk 1 (.seq (.reg [Mv 17 15,Ia 18 13 15,Ld 19 18,Mv 8 17,Mv 9 19]) (.seq (.reg [Mv 20 7,Mv 21 8,Mv 22 9,iv 23 (.bin .shl (.t 22) (.k (.int .u64 1))),Mv 24 2,Bt 25 .or 23 24,Ia 26 20 21,Sx 26 25]) (.reg [Mv 27 9,iv 28 (.bin .shr (.t 27) (.k (.int .u64 63))),Mv 2 28])))) (.reg [Bi 29 .add 15 1,Mv 15 29])))
def zen:AC:=.seq (.reg [iv 6 (.mv (.k (.nsl)))]) (.seq (.reg [Mv 10 1,iv 11 (.lenL (.t 10)),ic 12 (.mk 1 [.int .u64 0] (.t 11)),Mv 7 12]) (.seq (.seq (.reg [Mv 13 1,iv 14 (.lenL (.t 13)),iv 15 (.mv (.k (.int .i64 0)))]) (.blk 0 (.loop zaP))) (.seq (.reg [Mv 30 0,Mv 31 7,Mv 32 2,ir 33 (.call zbx [.t 30,.t 31,.t 32]),Mv 6 33]) (.ret))))
def zhb:AFn:=⟨34,zen,[.tmp 6],none⟩
def zdY:AC:=.seq (.reg [Bi 8 .lss 7 4]) (.seq (.cond (.t 8) (.skip) (.exit 0)) (.seq (.blk 1 (.seq (.reg [Mv 9 7,Mv 6 9]) (.draw [Dm 11 6,Dm 12 6,Dv 13 (.iadr (some 4) 1 (.t 2) (.t 12)) [2,12],Dr 14 (.ld 1 false (.t 13)) [13] 0 0,Dm 15 6,Dv 16 (.iadr (some 4) 1 (.t 3) (.t 15)) [3,15],Dr 17 (.ld 1 false (.t 16)) [16] 0 0,Dm 18 5,Dc 19 (.call zaJ [.t 14,.t 17,.t 18]) [14,17,18],Dm 10 19,Dv 20 (.ext (.t 10) 0) [10],Dv 21 (.ext (.t 10) 1) [10],Dv 22 (.iadr (some 4) 1 (.t 4) (.t 11)) [4,11],Dn (.st 1 (.t 22) (.t 20)) [22,20],Dm 5 21]))) (.reg [Bi 23 .add 7 1,Mv 7 23])))
def zlu:AC:=.seq (.reg [iv 2 (.boxv (.t 0)),iv 3 (.boxv (.t 1)),ic 4 (.alloc (zaV (.int .u64 0) 4))]) (.seq (.reg [iv 5 (.mv (.k (.int .u64 0)))]) (.seq (.seq (.reg [iv 7 (.mv (.k (.int .i64 0)))]) (.blk 0 (.loop zdY))) (.seq (.reg [ir 24 (.ld 4 true (.t 4)),jc (.st 4 (.t 4) (.t 24))]) (.ret))))
def zqA:AFn:=⟨25,zlu,[.cell 4 4 true],none⟩
def zgk:AC:=.seq (.seq (.reg [Mv 7 3,Bi 8 .geq 7 0]) (.cond (.t 8) (.skip) (.exit 0))) (.seq (.blk 1 (.seq (.reg [Mv 11 0,Mv 12 3,Ia 13 11 12,Ld 14 13,iv 15 (.bin .neq (.t 14) (.k (.int .u64 0)))]) (.cond (.t 15) (.seq (.reg [Mv 16 3,iv 17 (.bin .mul (.k (.int .i64 64)) (.t 16)),Mv 18 0,Mv 19 3,Ia 20 18 19,Ld 21 20,ir 22 (.call zd4 [.t 21]),Bt 23 .add 17 22,Mv 2 23]) (.ret)) (.skip)))) (.reg [Mv 9 3,Bi 10 .sub 9 1,Mv 3 10]))
def znv:AC:=.seq (.reg [iv 2 (.mv (.k (.int .i64 0)))]) (.seq (.seq (.reg [Mv 4 0,iv 5 (.lenL (.t 4)),Bi 6 .sub 5 1,Mv 3 6]) (.blk 0 (.loop zgk))) (.seq (.reg [iv 2 (.mv (.k (.int .i64 0)))]) (.ret)))
def zrS:AFn:=⟨24,znv,[.tmp 2],none⟩
def zcT:AC:=.seq (.reg [Bi 8 .lss 7 4]) (.seq (.cond (.t 8) (.skip) (.exit 0)) (.seq (.blk 1 (.seq (.reg [Mv 9 7,Mv 6 9]) (.draw [Dm 11 6,Dm 12 6,Dv 13 (.iadr (some 4) 1 (.t 2) (.t 12)) [2,12],Dr 14 (.ld 1 false (.t 13)) [13] 0 0,Dm 15 6,Dv 16 (.iadr (some 4) 1 (.t 3) (.t 15)) [3,15],Dr 17 (.ld 1 false (.t 16)) [16] 0 0,Dm 18 5,Dc 19 (.call zb2 [.t 14,.t 17,.t 18]) [14,17,18],Dm 10 19,Dv 20 (.ext (.t 10) 0) [10],Dv 21 (.ext (.t 10) 1) [10],Dv 22 (.iadr (some 4) 1 (.t 4) (.t 11)) [4,11],Dn (.st 1 (.t 22) (.t 20)) [22,20],Dm 5 21]))) (.reg [Bi 23 .add 7 1,Mv 7 23])))
def ziS:AC:=.seq (.reg [iv 2 (.boxv (.t 0)),iv 3 (.boxv (.t 1)),ic 4 (.alloc (zaV (.int .u64 0) 4)),iv 5 (.mv (.k (.int .u64 0)))]) (.seq (.seq (.reg [iv 7 (.mv (.k (.int .i64 0)))]) (.blk 0 (.loop zcT))) (.seq (.reg [ir 24 (.ld 4 true (.t 4)),Mv 25 5,jc (.st 4 (.t 4) (.t 24)),Mv 5 25]) (.ret)))
def znb:AFn:=⟨26,ziS,[.cell 4 4 true,.tmp 5],none⟩
def zly:AC:=.seq (.reg [iv 0 (.mv (.k (.nilp)))]) (.seq (.reg [ir 1 (.call zgA []),ir 2 (.call zh5 [.t 1]),Mv 0 2]) (.ret))
def zqB:AFn:=⟨3,zly,[.tmp 0],none⟩
def zde:AC:=.seq (.reg [ic 4 (.alloc (zaV (.int .u64 0) 12)),iv 5 (.mv (.k (.int .i64 0)))]) (.seq (.seq (.reg [Mv 7 1,iv 8 (.lenL (.t 7)),Bi 9 .neq 8 96]) (.cond (.t 9) (.seq (.reg [iv 10 (.build (zaV (.int .u64 0) 12) []),jc (.st 12 (.t 4) (.t 10)),iv 5 (.mv (.k (.int .i64 1)))]) (.ret)) (.skip))) (.seq (.reg [Mv 11 1,ir 12 (.call zdJ [.t 11]),Mv 6 12]) (.seq (.seq (.reg [Mv 13 6,Mv 14 0,Nk 15 14,Fa 16 0 15,Ld 17 16,ir 18 (.call zbO [.t 17]),ir 19 (.call zju [.t 13,.t 18]),Bi 20 .geq 19 0]) (.cond (.t 20) (.seq (.reg [iv 21 (.build (zaV (.int .u64 0) 12) []),jc (.st 12 (.t 4) (.t 21)),iv 5 (.mv (.k (.int .i64 4)))]) (.ret)) (.skip))) (.seq (.reg [Mv 22 6,iv 23 (.s2a 12 (.t 22)),ir 24 (.ld 12 true (.t 23)),jc (.st 12 (.t 4) (.t 24)),iv 5 (.mv (.k (.int .i64 0)))]) (.ret)))))
def zkD:AFn:=⟨25,zde,[.cell 4 12 true,.tmp 5],none⟩
def zhS:AC:=.seq (.reg [iv 4 (.boxv (.t 1)),iv 5 (.boxv (.t 2)),ic 6 (.alloc (zaV (.int .u64 0) 12))]) (.seq (.draw [Dm 7 0,Dv 8 (.nck (.t 7)) [7],Dv 9 (.fadr 0 (.t 8)) [8],Dr 10 (.ld 1 false (.t 9)) [9] 0 0,Dv 11 (.mkfn (.func zbn) [.t 10] []) [10],Dr 12 (.ld 12 true (.t 4)) [4] 0 0,Dr 13 (.ld 12 true (.t 5)) [5] 0 0,Dr 14 (.call zoX [.t 11,.t 12,.t 13]) [11,12,13] 0 0,Dn (.st 12 (.t 6) (.t 14)) [6,14]]) (.ret))
def zlz:AFn:=⟨15,zhS,[.cell 6 12 true],none⟩
def zdZ:AC:=.seq (.seq (.reg [Mv 5 3,Bi 6 .geq 5 0]) (.cond (.t 6) (.skip) (.exit 0))) (.seq (.blk 1 (.draw [Dm 9 3,Dm 10 3,Dv 11 (.iadr (some 12) 1 (.t 1) (.t 10)) [1,10],Dr 12 (.ld 1 false (.t 11)) [11] 0 0,Dv 13 (.bin .shr (.t 12) (.k (.int .u64 1))) [12],Dm 14 2,Dv 15 (.bin .shl (.t 14) (.k (.int .u64 63))) [14],Dv 16 (.bin .or (.t 13) (.t 15)) [13,15],Dm 17 3,Dv 18 (.iadr (some 12) 1 (.t 1) (.t 17)) [1,17],Dr 19 (.ld 1 false (.t 18)) [18] 0 0,Dv 20 (.bin .and (.t 19) (.k (.int .u64 1))) [19],Dv 21 (.iadr (some 12) 1 (.t 1) (.t 9)) [1,9],Dn (.st 1 (.t 21) (.t 16)) [21,16],Dm 2 20])) (.reg [Mv 7 3,Bi 8 .sub 7 1,Mv 3 8]))
def zgT:AC:=.seq (.reg [iv 0 (.mv (.k (.nilp)))]) (.seq (.reg [ir 4 (.call zgA []),ic 1 (.alloc (zaV (.int .u64 0) 12)),jc (.st 12 (.t 1) (.t 4)),iv 2 (.mv (.k (.int .u64 0)))]) (.seq (.seq (.reg [iv 3 (.mv (.k (.int .i64 11)))]) (.blk 0 (.loop zdZ))) (.seq (.reg [ir 22 (.ld 12 true (.t 1)),ir 23 (.call zh5 [.t 22]),Mv 0 23]) (.ret))))
def zkE:AFn:=⟨24,zgT,[.tmp 0],none⟩
def zgU:AC:=.seq (.reg [ic 2 (.alloc (zaV (.int .u64 0) 12))]) (.seq (.reg [Mv 3 0,Nk 4 3,Fa 5 0 4,Ld 6 5,ir 7 (.call zbO [.t 6]),iv 8 (.s2a 12 (.t 7)),ir 9 (.ld 12 true (.t 8)),jc (.st 12 (.t 2) (.t 9))]) (.ret))
def zkF:AFn:=⟨10,zgU,[.cell 2 12 true],none⟩
def zny:AC:=.seq (.reg [ic 0 (.alloc (zaV (.int .u64 0) 12))]) (.seq (.reg [iv 1 (.build (zaV (.int .u64 0) 12) [(0,1,.k (.int .u64 1))]),iv 2 (.build (zaV (.int .u64 0) 12) [(0,12,.t 1)]),jc (.st 12 (.t 0) (.t 2))]) (.ret))
def zrW:AFn:=⟨3,zny,[.cell 0 12 true],none⟩
def zfX:AC:=.seq (.reg [iv 4 (.mv (.k (.int .u64 0))),iv 5 (.mv (.k (.int .u64 0)))]) (.seq (.reg [Mv 14 0,iv 15 (.bin .and (.t 14) (.k (.int .u64 4294967295))),Mv 6 15]) (.seq (.reg [Mv 16 0,iv 17 (.bin .shr (.t 16) (.k (.int .u64 32))),Mv 7 17]) (.seq (.reg [Mv 18 1,iv 19 (.bin .and (.t 18) (.k (.int .u64 4294967295))),Mv 8 19]) (.seq (.reg [Mv 20 1,iv 21 (.bin .shr (.t 20) (.k (.int .u64 32))),Mv 9 21]) (.seq (.reg [Mv 22 6,Mv 23 8,Bt 24 .mul 22 23,Mv 10 24]) (.seq (.reg [Mv 25 7,Mv 26 8,Bt 27 .mul 25 26,Mv 28 10,iv 29 (.bin .shr (.t 28) (.k (.int .u64 32))),Bt 30 .add 27 29,Mv 11 30]) (.seq (.reg [Mv 31 11,iv 32 (.bin .and (.t 31) (.k (.int .u64 4294967295))),Mv 12 32]) (.seq (.reg [Mv 33 11,iv 34 (.bin .shr (.t 33) (.k (.int .u64 32))),Mv 13 34]) (.seq (.reg [Mv 35 12,Mv 36 6,Mv 37 9,Bt 38 .mul 36 37,Bt 39 .add 35 38,Mv 12 39]) (.seq (.reg [Mv 40 7,Mv 41 9,Bt 42 .mul 40 41,Mv 43 13,Bt 44 .add 42 43,Mv 45 12,iv 46 (.bin .shr (.t 45) (.k (.int .u64 32))),Bt 47 .add 44 46,Mv 4 47]) (.seq (.reg [Mv 48 0,Mv 49 1,Bt 50 .mul 48 49,Mv 5 50]) (.ret))))))))))))
def zjg:AFn:=⟨51,zfX,[.tmp 4,.tmp 5],none⟩
def zor:AC:=.seq (.seq (.reg [Mv 16 6,Bi 17 .lss 16 64]) (.cond (.t 17) (.skip) (.exit 4))) (.seq (.blk 5 (.draw [Dm 20 4,Dm 21 5,Dm 22 6,Dm 23 4,Dm 24 5,Dm 25 6,Dv 26 (.iadr (some 5) 320 (.t 1) (.t 23)) [1,23],Dv 27 (.iadr (some 5) 64 (.t 26) (.t 24)) [26,24],Dv 28 (.iadr (some 64) 1 (.t 27) (.t 25)) [27,25],Dr 29 (.ld 1 false (.t 28)) [28] 0 0,Dm 30 4,Dv 31 (.bin .add (.t 30) (.k (.int .i64 1))) [30],Dv 32 (.bin .rem (.t 31) (.k (.int .i64 5))) [31],Dm 33 5,Dm 34 6,Dv 35 (.iadr (some 5) 320 (.t 1) (.t 32)) [1,32],Dv 36 (.iadr (some 5) 64 (.t 35) (.t 33)) [35,33],Dv 37 (.iadr (some 64) 1 (.t 36) (.t 34)) [36,34],Dr 38 (.ld 1 false (.t 37)) [37] 0 0,Dv 39 (.un .not (.t 38)) [38],Dm 40 39,Gm 41 4 40 true,Gv 42 (.bin .add (.t 41) (.k (.int .i64 2))) 40 true [41,40],Gv 43 (.bin .rem (.t 42) (.k (.int .i64 5))) 40 true [42,40],Gm 44 5 40 true,Gm 45 6 40 true,Gv 46 (.iadr (some 5) 320 (.t 1) (.t 43)) 40 true [1,43,40],Gv 47 (.iadr (some 5) 64 (.t 46) (.t 44)) 40 true [46,44,40],Gv 48 (.iadr (some 64) 1 (.t 47) (.t 45)) 40 true [47,45,40],Gr 49 (.ld 1 false (.t 48)) 40 true [48,40] 0 0,Dv 50 (.pick (.t 40) (.t 49) (.k (.bool false))) [40,49],Dv 51 (.eq .bool true (.t 29) (.t 50)) [29,50],Dv 52 (.iadr (some 5) 320 (.t 3) (.t 20)) [3,20],Dv 53 (.iadr (some 5) 64 (.t 52) (.t 21)) [52,21],Dv 54 (.iadr (some 64) 1 (.t 53) (.t 22)) [53,22],Dn (.st 1 (.t 54) (.t 51)) [54,51]])) (.reg [Mv 18 6,Bi 19 .add 18 1,Mv 6 19]))
def zos:AC:=.seq (.seq (.reg [Mv 12 5,Bi 13 .lss 12 5]) (.cond (.t 13) (.skip) (.exit 2))) (.seq (.blk 3 (.seq (.reg [iv 6 (.mv (.k (.int .i64 0)))]) (.blk 4 (.loop zor)))) (.reg [Mv 14 5,Bi 15 .add 14 1,Mv 5 15]))
def zot:AC:=.seq (.seq (.reg [Mv 8 4,Bi 9 .lss 8 5]) (.cond (.t 9) (.skip) (.exit 0))) (.seq (.blk 1 (.seq (.reg [iv 5 (.mv (.k (.int .i64 0)))]) (.blk 2 (.loop zos)))) (.reg [Mv 10 4,Bi 11 .add 10 1,Mv 4 11]))
def zpP:AC:=.seq (.reg [iv 1 (.boxv (.t 0)),ic 2 (.alloc (zaV (.bool false) 1600))]) (.seq (.reg [iv 7 (.build (zaV (.bool false) 1600) []),ic 3 (.alloc (zaV (.bool false) 1600)),jc (.st 1600 (.t 3) (.t 7))]) (.seq (.seq (.reg [iv 4 (.mv (.k (.int .i64 0)))]) (.blk 0 (.loop zot))) (.seq (.reg [ir 55 (.ld 1600 true (.t 3)),jc (.st 1600 (.t 2) (.t 55))]) (.ret))))
def zjh:AFn:=⟨56,zpP,[.cell 2 1600 true],none⟩
def zpR:AC:=.seq (.seq (.reg [Mv 11 5,Bi 12 .lss 11 5]) (.cond (.t 12) (.skip) (.exit 2))) (.seq (.blk 3 (.draw [Dm 15 5,Dm 16 4,Dv 17 (.bin .mul (.k (.int .i64 2)) (.t 16)) [16],Dm 18 5,Dv 19 (.bin .mul (.k (.int .i64 3)) (.t 18)) [18],Dv 20 (.bin .add (.t 17) (.t 19)) [17,19],Dv 21 (.bin .rem (.t 20) (.k (.int .i64 5))) [20],Dm 22 4,Dm 23 5,Dv 24 (.iadr (some 5) 320 (.t 1) (.t 22)) [1,22],Dv 25 (.iadr (some 5) 64 (.t 24) (.t 23)) [24,23],Dr 26 (.ld 64 true (.t 25)) [25] 0 0,Dv 27 (.iadr (some 5) 320 (.t 3) (.t 15)) [3,15],Dv 28 (.iadr (some 5) 64 (.t 27) (.t 21)) [27,21],Dn (.st 64 (.t 28) (.t 26)) [28,26]])) (.reg [Mv 13 5,Bi 14 .add 13 1,Mv 5 14]))
def zpS:AC:=.seq (.seq (.reg [Mv 7 4,Bi 8 .lss 7 5]) (.cond (.t 8) (.skip) (.exit 0))) (.seq (.blk 1 (.seq (.reg [iv 5 (.mv (.k (.int .i64 0)))]) (.blk 2 (.loop zpR)))) (.reg [Mv 9 4,Bi 10 .add 9 1,Mv 4 10]))
def zqZ:AC:=.seq (.reg [iv 1 (.boxv (.t 0)),ic 2 (.alloc (zaV (.bool false) 1600))]) (.seq (.reg [iv 6 (.build (zaV (.bool false) 1600) []),ic 3 (.alloc (zaV (.bool false) 1600)),jc (.st 1600 (.t 3) (.t 6))]) (.seq (.seq (.reg [iv 4 (.mv (.k (.int .i64 0)))]) (.blk 0 (.loop zpS))) (.seq (.reg [ir 29 (.ld 1600 true (.t 3)),jc (.st 1600 (.t 2) (.t 29))]) (.ret))))
def zkG:AFn:=⟨30,zqZ,[.cell 2 1600 true],none⟩
def zov:AC:=.seq (.seq (.reg [Mv 18 7,Bi 19 .lss 18 64]) (.cond (.t 19) (.skip) (.exit 2))) (.seq (.blk 3 (.draw [Dm 22 4,Dm 23 5,Dm 24 7,Dm 25 6,Dv 26 (.bin .add (.t 25) (.k (.int .i64 1))) [25],Dm 27 6,Dv 28 (.bin .add (.t 27) (.k (.int .i64 2))) [27],Dv 29 (.bin .mul (.t 26) (.t 28)) [26,28],Dv 30 (.bin .quo (.t 29) (.k (.int .i64 2))) [29],Dv 31 (.bin .add (.t 24) (.t 30)) [24,30],Dv 32 (.bin .rem (.t 31) (.k (.int .i64 64))) [31],Dm 33 4,Dm 34 5,Dm 35 7,Dv 36 (.iadr (some 5) 320 (.t 1) (.t 33)) [1,33],Dv 37 (.iadr (some 5) 64 (.t 36) (.t 34)) [36,34],Dv 38 (.iadr (some 64) 1 (.t 37) (.t 35)) [37,35],Dr 39 (.ld 1 false (.t 38)) [38] 0 0,Dv 40 (.iadr (some 5) 320 (.t 3) (.t 22)) [3,22],Dv 41 (.iadr (some 5) 64 (.t 40) (.t 23)) [40,23],Dv 42 (.iadr (some 64) 1 (.t 41) (.t 32)) [41,32],Dn (.st 1 (.t 42) (.t 39)) [42,39]])) (.reg [Mv 20 7,Bi 21 .add 20 1,Mv 7 21]))
def zox:AC:=.seq (.seq (.reg [Mv 14 6,Bi 15 .lss 14 24]) (.cond (.t 15) (.skip) (.exit 0))) (.seq (.blk 1 (.seq (.seq (.reg [iv 7 (.mv (.k (.int .i64 0)))]) (.blk 2 (.loop zov))) (.reg [Mv 43 5,Mv 44 4,iv 45 (.bin .mul (.k (.int .i64 2)) (.t 44)),Mv 46 5,iv 47 (.bin .mul (.k (.int .i64 3)) (.t 46)),Bt 48 .add 45 47,Bi 49 .rem 48 5,Mv 4 43,Mv 5 49]))) (.reg [Mv 16 6,Bi 17 .add 16 1,Mv 6 17]))
def zpV:AC:=.seq (.reg [iv 1 (.boxv (.t 0)),ic 2 (.alloc (zaV (.bool false) 1600))]) (.seq (.reg [iv 8 (.build (zaV (.bool false) 1600) []),ic 3 (.alloc (zaV (.bool false) 1600)),jc (.st 1600 (.t 3) (.t 8))]) (.seq (.reg [iv 9 (.iadr (some 5) 320 (.t 1) (.k (.int .i64 0))),iv 10 (.iadr (some 5) 64 (.t 9) (.k (.int .i64 0))),ir 11 (.ld 64 true (.t 10)),iv 12 (.iadr (some 5) 320 (.t 3) (.k (.int .i64 0))),iv 13 (.iadr (some 5) 64 (.t 12) (.k (.int .i64 0))),jc (.st 64 (.t 13) (.t 11))]) (.seq (.reg [iv 4 (.mv (.k (.int .i64 1))),iv 5 (.mv (.k (.int .i64 0)))]) (.seq (.seq (.reg [iv 6 (.mv (.k (.int .i64 0)))]) (.blk 0 (.loop zox))) (.seq (.reg [ir 50 (.ld 1600 true (.t 3)),jc (.st 1600 (.t 2) (.t 50))]) (.ret))))))
def zjk:AFn:=⟨51,zpV,[.cell 2 1600 true],none⟩
def zmI:AC:=.seq (.seq (.reg [Mv 22 7,Bi 23 .lss 22 5]) (.cond (.t 23) (.skip) (.exit 4))) (.seq (.blk 5 (.seq (.reg [Mv 26 4,Mv 27 7,Mv 28 5,iv 29 (.iadr (some 5) 320 (.t 1) (.t 26)),iv 30 (.iadr (some 5) 64 (.t 29) (.t 27)),iv 31 (.iadr (some 64) 1 (.t 30) (.t 28)),Ld 32 31]) (.cond (.t 32) (.reg [Mv 33 6,Bi 34 .add 33 1,Mv 6 34]) (.skip)))) (.reg [Mv 24 7,Bi 25 .add 24 1,Mv 7 25]))
def zmJ:AC:=.seq (.seq (.reg [Mv 18 5,Bi 19 .lss 18 64]) (.cond (.t 19) (.skip) (.exit 2))) (.seq (.blk 3 (.seq (.reg [iv 6 (.mv (.k (.int .i64 0)))]) (.seq (.seq (.reg [iv 7 (.mv (.k (.int .i64 0)))]) (.blk 4 (.loop zmI))) (.reg [Mv 35 4,Mv 36 5,Mv 37 6,Bi 38 .rem 37 2,Bi 39 .eql 38 1,iv 40 (.iadr (some 5) 64 (.t 3) (.t 35)),iv 41 (.iadr (some 64) 1 (.t 40) (.t 36)),Sx 41 39])))) (.reg [Mv 20 5,Bi 21 .add 20 1,Mv 5 21]))
def zmK:AC:=.seq (.seq (.reg [Mv 14 4,Bi 15 .lss 14 5]) (.cond (.t 15) (.skip) (.exit 0))) (.seq (.blk 1 (.seq (.reg [iv 5 (.mv (.k (.int .i64 0)))]) (.blk 2 (.loop zmJ)))) (.reg [Mv 16 4,Bi 17 .add 16 1,Mv 4 17]))
def zmL:AC:=.seq (.seq (.reg [Mv 51 11,Bi 52 .lss 51 64]) (.cond (.t 52) (.skip) (.exit 10))) (.seq (.blk 11 (.seq (.draw [Dm 55 9,Dv 56 (.bin .add (.t 55) (.k (.int .i64 4))) [55],Dv 57 (.bin .rem (.t 56) (.k (.int .i64 5))) [56],Dm 58 11,Dv 59 (.iadr (some 5) 64 (.t 3) (.t 57)) [3,57],Dv 60 (.iadr (some 64) 1 (.t 59) (.t 58)) [59,58],Dr 61 (.ld 1 false (.t 60)) [60] 0 0,Dm 62 9,Dv 63 (.bin .add (.t 62) (.k (.int .i64 1))) [62],Dv 64 (.bin .rem (.t 63) (.k (.int .i64 5))) [63],Dm 65 11,Dv 66 (.bin .add (.t 65) (.k (.int .i64 63))) [65],Dv 67 (.bin .rem (.t 66) (.k (.int .i64 64))) [66],Dv 68 (.iadr (some 5) 64 (.t 3) (.t 64)) [3,64],Dv 69 (.iadr (some 64) 1 (.t 68) (.t 67)) [68,67],Dr 70 (.ld 1 false (.t 69)) [69] 0 0,Dv 71 (.eq .bool true (.t 61) (.t 70)) [61,70],Dm 12 71]) (.draw [Dm 72 9,Dm 73 10,Dm 74 11,Dm 75 9,Dm 76 10,Dm 77 11,Dv 78 (.iadr (some 5) 320 (.t 1) (.t 75)) [1,75],Dv 79 (.iadr (some 5) 64 (.t 78) (.t 76)) [78,76],Dv 80 (.iadr (some 64) 1 (.t 79) (.t 77)) [79,77],Dr 81 (.ld 1 false (.t 80)) [80] 0 0,Dm 82 12,Dv 83 (.eq .bool true (.t 81) (.t 82)) [81,82],Dv 84 (.iadr (some 5) 320 (.t 8) (.t 72)) [8,72],Dv 85 (.iadr (some 5) 64 (.t 84) (.t 73)) [84,73],Dv 86 (.iadr (some 64) 1 (.t 85) (.t 74)) [85,74],Dn (.st 1 (.t 86) (.t 83)) [86,83]]))) (.reg [Mv 53 11,Bi 54 .add 53 1,Mv 11 54]))
def zmM:AC:=.seq (.seq (.reg [Mv 47 10,Bi 48 .lss 47 5]) (.cond (.t 48) (.skip) (.exit 8))) (.seq (.blk 9 (.seq (.reg [iv 11 (.mv (.k (.int .i64 0)))]) (.blk 10 (.loop zmL)))) (.reg [Mv 49 10,Bi 50 .add 49 1,Mv 10 50]))
def zmN:AC:=.seq (.seq (.reg [Mv 43 9,Bi 44 .lss 43 5]) (.cond (.t 44) (.skip) (.exit 6))) (.seq (.blk 7 (.seq (.reg [iv 10 (.mv (.k (.int .i64 0)))]) (.blk 8 (.loop zmM)))) (.reg [Mv 45 9,Bi 46 .add 45 1,Mv 9 46]))
def znC:AC:=.seq (.reg [iv 1 (.boxv (.t 0)),ic 2 (.alloc (zaV (.bool false) 1600))]) (.seq (.reg [iv 13 (.build (zaV (.bool false) 320) []),ic 3 (.alloc (zaV (.bool false) 320)),jc (.st 320 (.t 3) (.t 13))]) (.seq (.seq (.reg [iv 4 (.mv (.k (.int .i64 0)))]) (.blk 0 (.loop zmK))) (.seq (.reg [iv 42 (.build (zaV (.bool false) 1600) []),ic 8 (.alloc (zaV (.bool false) 1600)),jc (.st 1600 (.t 8) (.t 42))]) (.seq (.seq (.reg [iv 9 (.mv (.k (.int .i64 0)))]) (.blk 6 (.loop zmN))) (.seq (.reg [ir 87 (.ld 1600 true (.t 8)),jc (.st 1600 (.t 2) (.t 87))]) (.ret))))))
def zhW:AFn:=⟨88,znC,[.cell 2 1600 true],none⟩
def zjY:AC:=.seq (.seq (.reg [Mv 14 5,Bi 15 .lss 14 7]) (.cond (.t 15) (.skip) (.exit 0))) (.seq (.blk 1 (.seq (.reg [Mv 18 4,Bi 19 .sub 18 1,Mv 20 5,Mv 21 0,iv 22 (.bin .mul (.k (.int .i64 7)) (.t 21)),Bt 23 .add 20 22,ir 24 (.call zkO [.t 23]),iv 25 (.iadr (some 64) 1 (.t 3) (.t 19)),Sx 25 24]) (.reg [Mv 26 4,Bi 27 .mul 26 2,Mv 4 27]))) (.reg [Mv 16 5,Bi 17 .add 16 1,Mv 5 17]))
def zk3:AC:=.seq (.reg [ic 2 (.alloc (zaV (.bool false) 64))]) (.seq (.reg [iv 6 (.build (zaV (.bool false) 64) []),ic 3 (.alloc (zaV (.bool false) 64)),jc (.st 64 (.t 3) (.t 6))]) (.seq (.seq (.reg [Mv 7 0,Bi 8 .lss 7 0,Mv 9 8,Gv 10 (.mv (.t 0)) 9 false [],Gv 11 (.bin .gtr (.t 10) (.k (.int .i64 23))) 9 false [],iv 12 (.pick (.t 9) (.k (.bool true)) (.t 11))]) (.cond (.t 12) (.seq (.reg [ir 13 (.ld 64 true (.t 3)),jc (.st 64 (.t 2) (.t 13))]) (.ret)) (.skip))) (.seq (.reg [iv 4 (.mv (.k (.int .i64 1)))]) (.seq (.seq (.reg [iv 5 (.mv (.k (.int .i64 0)))]) (.blk 0 (.loop zjY))) (.seq (.reg [ir 28 (.ld 64 true (.t 3)),jc (.st 64 (.t 2) (.t 28))]) (.ret))))))
def zfS:AFn:=⟨29,zk3,[.cell 2 64 true],none⟩
def zcg:AC:=.seq (.reg [Bt 9 .lss 8 7]) (.seq (.cond (.t 9) (.skip) (.exit 0)) (.seq (.blk 1 (.seq (.reg [Mv 10 8,Mv 5 10]) (.seq (.reg [Mv 11 1,Mv 12 0,Mv 13 5,Ia 14 12 13,Ld 15 14,Bt 16 .eql 11 15]) (.cond (.t 16) (.seq (.reg [Mv 17 5,Mv 4 17]) (.ret)) (.skip))))) (.reg [Bi 18 .add 8 1,Mv 8 18])))
def zdL:AC:=.seq (.reg [iv 4 (.mv (.k (.int .i64 0)))]) (.seq (.seq (.reg [Mv 6 0,iv 7 (.lenL (.t 6)),iv 8 (.mv (.k (.int .i64 0)))]) (.blk 0 (.loop zcg))) (.seq (.reg [iv 4 (.mv (.k (.int .i64 (-1))))]) (.ret)))
def zgB:AFn:=⟨19,zdL,[.tmp 4],none⟩
def zaD:AC:=.seq (.reg [Bi 10 .lss 9 25]) (.seq (.cond (.t 10) (.skip) (.exit 0)) (.seq (.blk 1 (.seq (.reg [Mv 11 9,iv 12 (.idxA 25 1 false (.t 8) (.t 9)),Mv 4 11,Mv 5 12]) (.reg [Mv 13 4,Bi 14 .rem 13 5,iv 15 (.iadr (some 5) 1 (.t 3) (.t 14)),Ld 16 15,Mv 17 5,Bt 18 .xor 16 17,iv 19 (.iadr (some 5) 1 (.t 3) (.t 14)),Sx 19 18]))) (.reg [Bi 20 .add 9 1,Mv 9 20])))
def zbe:AC:=.seq (.reg [Bi 22 .lss 21 25]) (.seq (.cond (.t 22) (.skip) (.exit 2)) (.seq (.blk 3 (.seq (.reg [Mv 23 21,Mv 6 23]) (.seq (.reg [Mv 24 6,Bi 25 .rem 24 5,Mv 7 25]) (.draw [Dm 26 6,Dv 27 (.iadr (some 25) 1 (.t 1) (.t 26)) [1,26],Dr 28 (.ld 1 false (.t 27)) [27] 0 0,Dm 29 7,Dv 30 (.bin .add (.t 29) (.k (.int .i64 4))) [29],Dv 31 (.bin .rem (.t 30) (.k (.int .i64 5))) [30],Dv 32 (.iadr (some 5) 1 (.t 3) (.t 31)) [3,31],Dr 33 (.ld 1 false (.t 32)) [32] 0 0,Dm 34 7,Dv 35 (.bin .add (.t 34) (.k (.int .i64 1))) [34],Dv 36 (.bin .rem (.t 35) (.k (.int .i64 5))) [35],Dv 37 (.iadr (some 5) 1 (.t 3) (.t 36)) [3,36],Dr 38 (.ld 1 false (.t 37)) [37] 0 0,Dr 39 (.call zbh [.t 38,.k (.int .i64 1)]) [38] 0 0,Dv 40 (.bin .xor (.t 33) (.t 39)) [33,39],Dv 41 (.bin .xor (.t 28) (.t 40)) [28,40],Dv 42 (.iadr (some 25) 1 (.t 1) (.t 26)) [1,26],Dn (.st 1 (.t 42) (.t 41)) [42,41]])))) (.reg [Bi 43 .add 21 1,Mv 21 43])))
def zeq:AC:=.seq (.reg [ic 1 (.box (.t 0)),ic 2 (.alloc (zaV (.int .u64 0) 25))]) (.seq (.reg [ic 3 (.alloc (zaV (.int .u64 0) 5))]) (.seq (.seq (.reg [ir 8 (.ld 25 true (.t 1)),iv 9 (.mv (.k (.int .i64 0)))]) (.blk 0 (.loop zaD))) (.seq (.seq (.reg [iv 21 (.mv (.k (.int .i64 0)))]) (.blk 2 (.loop zbe))) (.seq (.reg [ir 44 (.ld 25 true (.t 1)),jc (.st 25 (.t 2) (.t 44))]) (.ret)))))
def zhe:AFn:=⟨45,zeq,[.cell 2 25 true],none⟩
def zbf:AC:=.seq (.reg [Bi 12 .lss 11 24]) (.seq (.cond (.t 12) (.skip) (.exit 0)) (.seq (.blk 1 (.seq (.reg [Mv 13 11,Mv 6 13]) (.seq (.reg [Mv 14 4,iv 15 (.bin .mul (.k (.int .i64 2)) (.t 14)),Mv 16 5,iv 17 (.bin .mul (.k (.int .i64 3)) (.t 16)),Bt 18 .add 15 17,Bi 19 .rem 18 5,Mv 7 19]) (.seq (.reg [Mv 20 5,Mv 21 7,iv 22 (.bin .mul (.k (.int .i64 5)) (.t 21)),Bt 23 .add 20 22,Mv 24 4,Mv 25 5,iv 26 (.bin .mul (.k (.int .i64 5)) (.t 25)),Bt 27 .add 24 26,iv 28 (.iadr (some 25) 1 (.t 1) (.t 27)),Ld 29 28,Mv 30 6,Bi 31 .add 30 1,Mv 32 6,Bi 33 .add 32 2,Bt 34 .mul 31 33,Bi 35 .quo 34 2,ir 36 (.call zbh [.t 29,.t 35]),iv 37 (.iadr (some 25) 1 (.t 3) (.t 23)),Sx 37 36]) (.reg [Mv 38 5,Mv 39 7,Mv 4 38,Mv 5 39]))))) (.reg [Bi 40 .add 11 1,Mv 11 40])))
def zer:AC:=.seq (.reg [iv 1 (.boxv (.t 0)),ic 2 (.alloc (zaV (.int .u64 0) 25))]) (.seq (.reg [iv 8 (.iadr (some 25) 1 (.t 1) (.k (.int .i64 0))),Ld 9 8,iv 10 (.build (zaV (.int .u64 0) 25) [(0,1,.t 9)]),ic 3 (.alloc (zaV (.int .u64 0) 25)),jc (.st 25 (.t 3) (.t 10))]) (.seq (.reg [iv 4 (.mv (.k (.int .i64 1))),iv 5 (.mv (.k (.int .i64 0)))]) (.seq (.seq (.reg [iv 11 (.mv (.k (.int .i64 0)))]) (.blk 0 (.loop zbf))) (.seq (.reg [ir 41 (.ld 25 true (.t 3)),jc (.st 25 (.t 2) (.t 41))]) (.ret)))))
def zhf:AFn:=⟨42,zer,[.cell 2 25 true],none⟩
def zby:AC:=.seq (.reg [Bi 8 .lss 7 25]) (.seq (.cond (.t 8) (.skip) (.exit 0)) (.seq (.blk 1 (.seq (.reg [Mv 9 7,Mv 4 9]) (.seq (.reg [Mv 10 4,Mv 11 4,Bi 12 .rem 11 5,Bt 13 .sub 10 12,Mv 5 13]) (.draw [Dm 14 4,Dv 15 (.iadr (some 25) 1 (.t 3) (.t 14)) [3,14],Dr 16 (.ld 1 false (.t 15)) [15] 0 0,Dm 17 5,Dm 18 4,Dv 19 (.bin .add (.t 18) (.k (.int .i64 2))) [18],Dv 20 (.bin .rem (.t 19) (.k (.int .i64 5))) [19],Dv 21 (.bin .add (.t 17) (.t 20)) [17,20],Dv 22 (.iadr (some 25) 1 (.t 1) (.t 21)) [1,21],Dr 23 (.ld 1 false (.t 22)) [22] 0 0,Dm 24 5,Dm 25 4,Dv 26 (.bin .add (.t 25) (.k (.int .i64 1))) [25],Dv 27 (.bin .rem (.t 26) (.k (.int .i64 5))) [26],Dv 28 (.bin .add (.t 24) (.t 27)) [24,27],Dv 29 (.iadr (some 25) 1 (.t 1) (.t 28)) [1,28],Dr 30 (.ld 1 false (.t 29)) [29] 0 0,Dv 31 (.bin .andNot (.t 23) (.t 30)) [23,30],Dv 32 (.bin .xor (.t 16) (.t 31)) [16,31],Dv 33 (.iadr (some 25) 1 (.t 3) (.t 14)) [3,14],Dn (.st 1 (.t 33) (.t 32)) [33,32]])))) (.reg [Bi 34 .add 7 1,Mv 7 34])))
def zfv:AC:=.seq (.reg [iv 1 (.boxv (.t 0)),ic 2 (.alloc (zaV (.int .u64 0) 25))]) (.seq (.reg [ir 6 (.ld 25 true (.t 1)),ic 3 (.alloc (zaV (.int .u64 0) 25)),jc (.st 25 (.t 3) (.t 6))]) (.seq (.seq (.reg [iv 7 (.mv (.k (.int .i64 0)))]) (.blk 0 (.loop zby))) (.seq (.reg [ir 35 (.ld 25 true (.t 3)),jc (.st 25 (.t 2) (.t 35))]) (.ret))))
def ziH:AFn:=⟨36,zfv,[.cell 2 25 true],none⟩
def zf2:AC:=.seq (.reg [iv 2 (.mv (.k (.int .u64 0)))]) (.seq (.seq (.reg [Mv 3 0,Bi 4 .lss 3 0,Mv 5 4,Gv 6 (.mv (.t 0)) 5 false [],Gv 7 (.bin .geq (.t 6) (.k (.int .i64 24))) 5 false [],iv 8 (.pick (.t 5) (.k (.bool true)) (.t 7))]) (.cond (.t 8) (.seq (.reg [iv 2 (.mv (.k (.int .u64 0)))]) (.ret)) (.skip))) (.seq (.reg [Mv 9 0,iv 10 (.iadr (some 24) 1 (.g 3) (.t 9)),Ld 11 10,Mv 2 11]) (.ret)))
def zjv:AFn:=⟨12,zf2,[.tmp 2],none⟩
def zb8:AC:=.seq (.reg [iv 6 (.mv (.k (.nsl)))]) (.seq (.seq (.reg [Mv 9 2,iv 10 (.bin .eql (.t 9) (.k (.int .u64 0))),Mv 11 10,Gv 12 (.mv (.t 1)) 11 true [],Gv 13 (.mv (.t 0)) 11 true [],Gv 14 (.nck (.t 13)) 11 true [],Gv 15 (.fadr 0 (.t 14)) 11 true [],Gr 16 (.ld 1 false (.t 15)) 11 true [] 0 0,Gr 17 (.call zju [.t 12,.t 16]) 11 true [] 0 0,Gv 18 (.bin .lss (.t 17) (.k (.int .i64 0))) 11 true [],iv 19 (.pick (.t 11) (.t 18) (.k (.bool false)))]) (.cond (.t 19) (.seq (.reg [Mv 20 1,Mv 6 20]) (.ret)) (.skip))) (.seq (.reg [Mv 22 1,Mv 23 0,Nk 24 23,Fa 25 0 24,Ld 26 25,ir 27 (.call zmt [.t 22,.t 26]),Mv 21 27,Ex 28 21 0,Ex 29 21 1,Mv 7 28,Mv 8 29]) (.seq (.reg [Mv 30 7,Mv 6 30]) (.ret))))
def zh7:AFn:=⟨31,zb8,[.tmp 6],none⟩
def znL:AC:=.seq (.reg [iv 1 (.boxv (.t 0)),iv 2 (.mv (.k (.nilp)))]) (.seq (.reg [iv 6 (.slice (.arr 12) 1 (.t 1) none none none),ir 7 (.call zjm [.t 6]),Mv 5 7,Ex 8 5 0,Ex 9 5 1,Mv 3 8,Mv 4 9]) (.seq (.reg [Mv 10 3,iv 11 (.build [.nilp] [(0,1,.t 10)]),iv 12 (.boxv (.t 11)),Mv 2 12]) (.ret)))
def zss:AFn:=⟨13,znL,[.tmp 2],none⟩
def zlS:AC:=.seq (.reg [ic 0 (.alloc (zaV (.int .u64 0) 12))]) (.seq (.reg [iv 1 (.build (zaV (.int .u64 0) 12) [(0,1,.k (.int .u64 18446744073709551615)),(1,1,.k (.int .u64 17603518614768072224)),(2,1,.k (.int .u64 16466767132611215046)),(3,1,.k (.int .u64 5755940542857986629)),(4,1,.k (.int .u64 3470879405153129527)),(5,1,.k (.int .u64 17263733006627652379)),(6,1,.k (.int .u64 5857503583518590173)),(7,1,.k (.int .u64 147421033984662306)),(8,1,.k (.int .u64 2955010104097229940)),(9,1,.k (.int .u64 14179128828124470481)),(10,1,.k (.int .u64 14488038916154245684)),(11,1,.k (.int .u64 18446744073709551615))]),jc (.st 12 (.t 0) (.t 1))]) (.ret))
def zqJ:AFn:=⟨2,zlS,[.cell 0 12 true],none⟩
def zf4:AC:=.seq (.seq (.reg [Mv 13 5,Bi 14 .geq 13 0]) (.cond (.t 14) (.skip) (.exit 0))) (.seq (.blk 1 (.seq (.reg [Mv 17 0,Mv 18 5,ir 19 (.call zic [.t 17,.t 18]),Mv 20 1,Mv 21 5,ir 22 (.call zic [.t 20,.t 21]),ir 23 (.call zda [.t 19,.t 22]),Mv 6 23]) (.seq (.reg [Mv 24 6,Bi 25 .neq 24 0]) (.cond (.t 25) (.seq (.reg [Mv 26 6,Mv 4 26]) (.ret)) (.skip))))) (.reg [Mv 15 5,Bi 16 .sub 15 1,Mv 5 16]))
def zp7:AC:=.seq (.reg [iv 4 (.mv (.k (.int .i64 0)))]) (.seq (.seq (.reg [Mv 7 0,iv 8 (.lenL (.t 7)),Mv 9 1,iv 10 (.lenL (.t 9)),iv 11 (.mxmn true [.t 8,.t 10]),Bi 12 .sub 11 1,Mv 5 12]) (.blk 0 (.loop zf4))) (.seq (.reg [iv 4 (.mv (.k (.int .i64 0)))]) (.ret)))
def zuF:AFn:=⟨27,zp7,[.tmp 4],none⟩
def zet:AC:=.seq (.reg [iv 2 (.mv (.k (.nsl)))]) (.seq (.reg [Mv 3 0,Nk 4 3,Fa 5 0 4,Ld 6 5,ir 7 (.call zaQ [.t 6]),Mv 2 7]) (.ret))
def zhh:AFn:=⟨8,zet,[.tmp 2],none⟩
def zsx:AC:=.seq (.reg [iv 4 (.boxv (.t 1)),iv 5 (.boxv (.t 2)),ic 6 (.alloc (zaV (.int .u64 0) 12))]) (.seq (.draw [Dm 7 0,Dv 8 (.slice (.arr 12) 1 (.t 4) none none none) [4],Dv 9 (.slice (.arr 12) 1 (.t 5) none none none) [5],Dc 10 (.callv (.t 7) [.t 8,.t 9]) [7,8,9],Dv 11 (.s2a 12 (.t 10)) [10],Dr 12 (.ld 12 true (.t 11)) [11] 1 1,Dn (.st 12 (.t 6) (.t 12)) [6,12]]) (.ret))
def zxv:AFn:=⟨13,zsx,[.cell 6 12 true],none⟩
def zbc:AC:=.seq (.seq (.reg [Mv 38 10,Bi 39 .geq 38 0]) (.cond (.t 39) (.skip) (.exit 0))) (.seq (.blk 1 (.seq (.reg [Mv 42 0,Mv 43 9,Mv 44 9,ir 45 (.call zaH [.t 42,.t 43,.t 44]),Mv 9 45]) (.seq (.reg [Mv 46 2,Mv 47 10,Bi 48 .quo 47 64,Ia 49 46 48,Ld 50 49,Mv 51 10,Bi 52 .rem 51 64,Bt 53 .shr 50 52,iv 54 (.bin .and (.t 53) (.k (.int .u64 1))),iv 55 (.bin .eql (.t 54) (.k (.int .u64 1)))]) (.cond (.t 55) (.reg [Mv 56 0,Mv 57 9,Mv 58 8,ir 59 (.call zaH [.t 56,.t 57,.t 58]),Mv 9 59]) (.skip))))) (.reg [Mv 40 10,Bi 41 .sub 40 1,Mv 10 41]))
def zfw:AC:=.seq (.reg [iv 6 (.mv (.k (.nsl)))]) (.seq (.reg [Mv 11 0,Nk 12 11,Fa 13 0 12,Ld 14 13,iv 15 (.lenL (.t 14)),ic 16 (.mk 1 [.int .u64 0] (.t 15)),Mv 7 16]) (.seq (.reg [Mv 17 7,iv 18 (.iadr none 1 (.t 17) (.k (.int .i64 0))),jc (.st 1 (.t 18) (.k (.int .u64 1)))]) (.seq (.draw [Dm 19 0,Dm 20 0,Dm 21 1,Dr 22 (.call zbC [.t 20,.t 21]) [20,21] 0 0,Dm 23 0,Dv 24 (.nck (.t 23)) [23],Dv 25 (.fadr 2 (.t 24)) [24],Dr 26 (.ld 1 false (.t 25)) [25] 0 0,Dr 27 (.call zaH [.t 19,.t 22,.t 26]) [19,22,26] 0 0,Dm 28 0,Dm 29 7,Dm 30 0,Dv 31 (.nck (.t 30)) [30],Dv 32 (.fadr 2 (.t 31)) [31],Dr 33 (.ld 1 false (.t 32)) [32] 0 0,Dr 34 (.call zaH [.t 28,.t 29,.t 33]) [28,29,33] 0 0,Dm 8 27,Dm 9 34]) (.seq (.seq (.reg [Mv 35 2,ir 36 (.call zf1 [.t 35]),Bi 37 .sub 36 1,Mv 10 37]) (.blk 0 (.loop zbc))) (.seq (.reg [Mv 60 0,Mv 61 9,Mv 62 7,ir 63 (.call zaH [.t 60,.t 61,.t 62]),Mv 6 63]) (.ret))))))
def ziI:AFn:=⟨64,zfw,[.tmp 6],none⟩
def zp8:AC:=.seq (.reg [Bt 21 .lss 20 19]) (.seq (.cond (.t 21) (.skip) (.exit 2)) (.seq (.blk 3 (.seq (.reg [Ia 22 18 20,Ld 23 22,Mv 6 23]) (.seq (.reg [Mv 24 3,Mv 25 6,Bt 26 .quo 24 25,Bi 27 .rem 26 2,Bi 28 .eql 27 1]) (.cond (.t 28) (.reg [Mv 29 3,Mv 30 6,Bt 31 .sub 29 30,Mv 3 31]) (.reg [Mv 32 3,Mv 33 6,Bt 34 .add 32 33,Mv 3 34]))))) (.reg [Bi 35 .add 20 1,Mv 20 35])))
def zp9:AC:=.seq (.seq (.reg [Mv 7 4,Mv 8 0,Bt 9 .lss 7 8]) (.cond (.t 9) (.skip) (.exit 0))) (.seq (.blk 1 (.seq (.reg [Mv 12 3,Bi 13 .mul 12 2,Mv 3 13]) (.seq (.reg [Mv 14 3,Bi 15 .geq 14 256]) (.cond (.t 15) (.seq (.reg [Mv 16 3,Bi 17 .sub 16 256,Mv 3 17]) (.seq (.reg [iv 18 (.slit 1 4 [.int .i64 0] [(0,.k (.int .i64 64)),(1,.k (.int .i64 32)),(2,.k (.int .i64 16)),(3,.k (.int .i64 1))]),iv 19 (.lenL (.t 18)),iv 20 (.mv (.k (.int .i64 0)))]) (.blk 2 (.loop zp8)))) (.skip))))) (.reg [Mv 10 4,Bi 11 .add 10 1,Mv 4 11]))
def zrc:AC:=.seq (.reg [iv 2 (.mv (.k (.bool false)))]) (.seq (.reg [iv 3 (.mv (.k (.int .i64 1)))]) (.seq (.seq (.reg [iv 4 (.mv (.k (.int .i64 0)))]) (.blk 0 (.loop zp9))) (.seq (.reg [Mv 36 3,Bi 37 .rem 36 2,Bi 38 .eql 37 1,Mv 2 38]) (.ret))))
def zkN:AFn:=⟨39,zrc,[.tmp 2],none⟩
def zcY:AC:=.seq (.reg [iv 4 (.mv (.k (.int .u64 0)))]) (.seq (.reg [Mv 6 1,iv 7 (.i2i .u64 (.t 6)),iv 8 (.bin .and (.t 7) (.k (.int .u64 63))),Mv 5 8]) (.seq (.reg [Mv 9 0,Mv 10 5,Bt 11 .shl 9 10,Mv 12 0,Mv 13 5,iv 14 (.bin .sub (.k (.int .u64 64)) (.t 13)),Bt 15 .shr 12 14,Bt 16 .or 11 15,Mv 4 16]) (.ret)))
def zfe:AFn:=⟨17,zcY,[.tmp 4],none⟩
def zqc:AC:=.seq (.reg [iv 4 (.mv (.k (.nsl))),iv 5 (.mv (.k (.int .u64 0)))]) (.seq (.reg [Mv 6 0,Mv 7 1,ir 8 (.call zkl [.t 6,.t 7,.k (.fn (.func zb2) [] [])]),Ex 9 8 0,Ex 10 8 1,Mv 4 9,Mv 5 10]) (.ret))
def zuH:AFn:=⟨11,zqc,[.tmp 4,.tmp 5],none⟩
def zb9:AC:=.seq (.reg [iv 4 (.mv (.k (.int .i64 0)))]) (.seq (.reg [Mv 7 0,ir 8 (.call zcZ [.t 7]),Mv 5 8]) (.seq (.reg [Mv 9 1,ir 10 (.call zcZ [.t 9]),Mv 6 10]) (.seq (.seq (.reg [Mv 11 5]) (.cond (.t 11) (.seq (.seq (.reg [Mv 12 6]) (.cond (.t 12) (.seq (.reg [iv 4 (.mv (.k (.int .i64 0)))]) (.ret)) (.skip))) (.seq (.reg [iv 4 (.mv (.k (.int .i64 (-1))))]) (.ret))) (.skip))) (.seq (.seq (.reg [Mv 13 6]) (.cond (.t 13) (.seq (.reg [iv 4 (.mv (.k (.int .i64 1)))]) (.ret)) (.skip))) (.seq (.seq (.reg [Mv 14 0,Mv 15 1,Bt 16 .lss 14 15]) (.cond (.t 16) (.seq (.reg [iv 4 (.mv (.k (.int .i64 (-1))))]) (.ret)) (.skip))) (.seq (.seq (.reg [Mv 17 0,Mv 18 1,Bt 19 .gtr 17 18]) (.cond (.t 19) (.seq (.reg [iv 4 (.mv (.k (.int .i64 1)))]) (.ret)) (.skip))) (.seq (.reg [iv 4 (.mv (.k (.int .i64 0)))]) (.ret))))))))
def zh9:AFn:=⟨20,zb9,[.tmp 4],none⟩
def zo8:AC:=.seq (.reg [iv 4 (.mv (.k (.int .u64 0)))]) (.seq (.seq (.reg [Mv 5 1,Mv 6 0,iv 7 (.lenL (.t 6)),Bt 8 .lss 5 7]) (.cond (.t 8) (.seq (.reg [Mv 9 0,Mv 10 1,Ia 11 9 10,Ld 12 11,Mv 4 12]) (.ret)) (.skip))) (.seq (.reg [iv 4 (.mv (.k (.int .u64 0)))]) (.ret)))
def zxC:AFn:=⟨13,zo8,[.tmp 4],none⟩
def zao:AC:=.seq (.reg [Bt 34 .lss 33 32]) (.seq (.cond (.t 34) (.skip) (.exit 2)) (.seq (.blk 3 (.seq (.reg [Mv 35 33,Ia 36 31 33,Ld 37 36,Mv 13 35,Mv 14 37]) (.reg [Mv 39 8,Mv 40 13,Mv 41 8,Mv 42 13,Ia 43 41 42,Ld 44 43,Mv 45 10,Mv 46 14,Mv 47 11,ir 48 (.call zga [.t 44,.t 45,.t 46,.t 47]),Mv 38 48,Ex 49 38 0,Ex 50 38 1,Ia 51 39 40,Sx 51 49,Mv 11 50]))) (.reg [Bi 52 .add 33 1,Mv 33 52])))
def zaE:AC:=.seq (.seq (.reg [Mv 92 16,Mv 93 7,Bt 94 .lss 92 93]) (.cond (.t 94) (.skip) (.exit 4))) (.seq (.blk 5 (.draw [Dm 98 8,Dm 99 16,Dv 100 (.bin .sub (.t 99) (.k (.int .i64 1))) [99],Dm 101 8,Dm 102 16,Dv 103 (.iadr none 1 (.t 101) (.t 102)) [101,102],Dr 104 (.ld 1 false (.t 103)) [103] 0 0,Dm 105 15,Dm 106 0,Dv 107 (.nck (.t 106)) [106],Dv 108 (.fadr 0 (.t 107)) [107],Dr 109 (.ld 1 false (.t 108)) [108] 0 0,Dm 110 16,Dv 111 (.iadr none 1 (.t 109) (.t 110)) [109,110],Dr 112 (.ld 1 false (.t 111)) [111] 0 0,Dm 113 11,Dr 114 (.call zga [.t 104,.t 105,.t 112,.t 113]) [104,105,112,113] 0 0,Dm 97 114,Dv 115 (.ext (.t 97) 0) [97],Dv 116 (.ext (.t 97) 1) [97],Dv 117 (.iadr none 1 (.t 98) (.t 100)) [98,100],Dn (.st 1 (.t 117) (.t 115)) [117,115],Dm 11 116])) (.reg [Mv 95 16,Bi 96 .add 95 1,Mv 16 96]))
def zaz:AC:=.seq (.reg [Bt 28 .lss 27 26]) (.seq (.cond (.t 28) (.skip) (.exit 0)) (.seq (.blk 1 (.seq (.reg [Ia 29 25 27,Ld 30 29,Mv 10 30]) (.seq (.reg [iv 11 (.mv (.k (.int .u64 0))),iv 12 (.mv (.k (.int .u64 0)))]) (.seq (.seq (.reg [Mv 31 2,iv 32 (.lenL (.t 31)),iv 33 (.mv (.k (.int .i64 0)))]) (.blk 2 (.loop zao))) (.seq (.reg [Mv 54 8,Mv 55 7,Mv 56 8,Mv 57 7,Ia 58 56 57,Ld 59 58,Mv 60 11,ic 61 (.call zaJ [.t 59,.t 60,.k (.int .u64 0)]),Mv 53 61,Ex 62 53 0,Ex 63 53 1,Ia 64 54 55,Sx 64 62,Mv 12 63]) (.seq (.reg [Mv 65 8,Mv 66 7,Bi 67 .add 66 1,Mv 68 12,Ia 69 65 67,Sx 69 68]) (.seq (.draw [Dm 70 8,Dv 71 (.iadr none 1 (.t 70) (.k (.int .i64 0))) [70],Dr 72 (.ld 1 false (.t 71)) [71] 0 0,Dm 73 0,Dv 74 (.nck (.t 73)) [73],Dv 75 (.fadr 1 (.t 74)) [74],Dr 76 (.ld 1 false (.t 75)) [75] 0 0,Dv 77 (.bin .mul (.t 72) (.t 76)) [72,76],Dm 15 77]) (.seq (.draw [Dm 79 8,Dv 80 (.iadr none 1 (.t 79) (.k (.int .i64 0))) [79],Dr 81 (.ld 1 false (.t 80)) [80] 0 0,Dm 82 15,Dm 83 0,Dv 84 (.nck (.t 83)) [83],Dv 85 (.fadr 0 (.t 84)) [84],Dr 86 (.ld 1 false (.t 85)) [85] 0 0,Dv 87 (.iadr none 1 (.t 86) (.k (.int .i64 0))) [86],Dr 88 (.ld 1 false (.t 87)) [87] 0 0,Dr 89 (.call zga [.t 81,.t 82,.t 88,.k (.int .u64 0)]) [81,82,88] 0 0,Dm 78 89,Dv 90 (.ext (.t 78) 0) [78],Dv 91 (.ext (.t 78) 1) [78],Dm 11 91]) (.seq (.seq (.reg [iv 16 (.mv (.k (.int .i64 1)))]) (.blk 4 (.loop zaE))) (.seq (.reg [Mv 119 8,Mv 120 7,Bi 121 .sub 120 1,Mv 122 8,Mv 123 7,Ia 124 122 123,Ld 125 124,Mv 126 11,ic 127 (.call zaJ [.t 125,.t 126,.k (.int .u64 0)]),Mv 118 127,Ex 128 118 0,Ex 129 118 1,Ia 130 119 121,Sx 130 128,Mv 12 129]) (.reg [Mv 131 8,Mv 132 7,Mv 133 8,Mv 134 7,Bi 135 .add 134 1,Ia 136 133 135,Ld 137 136,Mv 138 12,Bt 139 .add 137 138,Ia 140 131 132,Sx 140 139]))))))))))) (.reg [Bi 141 .add 27 1,Mv 27 141])))
def zdN:AC:=.seq (.reg [iv 6 (.mv (.k (.nsl)))]) (.seq (.reg [Mv 17 0,Nk 18 17,Fa 19 0 18,Ld 20 19,iv 21 (.lenL (.t 20)),Mv 7 21]) (.seq (.reg [Mv 22 7,Bi 23 .add 22 2,ic 24 (.mk 1 [.int .u64 0] (.t 23)),Mv 8 24]) (.seq (.seq (.reg [Mv 25 1,iv 26 (.lenL (.t 25)),iv 27 (.mv (.k (.int .i64 0)))]) (.blk 0 (.loop zaz))) (.seq (.draw [Dm 142 0,Dm 143 8,Dm 144 7,Dv 145 (.slice .slc 1 (.t 143) none (some (.t 144)) none) [143,144],Dm 146 8,Dm 147 7,Dv 148 (.iadr none 1 (.t 146) (.t 147)) [146,147],Dr 149 (.ld 1 false (.t 148)) [148] 0 0,Dr 150 (.call zbx [.t 142,.t 145,.t 149]) [142,145,149] 0 0,Dm 6 150]) (.ret)))))
def zgE:AFn:=⟨151,zdN,[.tmp 6],none⟩
def zff:AC:=.seq (.reg [Bt 20 .lss 19 18]) (.seq (.cond (.t 20) (.skip) (.exit 0)) (.seq (.blk 1 (.seq (.reg [Mv 21 19,Mv 10 21]) (.reg [Mv 23 8,Mv 24 10,Mv 25 2,Mv 26 0,Mv 27 10,ir 28 (.call zic [.t 26,.t 27]),Mv 29 1,Mv 30 10,ir 31 (.call zic [.t 29,.t 30]),Mv 32 9,ic 33 (.callv (.t 25) [.t 28,.t 31,.t 32]),Mv 22 33,Ex 34 22 0,Ex 35 22 1,Ia 36 23 24,Sx 36 34,Mv 9 35]))) (.reg [Bi 37 .add 19 1,Mv 19 37])))
def znO:AC:=.seq (.reg [iv 6 (.mv (.k (.nsl))),iv 7 (.mv (.k (.int .u64 0)))]) (.seq (.reg [Mv 11 0,iv 12 (.lenL (.t 11)),Mv 13 1,iv 14 (.lenL (.t 13)),iv 15 (.mxmn true [.t 12,.t 14]),ic 16 (.mk 1 [.int .u64 0] (.t 15)),Mv 8 16]) (.seq (.reg [iv 9 (.mv (.k (.int .u64 0)))]) (.seq (.seq (.reg [Mv 17 8,iv 18 (.lenL (.t 17)),iv 19 (.mv (.k (.int .i64 0)))]) (.blk 0 (.loop zff))) (.seq (.reg [Mv 38 8,Mv 39 9,Mv 6 38,Mv 7 39]) (.ret)))))
def zsG:AFn:=⟨40,znO,[.tmp 6,.tmp 7],none⟩
def zf8:AC:=.seq (.reg [iv 2 (.mv (.k (.bool false)))]) (.seq (.reg [Mv 3 0,Mv 4 0,Bt 5 .neq 3 4,Mv 2 5]) (.ret))
def zjz:AFn:=⟨6,zf8,[.tmp 2],none⟩
def znQ:AC:=.seq (.reg [iv 8 (.mv (.k (.int .u64 0))),iv 9 (.mv (.k (.int .u64 0)))]) (.seq (.reg [Mv 14 1,Mv 15 2,ir 16 (.call zcX [.t 14,.t 15]),Mv 13 16,Ex 17 13 0,Ex 18 13 1,Mv 10 17,Mv 11 18]) (.seq (.reg [Mv 20 11,Mv 21 0,ic 22 (.call zaJ [.t 20,.t 21,.k (.int .u64 0)]),Mv 19 22,Ex 23 19 0,Ex 24 19 1,Mv 11 23,Mv 12 24]) (.seq (.reg [Mv 25 10,Mv 26 12,Bt 27 .add 25 26,Mv 10 27]) (.seq (.reg [Mv 29 11,Mv 30 3,ic 31 (.call zaJ [.t 29,.t 30,.k (.int .u64 0)]),Mv 28 31,Ex 32 28 0,Ex 33 28 1,Mv 11 32,Mv 12 33]) (.seq (.reg [Mv 34 11,Mv 35 10,Mv 36 12,Bt 37 .add 35 36,Mv 8 34,Mv 9 37]) (.ret))))))
def zsJ:AFn:=⟨38,znQ,[.tmp 8,.tmp 9],none⟩
def zca:AC:=.seq (.reg [Mv 2 0,ic 3 (.call zaG [.t 2])]) (.seq (.draw [Dm 4 0,Dv 5 (.nck (.t 4)) [4],Dv 6 (.fadr 1 (.t 5)) [5],Dr 7 (.ld 1 false (.t 6)) [6] 0 0,Dm 8 0,Dv 9 (.nck (.t 8)) [8],Dv 10 (.fadr 0 (.t 9)) [9],Dr 11 (.ld 1 false (.t 10)) [10] 0 0,Dr 12 (.inv (.t 11) "Rate" []) [11] 0 0,Dv 13 (.slice .slc 1 (.t 7) none (some (.t 12)) none) [7,12],Dn (.clear [.int .u8 0] (.t 13)) [13]]) (.reg [Mv 14 0,Mv 15 0,Nk 16 15,Fa 17 0 16,Ld 18 17,ir 19 (.inv (.t 18) "Rate" []),Nk 20 14,Fa 21 3 20,Sx 21 19]))
def zdP:AFn:=⟨22,zca,[],none⟩
def zcb:AC:=.seq (.draw [Dm 2 0,Dv 3 (.nck (.t 2)) [2],Dv 4 (.fadr 0 (.t 3)) [3],Dr 5 (.ld 1 false (.t 4)) [4] 0 0,Dm 6 0,Dv 7 (.nck (.t 6)) [6],Dv 8 (.fadr 1 (.t 7)) [7],Dr 9 (.ld 1 false (.t 8)) [8] 0 0,Dv 10 (.nck (.t 5)) [5],Dm 11 5,Dc 12 (.inv (.t 11) "Permute" [.t 9]) [11,9]]) (.seq (.reg [Mv 13 0,Nk 14 13,Fa 15 4 14,Ld 16 15,Bi 17 .add 16 1,Nk 18 13,Fa 19 4 18,Sx 19 17]) (.reg [Mv 20 0,Nk 21 20,Fa 22 2 21,jc (.st 1 (.t 22) (.k (.int .i64 0)))]))
def zdR:AFn:=⟨23,zcb,[],none⟩
def zcl:AC:=.seq (.reg [iv 2 (.boxv (.t 0)),iv 4 (.mv (.k (.nsl)))]) (.seq (.reg [Fa 5 0 2,Ld 6 5,Mv 7 1,ic 8 (.call zaU [.t 6,.t 7]),Mv 4 8]) (.ret))
def zei:AFn:=⟨9,zcl,[.tmp 4],none⟩
def zcc:AC:=.seq (.reg [iv 2 (.boxv (.t 0)),iv 4 (.mv (.k (.nsl))),iv 5 (.mv (.k (.int .i64 0)))]) (.seq (.reg [Mv 10 1,ir 11 (.ld 1 true (.t 2)),iv 12 (.mkfn (.func za3) [.t 11] []),ic 13 (.call zfB [.t 10,.t 12]),Mv 9 13,Ex 14 9 0,Ex 15 9 1,Ex 16 9 2,Mv 6 14,Mv 7 15,Mv 8 16]) (.seq (.reg [Mv 17 6,Mv 18 8,Mv 4 17,Mv 5 18]) (.ret)))
def zdS:AFn:=⟨19,zcc,[.tmp 4,.tmp 5],none⟩
def zcH:AC:=.seq (.reg [iv 2 (.boxv (.t 0)),iv 3 (.boxv (.t 1))]) (.draw [Dv 4 (.fadr 0 (.t 2)) [2],Dr 5 (.ld 1 false (.t 4)) [4] 0 0,Dr 6 (.ld 4 true (.t 3)) [3] 0 0,Dr 7 (.call zeS [.t 6]) [6] 0 0,Dc 8 (.call zbv [.t 5,.t 7]) [5,7]])
def zeG:AFn:=⟨9,zcH,[],none⟩
def zaN:AC:=.seq (.reg [Bt 9 .lss 8 7]) (.seq (.cond (.t 9) (.skip) (.exit 0)) (.seq (.blk 1 (.seq (.seq (.draw [Dm 10 0,Dv 11 (.nck (.t 10)) [10],Dv 12 (.fadr 3 (.t 11)) [11],Dr 13 (.ld 1 false (.t 12)) [12] 0 0,Dm 14 0,Dv 15 (.nck (.t 14)) [14],Dv 16 (.fadr 0 (.t 15)) [15],Dr 17 (.ld 1 false (.t 16)) [16] 0 0,Dr 18 (.inv (.t 17) "Rate" []) [17] 0 0,Dv 19 (.bin .eql (.t 13) (.t 18)) [13,18]]) (.cond (.t 19) (.seq (.reg [Mv 20 0,ic 21 (.call zaG [.t 20])]) (.reg [Mv 22 0,Nk 23 22,Fa 24 3 23,jc (.st 1 (.t 24) (.k (.int .i64 0)))])) (.skip))) (.seq (.draw [Dm 25 5,Dm 26 0,Dv 27 (.nck (.t 26)) [26],Dv 28 (.fadr 1 (.t 27)) [27],Dr 29 (.ld 1 false (.t 28)) [28] 0 0,Dm 30 0,Dv 31 (.nck (.t 30)) [30],Dv 32 (.fadr 3 (.t 31)) [31],Dr 33 (.ld 1 false (.t 32)) [32] 0 0,Dv 34 (.iadr none 1 (.t 29) (.t 33)) [29,33],Dr 35 (.ld 1 false (.t 34)) [34] 0 0,Dv 36 (.slit 1 1 [.int .u8 0] [(0,.t 35)]) [35],Dc 37 (.app 1 false (.t 25) (.t 36)) [25,36],Dm 5 37]) (.reg [Mv 38 0,Nk 39 38,Fa 40 3 39,Ld 41 40,Bi 42 .add 41 1,Nk 43 38,Fa 44 3 43,Sx 44 42])))) (.reg [Bi 45 .add 8 1,Mv 8 45])))
def zcd:AC:=.seq (.reg [iv 4 (.mv (.k (.nsl)))]) (.seq (.reg [iv 5 (.mv (.k (.nsl)))]) (.seq (.seq (.reg [Mv 6 1,iv 7 (.mxmn true [.t 6,.k (.int .i64 0)]),iv 8 (.mv (.k (.int .i64 0)))]) (.blk 0 (.loop zaN))) (.seq (.reg [Mv 46 5,Mv 4 46]) (.ret))))
def zdT:AFn:=⟨47,zcd,[.tmp 4],none⟩
def zdh:AC:=.seq (.reg [Bt 15 .lss 14 13]) (.seq (.cond (.t 15) (.skip) (.exit 0)) (.seq (.blk 1 (.seq (.reg [Mv 17 1,ic 18 (.call zgf [.t 17]),Mv 16 18,Ex 19 16 0,Ex 20 16 1,Ex 21 16 2,ic 9 (.alloc (zaV (.int .u64 0) 4)),jc (.st 4 (.t 9) (.t 19)),Mv 10 20,Mv 11 21]) (.seq (.reg [Mv 22 8,Mv 23 10,Bt 24 .add 22 23,Mv 8 24]) (.seq (.seq (.reg [Mv 25 11,Bi 26 .neq 25 0]) (.cond (.t 26) (.seq (.reg [Mv 27 8,Mv 28 11,iv 4 (.mv (.k (.nsl))),Mv 5 27,Mv 6 28]) (.ret)) (.skip))) (.reg [Mv 29 7,ir 30 (.ld 4 true (.t 9)),iv 31 (.slit 4 1 (zaV (.int .u64 0) 4) [(0,.t 30)]),ic 32 (.app 4 false (.t 29) (.t 31)),Mv 7 32]))))) (.reg [Bi 33 .add 14 1,Mv 14 33])))
def zib:AC:=.seq (.reg [iv 4 (.mv (.k (.nsl))),iv 5 (.mv (.k (.int .i64 0))),iv 6 (.mv (.k (.int .i64 0)))]) (.seq (.reg [iv 7 (.mv (.k (.nsl)))]) (.seq (.reg [iv 8 (.mv (.k (.int .i64 0)))]) (.seq (.seq (.reg [Mv 12 0,iv 13 (.mxmn true [.t 12,.k (.int .i64 0)]),iv 14 (.mv (.k (.int .i64 0)))]) (.blk 0 (.loop zdh))) (.seq (.reg [Mv 34 7,Mv 35 8,Mv 4 34,Mv 5 35,iv 6 (.mv (.k (.int .i64 0)))]) (.ret)))))
def zl4:AFn:=⟨36,zib,[.tmp 4,.tmp 5,.tmp 6],none⟩
def zcm:AC:=.seq (.reg [iv 1 (.boxv (.t 0)),ic 2 (.alloc (zaV (.int .u8 0) 32))]) (.seq (.reg [Fa 3 0 1,Ld 4 3,ic 5 (.call zaU [.t 4,.k (.int .i64 32)]),iv 6 (.s2a 32 (.t 5)),ir 7 (.ld 32 true (.t 6)),jc (.st 32 (.t 2) (.t 7))]) (.ret))
def zej:AFn:=⟨8,zcm,[.cell 2 32 true],none⟩
def zaR:AC:=.seq (.reg [Bt 15 .lss 14 13]) (.seq (.cond (.t 15) (.skip) (.exit 0)) (.seq (.blk 1 (.seq (.reg [Ia 16 12 14,Ld 17 16,Mv 6 17]) (.seq (.seq (.reg [Mv 18 0,Nk 19 18,Fa 20 2 19,Ld 21 20,Mv 22 4,Bt 23 .eql 21 22]) (.cond (.t 23) (.reg [Mv 24 0,ic 25 (.call zaG [.t 24])]) (.skip))) (.seq (.draw [Dm 26 0,Dv 27 (.nck (.t 26)) [26],Dv 28 (.fadr 1 (.t 27)) [27],Dr 29 (.ld 1 false (.t 28)) [28] 0 0,Dm 30 0,Dv 31 (.nck (.t 30)) [30],Dv 32 (.fadr 2 (.t 31)) [31],Dr 33 (.ld 1 false (.t 32)) [32] 0 0,Dm 34 6,Dv 35 (.iadr none 1 (.t 29) (.t 33)) [29,33],Dn (.st 1 (.t 35) (.t 34)) [35,34]]) (.seq (.reg [Mv 36 0,Nk 37 36,Fa 38 2 37,Ld 39 38,Bi 40 .add 39 1,Nk 41 36,Fa 42 2 41,Sx 42 40]) (.reg [Mv 43 0,Mv 44 4,Nk 45 43,Fa 46 3 45,Sx 46 44])))))) (.reg [Bi 47 .add 14 1,Mv 14 47])))
def zcn:AC:=.seq (.reg [Mv 7 0,Nk 8 7,Fa 9 0 8,Ld 10 9,ir 11 (.inv (.t 10) "Rate" []),Mv 4 11]) (.seq (.reg [Mv 12 1,iv 13 (.lenL (.t 12)),iv 14 (.mv (.k (.int .i64 0)))]) (.blk 0 (.loop zaR)))
def zek:AFn:=⟨48,zcn,[],none⟩
def zdd:AC:=.seq (.reg [iv 1 (.boxv (.t 0)),iv 2 (.mv (.k (.nsl)))]) (.seq (.seq (.reg [ir 4 (.ld 4 true (.t 1)),ir 5 (.call zec [.t 4]),iv 6 (.un .not (.t 5))]) (.cond (.t 6) (.seq (.reg [iv 2 (.mv (.k (.nsl)))]) (.ret)) (.skip))) (.seq (.reg [Fa 7 0 1,Ld 8 7,iv 9 (.i2i .u8 (.t 8)),Fa 10 1 1,Ld 11 10,iv 12 (.i2i .u8 (.t 11)),Fa 13 2 1,Ld 14 13,iv 15 (.i2i .u8 (.t 14)),Fa 16 2 1,Ld 17 16,iv 18 (.bin .shr (.t 17) (.k (.int .u64 8))),iv 19 (.i2i .u8 (.t 18)),Fa 20 2 1,Ld 21 20,iv 22 (.bin .shr (.t 21) (.k (.int .u64 16))),iv 23 (.i2i .u8 (.t 22)),Fa 24 2 1,Ld 25 24,iv 26 (.bin .shr (.t 25) (.k (.int .u64 24))),iv 27 (.i2i .u8 (.t 26)),iv 28 (.slit 1 6 [.int .u8 0] [(0,.t 9),(1,.t 12),(2,.t 15),(3,.t 19),(4,.t 23),(5,.t 27)]),Mv 3 28]) (.seq (.reg [Mv 29 3,Fa 30 3 1,Ld 31 30,ic 32 (.app 1 false (.t 29) (.t 31)),Mv 2 32]) (.ret))))
def zkz:AFn:=⟨33,zdd,[.tmp 2],none⟩
def zdA:AC:=.seq (.reg [Bi 10 .lss 9 64]) (.seq (.cond (.t 10) (.skip) (.exit 0)) (.seq (.blk 1 (.seq (.reg [Mv 11 9,Mv 5 11]) (.seq (.reg [Mv 12 0,ic 13 (.callv (.t 12) []),ir 14 (.call zhw [.t 13]),ic 6 (.alloc (zaV (.int .u8 0) 32)),jc (.st 32 (.t 6) (.t 14))]) (.seq (.reg [iv 16 (.slice (.arr 32) 1 (.t 6) none none none),ir 17 (.call zb0 [.t 16]),Mv 15 17,Ex 18 15 0,Ex 19 15 1,ic 7 (.alloc (zaV (.int .u64 0) 4)),jc (.st 4 (.t 7) (.t 18)),Mv 8 19]) (.seq (.reg [Mv 20 8,Bi 21 .eql 20 0]) (.cond (.t 21) (.seq (.reg [ir 22 (.ld 4 true (.t 7)),Mv 23 5,Bi 24 .add 23 1,jc (.st 4 (.t 2) (.t 22)),Mv 3 24,iv 4 (.mv (.k (.int .i64 0)))]) (.ret)) (.skip))))))) (.reg [Bi 25 .add 9 1,Mv 9 25])))
def ziP:AC:=.seq (.reg [ic 2 (.alloc (zaV (.int .u64 0) 4)),iv 3 (.mv (.k (.int .i64 0))),iv 4 (.mv (.k (.int .i64 0)))]) (.seq (.seq (.reg [iv 9 (.mv (.k (.int .i64 0)))]) (.blk 0 (.loop zdA))) (.seq (.reg [iv 26 (.build (zaV (.int .u64 0) 4) []),jc (.st 4 (.t 2) (.t 26)),iv 3 (.mv (.k (.int .i64 64))),iv 4 (.mv (.k (.int .i64 11)))]) (.ret)))
def zm8:AFn:=⟨27,ziP,[.cell 2 4 true,.tmp 3,.tmp 4],none⟩
def zbY:AC:=.seq (.reg [iv 1 (.boxv (.t 0)),iv 2 (.mv (.k (.bool false)))]) (.seq (.seq (.reg [Fa 5 0 1,Ld 6 5,Fa 7 1 1,Ld 8 7,Fa 9 2 1,Ld 10 9,iv 11 (.build [.int .i64 0,.int .i64 0,.int .i64 0,.str ⟨#[]⟩] [(0,1,.t 6),(1,1,.t 8),(2,1,.t 10)]),ir 12 (.call zdH [.t 11]),Bi 13 .neq 12 0]) (.cond (.t 13) (.seq (.reg [iv 2 (.mv (.k (.bool false)))]) (.ret)) (.skip))) (.seq (.seq (.reg [Fa 14 0 1,Ld 15 14,Bi 16 .neq 15 1]) (.cond (.t 16) (.seq (.reg [Fa 17 3 1,Ld 18 17,iv 19 (.lenL (.t 18)),Bi 20 .eql 19 0,Mv 2 20]) (.ret)) (.skip))) (.seq (.reg [Fa 22 1 1,Ld 23 22,Fa 24 3 1,Ld 25 24,ir 26 (.call zdo [.t 23,.t 25]),Mv 21 26,Ex 27 21 0,Ex 28 21 1,Mv 3 27,Mv 4 28]) (.seq (.reg [Mv 29 3,Fa 30 2 1,Ld 31 30,Bt 32 .eql 29 31,Mv 33 32,Gv 34 (.fadr 1 (.t 1)) 33 true [],Gr 35 (.ld 1 false (.t 34)) 33 true [] 0 0,Gv 36 (.fadr 3 (.t 1)) 33 true [],Gr 37 (.ld 1 false (.t 36)) 33 true [] 0 0,Gr 38 (.call zeJ [.t 35,.t 37]) 33 true [] 0 0,Gv 39 (.bin .eql (.t 38) (.k (.int .i64 0))) 33 true [],iv 40 (.pick (.t 33) (.t 39) (.k (.bool false))),Mv 2 40]) (.ret)))))
def zi7:AFn:=⟨41,zbY,[.tmp 2],none⟩
def zjR:AC:=.seq (.reg [ic 1 (.box (.t 0)),ic 2 (.alloc (zaV (.int .u8 0) 32))]) (.seq (.reg [iv 3 (.iadr (some 32) 1 (.t 1) (.k (.int .i64 31))),Ld 4 3,iv 5 (.bin .and (.t 4) (.k (.int .u8 63))),iv 6 (.iadr (some 32) 1 (.t 1) (.k (.int .i64 31))),Sx 6 5]) (.seq (.reg [ir 7 (.ld 32 true (.t 1)),jc (.st 32 (.t 2) (.t 7))]) (.ret)))
def zoj:AFn:=⟨8,zjR,[.cell 2 32 true],none⟩
def zok:AC:=.seq (.reg [ic 2 (.alloc (zaV (.int .u64 0) 4))]) (.seq (.reg [Mv 3 0,iv 4 (.build (zaV (.int .u64 0) 4) [(0,1,.t 3)]),ir 5 (.call zd2 [.t 4]),jc (.st 4 (.t 2) (.t 5))]) (.ret))
def zix:AFn:=⟨6,zok,[.cell 2 4 true],none⟩
def zdp:AC:=.seq (.reg [iv 2 (.boxv (.t 0))]) (.seq (.reg [Mv 8 1,ir 9 (.call zeT [.t 8]),Mv 7 9,Ex 10 7 0,Ex 11 7 1,ic 4 (.alloc (zaV (.int .u64 0) 25)),jc (.st 25 (.t 4) (.t 10)),Mv 5 11]) (.seq (.seq (.reg [Mv 12 5,Bi 13 .neq 12 0]) (.cond (.t 13) (.ret) (.skip))) (.seq (.reg [ir 14 (.ld 25 true (.t 4)),ir 15 (.call za8 [.t 14]),ir 16 (.call zbM [.t 15]),ic 6 (.alloc (zaV (.int .u8 0) 200)),jc (.st 200 (.t 6) (.t 16))]) (.reg [Mv 17 1,iv 18 (.slice (.arr 200) 1 (.t 6) none none none),ic 19 (.copy 1 (.t 17) (.t 18))]))))
def zfO:AFn:=⟨20,zdp,[],none⟩
def zeX:AC:=.seq (.reg [iv 1 (.boxv (.t 0)),iv 2 (.mv (.k (.int .i64 0)))]) (.seq (.reg [iv 2 (.mv (.k (.int .i64 136)))]) (.ret))
def zhG:AFn:=⟨3,zeX,[.tmp 2],none⟩
def zel:AC:=.seq (.reg [iv 1 (.boxv (.t 0)),iv 2 (.mv (.k (.int .i64 0)))]) (.seq (.reg [iv 2 (.mv (.k (.int .i64 200)))]) (.ret))
def zg9:AFn:=⟨3,zel,[.tmp 2],none⟩
def zgS:AC:=.seq (.reg [ic 2 (.alloc (zaV (.int .u64 0) 25)),iv 3 (.mv (.k (.int .i64 0)))]) (.seq (.seq (.reg [Mv 4 0,iv 5 (.lenL (.t 4)),Bi 6 .neq 5 200]) (.cond (.t 6) (.seq (.reg [iv 7 (.build (zaV (.int .u64 0) 25) []),jc (.st 25 (.t 2) (.t 7)),iv 3 (.mv (.k (.int .i64 1)))]) (.ret)) (.skip))) (.seq (.reg [Mv 8 0,ir 9 (.call zdJ [.t 8]),iv 10 (.s2a 25 (.t 9)),ir 11 (.ld 25 true (.t 10)),jc (.st 25 (.t 2) (.t 11)),iv 3 (.mv (.k (.int .i64 0)))]) (.ret)))
def zkA:AFn:=⟨12,zgS,[.cell 2 25 true,.tmp 3],none⟩
def znr:AC:=.seq (.reg [iv 2 (.boxv (.t 0)),iv 3 (.boxv (.t 1)),ic 4 (.alloc (zaV (.int .u64 0) 4))]) (.seq (.reg [Fa 5 0 2,ir 6 (.ld 4 true (.t 5)),Fa 7 0 3,ir 8 (.ld 4 true (.t 7)),ir 9 (.call zgy [.t 6,.t 8]),ir 10 (.call zd3 [.t 9]),iv 11 (.build (zaV (.int .u64 0) 4) [(0,4,.t 10)]),jc (.st 4 (.t 4) (.t 11))]) (.ret))
def zhJ:AFn:=⟨12,znr,[.cell 4 4 true],none⟩
def zqW:AC:=.seq (.reg [iv 1 (.boxv (.t 0)),ic 2 (.alloc (zaV (.int .u64 0) 4))]) (.seq (.draw [Dr 3 (.ld 4 true (.t 1)) [1] 0 0,Dr 4 (.call zci [.t 3]) [3] 0 0,Dr 5 (.call zci [.t 4]) [4] 0 0,Dr 6 (.ld 4 true (.t 1)) [1] 0 0,Dr 7 (.call zdc [.t 5,.t 6]) [5,6] 0 0,Dn (.st 4 (.t 2) (.t 7)) [2,7]]) (.ret))
def zkB:AFn:=⟨8,zqW,[.cell 2 4 true],none⟩
def zkX:AC:=.seq (.reg [iv 1 (.boxv (.t 0)),ic 2 (.alloc (zaV (.int .u64 0) 4))]) (.seq (.reg [ir 3 (.ld 4 true (.t 1)),ir 4 (.ld 4 true (.t 1)),ir 5 (.call zdc [.t 3,.t 4]),jc (.st 4 (.t 2) (.t 5))]) (.ret))
def zfQ:AFn:=⟨6,zkX,[.cell 2 4 true],none⟩
def zns:AC:=.seq (.reg [iv 2 (.boxv (.t 0)),iv 3 (.boxv (.t 1)),ic 4 (.alloc (zaV (.int .u64 0) 4))]) (.seq (.reg [Fa 5 0 2,ir 6 (.ld 4 true (.t 5)),Fa 7 0 3,ir 8 (.ld 4 true (.t 7)),ir 9 (.call zcU [.t 6,.t 8]),iv 10 (.build (zaV (.int .u64 0) 4) [(0,4,.t 9)]),jc (.st 4 (.t 4) (.t 10))]) (.ret))
def zhM:AFn:=⟨11,zns,[.cell 4 4 true],none⟩
def zjV:AC:=.seq (.reg [iv 1 (.boxv (.t 0)),ic 2 (.alloc (zaV (.int .u64 0) 4))]) (.seq (.reg [ir 4 (.call zbU []),ic 3 (.alloc (zaV (.int .u64 0) 4)),jc (.st 4 (.t 3) (.t 4))]) (.seq (.reg [iv 5 (.iadr (some 4) 1 (.t 3) (.k (.int .i64 0))),Ld 6 5,iv 7 (.bin .sub (.t 6) (.k (.int .u64 2))),iv 8 (.iadr (some 4) 1 (.t 3) (.k (.int .i64 0))),Sx 8 7]) (.seq (.draw [Dr 9 (.ld 4 true (.t 1)) [1] 0 0,Dv 10 (.slice (.arr 4) 1 (.t 3) none none none) [3],Dr 11 (.call zij [.t 9,.t 10]) [9,10] 0 0,Dn (.st 4 (.t 2) (.t 11)) [2,11]]) (.ret))))
def zfm:AFn:=⟨12,zjV,[.cell 2 4 true],none⟩
def zmF:AC:=.seq (.seq (.reg [Mv 11 6,Bi 12 .geq 11 0]) (.cond (.t 12) (.skip) (.exit 0))) (.seq (.blk 1 (.seq (.reg [ir 15 (.ld 4 true (.t 5)),ir 16 (.call zci [.t 15]),jc (.st 4 (.t 5) (.t 16))]) (.seq (.reg [Mv 17 1,Mv 18 6,Bi 19 .quo 18 64,Ia 20 17 19,Ld 21 20,Mv 22 6,Bi 23 .rem 22 64,Bt 24 .shr 21 23,iv 25 (.bin .and (.t 24) (.k (.int .u64 1))),iv 26 (.bin .eql (.t 25) (.k (.int .u64 1)))]) (.cond (.t 26) (.reg [ir 27 (.ld 4 true (.t 5)),ir 28 (.ld 4 true (.t 2)),ir 29 (.call zdc [.t 27,.t 28]),jc (.st 4 (.t 5) (.t 29))]) (.skip))))) (.reg [Mv 13 6,Bi 14 .sub 13 1,Mv 6 14]))
def znt:AC:=.seq (.reg [iv 2 (.boxv (.t 0)),ic 4 (.alloc (zaV (.int .u64 0) 4))]) (.seq (.reg [ir 7 (.call ziL [.k (.int .u64 1)]),ic 5 (.alloc (zaV (.int .u64 0) 4)),jc (.st 4 (.t 5) (.t 7))]) (.seq (.seq (.reg [Mv 8 1,ir 9 (.call zf1 [.t 8]),Bi 10 .sub 9 1,Mv 6 10]) (.blk 0 (.loop zmF))) (.seq (.reg [ir 30 (.ld 4 true (.t 5)),jc (.st 4 (.t 4) (.t 30))]) (.ret))))
def zhO:AFn:=⟨31,znt,[.cell 4 4 true],none⟩
def zRn:FuncId→Option AFn
  | 3=>some zgQ
  | 7=>some ziN
  | 8=>some zkR
  | 9=>some zpB
  | 10=>some zkS
  | 12=>some zhl
  | 13=>some ziO
  | 18=>some zkT
  | 19=>some zkU
  | 32=>some ztq
  | 33=>some zwA
  | 34=>some zhE
  | 35=>some zog
  | 36=>some zm9
  | 37=>some zc4
  | 38=>some zcO
  | 39=>some zcs
  | 40=>some zgj
  | 41=>some zcP
  | 42=>some zc5
  | 59=>some zlo
  | 60=>some zhL
  | 61=>some zqz
  | 62=>some zct
  | 63=>some zlt
  | 64=>some zlw
  | 65=>some ze7
  | 66=>some zjd
  | 67=>some zop
  | 68=>some zdE
  | 69=>some znc
  | 70=>some ziy
  | 71=>some zdu
  | 72=>some znd
  | 73=>some zgp
  | 74=>some zqD
  | 75=>some zhd
  | 97=>some ze8
  | 106=>some zow
  | 107=>some zoy
  | 108=>some zhV
  | 109=>some zjl
  | 110=>some zkH
  | 111=>some zeF
  | 112=>some znh
  | 113=>some zkL
  | 114=>some zo0
  | 115=>some ziG
  | 116=>some zlP
  | 117=>some zlQ
  | 118=>some zhg
  | 130=>some zh8
  | 131=>some zgC
  | 132=>some zgD
  | 144=>some zfd
  | 147=>some zhj
  | 148=>some ziJ
  | 149=>some zqL
  | 150=>some zfx
  | 151=>some zo7
  | 152=>some zjy
  | 153=>some zfU
  | 154=>some zhk
  | 155=>some zpa
  | 156=>some zuJ
  | 157=>some zpd
  | 158=>some zgG
  | 159=>some zqN
  | 160=>some zsM
  | 161=>some zjB
  | 162=>some zjC
  | 163=>some zjD
  | 164=>some zqO
  | 165=>some zlj
  | 166=>some zqx
  | 168=>some zoh
  | 170=>some zi8
  | 173=>some zey
  | 180=>some zgi
  | 181=>some zhH
  | 182=>some zhI
  | 190=>some zqy
  | 191=>some ze6
  | 192=>some zha
  | 193=>some zdC
  | 194=>some zhb
  | 195=>some zqA
  | 196=>some zrS
  | 197=>some znb
  | 198=>some zqB
  | 199=>some zkD
  | 200=>some zlz
  | 201=>some zkE
  | 202=>some zkF
  | 203=>some zrW
  | 204=>some zjg
  | 211=>some zjh
  | 212=>some zkG
  | 213=>some zjk
  | 214=>some zhW
  | 215=>some zfS
  | 224=>some zgB
  | 225=>some zhe
  | 226=>some zhf
  | 227=>some ziH
  | 228=>some zjv
  | 229=>some zh7
  | 231=>some zss
  | 232=>some zqJ
  | 233=>some zuF
  | 234=>some zhh
  | 235=>some zxv
  | 236=>some ziI
  | 237=>some zkN
  | 243=>some zfe
  | 244=>some zuH
  | 245=>some zh9
  | 246=>some zxC
  | 247=>some zgE
  | 248=>some zsG
  | 249=>some zjz
  | 250=>some zsJ
  | 271=>some zdP
  | 272=>some zdR
  | 273=>some zei
  | 274=>some zdS
  | 275=>some zeG
  | 276=>some zdT
  | 277=>some zl4
  | 278=>some zej
  | 279=>some zek
  | 280=>some zkz
  | 281=>some zm8
  | 282=>some zi7
  | 283=>some zoj
  | 295=>some zix
  | 304=>some zfO
  | 305=>some zhG
  | 306=>some zg9
  | 307=>some zkA
  | 312=>some zhJ
  | 313=>some zkB
  | 319=>some zfQ
  | 320=>some zhM
  | 326=>some zfm
  | 335=>some zhO
  | _=>none
def zQi:FuncId→Av.Mode
  | 9=>⟨true,false,false,false⟩
  | 18=>⟨false,false,true,false⟩
  | 19=>⟨false,false,false,false⟩
  | 32=>⟨false,false,true,false⟩
  | 35=>⟨false,false,true,false⟩
  | 36=>⟨false,false,true,false⟩
  | 37=>⟨false,false,false,false⟩
  | 38=>⟨false,false,false,false⟩
  | 39=>⟨false,false,false,false⟩
  | 41=>⟨false,false,false,false⟩
  | 42=>⟨false,false,false,false⟩
  | 62=>⟨true,false,false,false⟩
  | 63=>⟨false,false,true,false⟩
  | 65=>⟨false,false,true,false⟩
  | 66=>⟨false,false,true,false⟩
  | 68=>⟨false,false,false,false⟩
  | 70=>⟨false,false,false,false⟩
  | 71=>⟨false,false,false,false⟩
  | 74=>⟨true,false,false,false⟩
  | 75=>⟨false,false,false,false⟩
  | 79=>⟨false,false,false,true⟩
  | 83=>⟨true,false,false,false⟩
  | 85=>⟨true,false,false,false⟩
  | 108=>⟨false,false,false,false⟩
  | 110=>⟨false,false,true,false⟩
  | 111=>⟨false,false,true,false⟩
  | 112=>⟨false,false,true,false⟩
  | 115=>⟨false,false,false,false⟩
  | 118=>⟨false,false,false,false⟩
  | 125=>⟨true,false,false,false⟩
  | 130=>⟨false,false,true,false⟩
  | 147=>⟨false,false,false,false⟩
  | 148=>⟨false,false,false,false⟩
  | 150=>⟨true,false,false,false⟩
  | 151=>⟨false,false,false,true⟩
  | 152=>⟨false,false,false,false⟩
  | 156=>⟨true,false,false,false⟩
  | 158=>⟨true,false,false,false⟩
  | 159=>⟨true,false,false,false⟩
  | 179=>⟨true,true,false,true⟩
  | 193=>⟨true,false,false,false⟩
  | 194=>⟨true,false,false,false⟩
  | 196=>⟨true,false,false,false⟩
  | 229=>⟨true,false,false,false⟩
  | 233=>⟨true,false,false,false⟩
  | 234=>⟨true,false,false,false⟩
  | 236=>⟨true,false,false,false⟩
  | 244=>⟨true,false,false,false⟩
  | 246=>⟨true,false,false,false⟩
  | 247=>⟨true,false,false,false⟩
  | 248=>⟨true,false,false,false⟩
  | 271=>⟨false,false,false,false⟩
  | 272=>⟨false,false,false,false⟩
  | 273=>⟨false,false,false,false⟩
  | 274=>⟨false,false,false,false⟩
  | 275=>⟨false,false,false,false⟩
  | 276=>⟨false,false,false,false⟩
  | 277=>⟨false,false,false,false⟩
  | 278=>⟨false,false,false,false⟩
  | 279=>⟨false,false,false,false⟩
  | 281=>⟨false,false,false,false⟩
  | 284=>⟨false,false,false,false⟩
  | 286=>⟨false,false,false,false⟩
  | 287=>⟨false,false,false,false⟩
  | 288=>⟨false,false,false,false⟩
  | 289=>⟨false,false,false,false⟩
  | 290=>⟨false,false,false,false⟩
  | 291=>⟨false,false,false,false⟩
  | 292=>⟨false,false,false,false⟩
  | 293=>⟨false,false,false,false⟩
  | 304=>⟨false,false,false,false⟩
  | 308=>⟨false,false,false,false⟩
  | 309=>⟨false,false,false,false⟩
  | 310=>⟨false,false,false,false⟩
  | 311=>⟨false,false,false,false⟩
  | 317=>⟨false,false,true,false⟩
  | 318=>⟨false,false,false,false⟩
  | 327=>⟨false,false,false,false⟩
  | 328=>⟨false,false,false,false⟩
  | 329=>⟨false,false,false,false⟩
  | 335=>⟨true,false,false,false⟩
  | 355=>⟨false,false,false,false⟩
  | _=>Mode.pure
def zGn:Nat→Option (List zaa)
  | 3=>some ([.int .u64 1,.int .u64 32898,.int .u64 9223372036854808714,.int .u64 9223372039002292224,.int .u64 32907,.int .u64 2147483649,.int .u64 9223372039002292353,.int .u64 9223372036854808585,.int .u64 138,.int .u64 136,.int .u64 2147516425,.int .u64 2147483658,.int .u64 2147516555,.int .u64 9223372036854775947,.int .u64 9223372036854808713,.int .u64 9223372036854808579,.int .u64 9223372036854808578,.int .u64 9223372036854775936,.int .u64 32778,.int .u64 9223372039002259466,.int .u64 9223372039002292353,.int .u64 9223372036854808704,.int .u64 2147483649,.int .u64 9223372039002292232])
  | 0=>some ((Go.Lib.pow10Tab.map fun z=>zaa.int .u64 z))
  | _=>none
def zMF:List (TypeId × String × FuncId):=[(230,"Width",zbQ),(230,"Rate",zce),(230,"Permute",zbw),(109,"avouch/transcript.tell",zba),(109,"avouch/transcript.bytes",za2),(109,"avouch/transcript.fields",zaT)]
def zIP:List (TypeId × String × FuncId × Nat):=[(109,"Ratchet",zaS,0),(109,"Calls",zeI,0)]
def zJy (t : TypeId) (n : String) : Option (List (Nat × Nat × Bool) × FuncId) := match (zMF.find? fun r => r.1 == t && r.2.1 == n) with
  | some r=>some ([],r.2.2)
  | none=>(zIP.find? fun r=>r.1==t&&r.2.1==n).map fun r=>([(r.2.2.2,1,false)],r.2.2.1)
def zQk:FuncId→Option zJt
  | 11=>some (zwL)
  | 17=>some (zI5)
  | 167=>some (zNv)
  | 230=>some (zNN)
  | _=>none
def ctx:Ctx:={fns:=zRn,mode:=zQi,glob:=zGn,meth:=zJy,ext:=zQk,qinv:=fun n=>n== "Width"||n== "Rate"||n== "Calls"}
abbrev zar (f:FuncId) (m:Mode) (n:Nat) (c:AC) (r:List zyd):Prop:=∀ (L:Lim) (a:List zaa) (h:zab),zag ctx L f a h=zFV ctx L m h n c r (ziu m h a)
theorem zrV:ctx.ext zed=some (zwL):=rfl
theorem zpL:ctx.ext zih=some (zI5):=rfl
theorem znw:ctx.ext zaJ=some (zNv):=rfl
theorem znx:ctx.ext zb2=some (zNN):=rfl
@[simp] theorem zFZ:ctx.meth 230 "Width"=some ([],zbQ):=rfl
@[simp] theorem zGr:ctx.meth 230 "Rate"=some ([],zce):=rfl
@[simp] theorem zCm:ctx.meth 230 "Permute"=some ([],zbw):=rfl
@[simp] theorem zGs:ctx.meth 109 "avouch/transcript.tell"=some ([],zba):=rfl
@[simp] theorem zF0:ctx.meth 109 "avouch/transcript.bytes"=some ([],za2):=rfl
@[simp] theorem zCV:ctx.meth 109 "avouch/transcript.fields"=some ([],zaT):=rfl
@[simp] theorem zCn:ctx.meth 109 "Ratchet"=some ([(0,1,false)],zaS):=rfl
@[simp] theorem zF1:ctx.meth 109 "Calls"=some ([(0,1,false)],zeI):=rfl
theorem zjf:zar zcC Mode.pure 103 zbj [.tmp 2]:=fun L a h=>zad h L rfl rfl a
@[simp] theorem ztG:zac ctx zcC=true:=rfl
theorem zlA:zar zcD Mode.pure 90 zfJ [.tmp 0]:=fun L a h=>zad h L rfl rfl a
@[simp] theorem zws:zac ctx zcD=true:=rfl
theorem ze0:zar zeU Mode.pure 41 zdl [.tmp 8]:=fun L a h=>zad h L rfl rfl a
@[simp] theorem zyj:zac ctx zeU=true:=rfl
theorem zqX:zar zbp (⟨true,false,false,false⟩) 39 zfK [.tmp 2,.tmp 3,.tmp 4]:=fun L a h=>zad h L rfl rfl a
@[simp] theorem zA1:zac ctx zbp=true:=rfl
theorem znz:zar zdi Mode.pure 34 zg8 [.cell 2 3 true]:=fun L a h=>zad h L rfl rfl a
@[simp] theorem zyk:zac ctx zdi=true:=rfl
theorem zhU:zar zdj (⟨false,false,true,false⟩) 64 zdm [.tmp 4,.tmp 5,.tmp 6]:=fun L a h=>zad h L rfl rfl a
@[simp] theorem zyl:zac ctx zdj=false:=rfl
theorem znA:zar zeV (⟨false,false,false,false⟩) 70 zbJ [.cell 4 2 true]:=fun L a h=>zad h L rfl rfl a
@[simp] theorem zym:zac ctx zeV=false:=rfl
theorem ztH:zar zkt (⟨false,false,true,false⟩) 21 zky [.tmp 2,.tmp 3,.tmp 4]:=fun L a h=>zad h L rfl rfl a
@[simp] theorem zC5:zac ctx zkt=false:=rfl
theorem zwR:zar zpq Mode.pure 36 zhD [.cell 4 32 true,.tmp 5,.tmp 6]:=fun L a h=>zad h L rfl rfl a
@[simp] theorem zGw:zac ctx zpq=true:=rfl
theorem zkZ:zar zcf Mode.pure 8 zeW [.tmp 2]:=fun L a h=>zad h L rfl rfl a
@[simp] theorem zvg:zac ctx zcf=true:=rfl
theorem zq1:zar zhx (⟨false,false,true,false⟩) 6 zjQ [.tmp 2]:=fun L a h=>zad h L rfl rfl a
@[simp] theorem zA4:zac ctx zhx=false:=rfl
@[simp] theorem zzI:zac ctx znk=false:=rfl
theorem zfp:zar za5 (⟨false,false,false,false⟩) 59 zas [.tmp 6]:=fun L a h=>zad h L rfl rfl a
@[simp] theorem zod:zac ctx za5=false:=rfl
theorem zfi:zar za0 (⟨false,false,false,false⟩) 28 zaX [.tmp 4,.tmp 5]:=fun L a h=>zad h L rfl rfl a
@[simp] theorem znD:zac ctx za0=false:=rfl
theorem zeC:zar zaO (⟨false,false,false,false⟩) 42 zaB [.tmp 4,.tmp 5]:=fun L a h=>zad h L rfl rfl a
@[simp] theorem zmP:zac ctx zaO=false:=rfl
theorem zjn:zar zcE Mode.pure 10 zdB [.cell 2 32 true]:=fun L a h=>zad h L rfl rfl a
@[simp] theorem ztJ:zac ctx zcE=true:=rfl
theorem zfj:zar za1 (⟨false,false,false,false⟩) 23 zaY [.tmp 2]:=fun L a h=>zad h L rfl rfl a
@[simp] theorem znE:zac ctx za1=false:=rfl
theorem zfq:zar za6 (⟨false,false,false,false⟩) 8 zbB [.tmp 2]:=fun L a h=>zad h L rfl rfl a
@[simp] theorem zoe:zac ctx za6=false:=rfl
theorem zoB:zar zfE Mode.pure 34 zhK [.tmp 2,.tmp 3,.tmp 4]:=fun L a h=>zad h L rfl rfl a
@[simp] theorem zyF:zac ctx zfE=true:=rfl
theorem zk0:zar zdb Mode.pure 34 zeZ [.tmp 2,.tmp 3,.tmp 4]:=fun L a h=>zad h L rfl rfl a
@[simp] theorem zvi:zac ctx zdb=true:=rfl
theorem zrY:zar zgN Mode.pure 16 zlq [.cell 2 32 true]:=fun L a h=>zad h L rfl rfl a
@[simp] theorem zCo:zac ctx zgN=true:=rfl
@[simp] theorem zmQ:zac ctx zbq=true:=rfl
theorem zoC:zar zfF (⟨false,false,true,false⟩) 14 zhP [.tmp 4]:=fun L a h=>zad h L rfl rfl a
@[simp] theorem zyG:zac ctx zfF=false:=rfl
theorem zoD:zar zfG Mode.pure 3 zhQ [.tmp 0]:=fun L a h=>zad h L rfl rfl a
@[simp] theorem zyH:zac ctx zfG=true:=rfl
@[simp] theorem zrr:zac ctx zfh=false:=rfl
@[simp] theorem zwU:zac ctx zjG=false:=rfl
@[simp] theorem zA7:zac ctx zps=true:=rfl
theorem zgu:zar zbr (⟨false,false,false,false⟩) 8 zb6 [.tmp 2]:=fun L a h=>zad h L rfl rfl a
@[simp] theorem zpX:zac ctx zbr=false:=rfl
theorem zpY:zar zdo Mode.pure 33 zcG [.tmp 4,.tmp 5]:=fun L a h=>zad h L rfl rfl a
@[simp] theorem zzK:zac ctx zdo=true:=rfl
theorem zlE:zar za7 (⟨false,false,false,false⟩) 32 zcu [.tmp 4]:=fun L a h=>zad h L rfl rfl a
@[simp] theorem zwt:zac ctx za7=false:=rfl
theorem zfZ:zar zav (⟨false,false,false,false⟩) 16 zbS [.tmp 4]:=fun L a h=>zad h L rfl rfl a
@[simp] theorem zpE:zac ctx zav=false:=rfl
theorem zpZ:zar zeJ Mode.pure 44 zeB [.tmp 4]:=fun L a h=>zad h L rfl rfl a
@[simp] theorem zzL:zac ctx zeJ=true:=rfl
theorem zjo:zar zcF Mode.pure 7 zdF [.cell 2 4 true]:=fun L a h=>zad h L rfl rfl a
@[simp] theorem ztK:zac ctx zcF=true:=rfl
theorem zrZ:zar zgO (⟨true,false,false,false⟩) 24 zlC [.tmp 2]:=fun L a h=>zad h L rfl rfl a
@[simp] theorem zCp:zac ctx zgO=true:=rfl
theorem zj0:zar zcJ (⟨false,false,false,false⟩) 15 zcK [.tmp 2]:=fun L a h=>zad h L rfl rfl a
@[simp] theorem zul:zac ctx zcJ=false:=rfl
theorem zq2:zar zhp Mode.pure 43 zfo [.cell 2 4 true,.tmp 3,.tmp 4]:=fun L a h=>zad h L rfl rfl a
@[simp] theorem zA9:zac ctx zhp=true:=rfl
theorem zq3:zar zhq Mode.pure 29 zjX [.tmp 2,.tmp 3]:=fun L a h=>zad h L rfl rfl a
@[simp] theorem zBa:zac ctx zhq=true:=rfl
theorem zk1:zar zc7 (⟨false,false,false,false⟩) 43 ze1 []:=fun L a h=>zad h L rfl rfl a
@[simp] theorem zvk:zac ctx zc7=false:=rfl
theorem zmR:zar zcR Mode.pure 19 zfY [.cell 2 32 true]:=fun L a h=>zad h L rfl rfl a
@[simp] theorem zwX:zac ctx zcR=true:=rfl
theorem znG:zar zeL (⟨false,false,true,false⟩) 33 zgY [.tmp 4,.tmp 5]:=fun L a h=>zad h L rfl rfl a
@[simp] theorem zyo:zac ctx zeL=false:=rfl
@[simp] theorem zq4:zac ctx zeA=false:=rfl
@[simp] theorem zzO:zac ctx zna=false:=rfl
@[simp] theorem zyp:zac ctx zkC=true:=rfl
theorem zq5:zar zhr Mode.pure 6 zj9 [.tmp 2]:=fun L a h=>zad h L rfl rfl a
@[simp] theorem zBd:zac ctx zhr=true:=rfl
theorem zlF:zar zdt (⟨false,false,false,false⟩) 51 zcA [.tmp 8]:=fun L a h=>zad h L rfl rfl a
@[simp] theorem zwu:zac ctx zdt=false:=rfl
theorem zoF:zar zdD Mode.pure 20 zb7 [.cell 2 3 true]:=fun L a h=>zad h L rfl rfl a
@[simp] theorem zyM:zac ctx zdD=true:=rfl
theorem zoG:zar zcU Mode.pure 91 zh6 [.cell 4 4 true]:=fun L a h=>zad h L rfl rfl a
@[simp] theorem zyN:zac ctx zcU=true:=rfl
theorem zj1:zar zbK (⟨false,false,false,false⟩) 11 zes [.tmp 6]:=fun L a h=>zad h L rfl rfl a
@[simp] theorem zuo:zac ctx zbK=false:=rfl
@[simp] theorem zvl:zac ctx zhT=false:=rfl
@[simp] theorem ztL:zac ctx zgm=true:=rfl
@[simp] theorem ztM:zac ctx zgn=true:=rfl
@[simp] theorem zrB:zac ctx ze9=true:=rfl
theorem zj8:zar za4 (⟨false,false,false,false⟩) 26 zeu [.tmp 4]:=fun L a h=>zad h L rfl rfl a
@[simp] theorem zuz:zac ctx za4=false:=rfl
theorem zlO:zar zcv (⟨false,false,false,false⟩) 33 zdx [.tmp 4]:=fun L a h=>zad h L rfl rfl a
@[simp] theorem zwx:zac ctx zcv=false:=rfl
theorem zso:zar zdH Mode.pure 36 zlW [.tmp 2]:=fun L a h=>zad h L rfl rfl a
@[simp] theorem zCs:zac ctx zdH=true:=rfl
@[simp] theorem zsq:zac ctx zbT=true:=rfl
theorem zkM:zar zcw (⟨false,false,false,true⟩) 22 zhv [.tmp 6]:=fun L a h=>zad h L rfl rfl a
@[simp] theorem zBC:zac ctx zcw=false:=rfl
theorem zmT:zar zbd (⟨false,false,false,false⟩) 23 zf6 []:=fun L a h=>zad h L rfl rfl a
@[simp] theorem zxs:zac ctx zbd=false:=rfl
theorem ziZ:zar za8 Mode.pure 12 zds [.cell 2 25 true]:=fun L a h=>zad h L rfl rfl a
@[simp] theorem ztx:zac ctx za8=true:=rfl
theorem zka:zar zbM Mode.pure 7 zev [.cell 2 200 true]:=fun L a h=>zad h L rfl rfl a
@[simp] theorem zuB:zac ctx zbM=true:=rfl
theorem zra:zar zbU Mode.pure 2 zkd [.cell 0 4 true]:=fun L a h=>zad h L rfl rfl a
@[simp] theorem zBF:zac ctx zbU=true:=rfl
theorem zvI:zar zjm (⟨true,false,false,false⟩) 88 zqe [.tmp 2,.tmp 3]:=fun L a h=>zad h L rfl rfl a
@[simp] theorem zF7:zac ctx zjm=true:=rfl
theorem zrb:zar zd2 Mode.pure 16 zkg [.cell 2 4 true]:=fun L a h=>zad h L rfl rfl a
@[simp] theorem zBJ:zac ctx zd2=true:=rfl
theorem zjw:zar zbC (⟨true,false,false,false⟩) 33 zdQ [.tmp 4]:=fun L a h=>zad h L rfl rfl a
@[simp] theorem ztQ:zac ctx zbC=true:=rfl
theorem zsu:zar zdJ (⟨true,false,false,false⟩) 33 zl2 [.tmp 2]:=fun L a h=>zad h L rfl rfl a
@[simp] theorem zCu:zac ctx zdJ=true:=rfl
theorem ztR:zar zj3 Mode.pure 10 znS [.tmp 4]:=fun L a h=>zad h L rfl rfl a
@[simp] theorem zEx:zac ctx zj3=true:=rfl
theorem zmW:zar zbZ Mode.pure 11 zd8 [.tmp 2]:=fun L a h=>zad h L rfl rfl a
@[simp] theorem zxu:zac ctx zbZ=true:=rfl
theorem zhi:zar zb0 Mode.pure 26 zea [.cell 2 4 true,.tmp 3]:=fun L a h=>zad h L rfl rfl a
@[simp] theorem zxw:zac ctx zb0=true:=rfl
theorem zmX:zar zb1 Mode.pure 11 zf9 [.tmp 2]:=fun L a h=>zad h L rfl rfl a
@[simp] theorem zxx:zac ctx zb1=true:=rfl
theorem zsA:zar ziA Mode.pure 31 zfg [.cell 2 12 true,.tmp 3]:=fun L a h=>zad h L rfl rfl a
@[simp] theorem zCv:zac ctx ziA=true:=rfl
theorem zo6:zar zfs Mode.pure 16 zhC [.tmp 0]:=fun L a h=>zad h L rfl rfl a
@[simp] theorem zze:zac ctx zfs=true:=rfl
theorem zsC:zar zfa Mode.pure 38 zlk [.tmp 8,.tmp 9]:=fun L a h=>zad h L rfl rfl a
@[simp] theorem zCw:zac ctx zfa=true:=rfl
theorem zrd:zar zd3 Mode.pure 15 zhn [.cell 2 4 true]:=fun L a h=>zad h L rfl rfl a
@[simp] theorem zBN:zac ctx zd3=true:=rfl
theorem zmY:zar zd4 Mode.pure 25 zaI [.tmp 2]:=fun L a h=>zad h L rfl rfl a
@[simp] theorem zxB:zac ctx zd4=true:=rfl
@[simp] theorem ztS:zac ctx zgw=true:=rfl
@[simp] theorem zvO:zac ctx zh0=true:=rfl
@[simp] theorem zvQ:zac ctx zh1=true:=rfl
theorem zsE:zar ziC Mode.pure 14 zln [.tmp 2,.tmp 3]:=fun L a h=>zad h L rfl rfl a
@[simp] theorem zCx:zac ctx ziC=true:=rfl
theorem zia:zar zbD Mode.pure 9 zcQ [.tmp 4]:=fun L a h=>zad h L rfl rfl a
@[simp] theorem zrE:zac ctx zbD=true:=rfl
theorem zkf:zar zcL Mode.pure 16 zem [.cell 4 25 true]:=fun L a h=>zad h L rfl rfl a
@[simp] theorem zuK:zac ctx zcL=true:=rfl
theorem zgF:zar zaQ (⟨true,false,false,false⟩) 8 zb5 [.tmp 2]:=fun L a h=>zad h L rfl rfl a
@[simp] theorem zqf:zac ctx zaQ=true:=rfl
theorem zkh:zar zbN (⟨true,false,false,false⟩) 34 zen [.tmp 6]:=fun L a h=>zad h L rfl rfl a
@[simp] theorem zuL:zac ctx zbN=true:=rfl
theorem zsK:zar zgy Mode.pure 25 zlu [.cell 4 4 true]:=fun L a h=>zad h L rfl rfl a
@[simp] theorem zCy:zac ctx zgy=true:=rfl
theorem ztT:zar zf1 (⟨true,false,false,false⟩) 24 znv [.tmp 2]:=fun L a h=>zad h L rfl rfl a
@[simp] theorem zEO:zac ctx zf1=true:=rfl
theorem zqg:zar zeE Mode.pure 26 ziS [.cell 4 4 true,.tmp 5]:=fun L a h=>zad h L rfl rfl a
@[simp] theorem zAu:zac ctx zeE=true:=rfl
theorem zsL:zar ziD Mode.pure 3 zly [.tmp 0]:=fun L a h=>zad h L rfl rfl a
@[simp] theorem zCz:zac ctx ziD=true:=rfl
theorem znT:zar zeN Mode.pure 25 zde [.cell 4 12 true,.tmp 5]:=fun L a h=>zad h L rfl rfl a
@[simp] theorem zys:zac ctx zeN=true:=rfl
theorem zpg:zar zft Mode.pure 15 zhS [.cell 6 12 true]:=fun L a h=>zad h L rfl rfl a
@[simp] theorem zzj:zac ctx zft=true:=rfl
theorem znU:zar zeO Mode.pure 24 zgT [.tmp 0]:=fun L a h=>zad h L rfl rfl a
@[simp] theorem zyt:zac ctx zeO=true:=rfl
theorem znV:zar zeP Mode.pure 10 zgU [.cell 2 12 true]:=fun L a h=>zad h L rfl rfl a
@[simp] theorem zyu:zac ctx zeP=true:=rfl
theorem ztU:zar zj6 Mode.pure 3 zny [.cell 0 12 true]:=fun L a h=>zad h L rfl rfl a
@[simp] theorem zES:zac ctx zj6=true:=rfl
theorem zmA:zar zcX Mode.pure 51 zfX [.tmp 4,.tmp 5]:=fun L a h=>zad h L rfl rfl a
@[simp] theorem zwB:zac ctx zcX=true:=rfl
@[simp] theorem zwC:zac ctx zjs=true:=rfl
@[simp] theorem zyh:zac ctx zkK=true:=rfl
@[simp] theorem zwE:zac ctx zjt=true:=rfl
@[simp] theorem zu3:zac ctx zh4=true:=rfl
@[simp] theorem ztr:zac ctx zfR=true:=rfl
theorem zi9:zar zcy Mode.pure 19 zdL [.tmp 4]:=fun L a h=>zad h L rfl rfl a
@[simp] theorem ztB:zac ctx zcy=true:=rfl
theorem zjT:zar zcM Mode.pure 45 zeq [.cell 2 25 true]:=fun L a h=>zad h L rfl rfl a
@[simp] theorem zub:zac ctx zcM=true:=rfl
theorem zjU:zar zcN Mode.pure 42 zer [.cell 2 25 true]:=fun L a h=>zad h L rfl rfl a
@[simp] theorem zuc:zac ctx zcN=true:=rfl
theorem zlm:zar zdw Mode.pure 36 zfv [.cell 2 25 true]:=fun L a h=>zad h L rfl rfl a
@[simp] theorem zwq:zac ctx zdw=true:=rfl
theorem zmE:zar zd5 Mode.pure 12 zf2 [.tmp 2]:=fun L a h=>zad h L rfl rfl a
@[simp] theorem zwF:zac ctx zd5=true:=rfl
theorem zfP:zar zbx (⟨true,false,false,false⟩) 31 zb8 [.tmp 6]:=fun L a h=>zad h L rfl rfl a
@[simp] theorem zu5:zac ctx zbx=true:=rfl
theorem ztC:zar zh5 Mode.pure 13 znL [.tmp 2]:=fun L a h=>zad h L rfl rfl a
@[simp] theorem zCI:zac ctx zh5=true:=rfl
theorem zrP:zar zgA Mode.pure 2 zlS [.cell 0 12 true]:=fun L a h=>zad h L rfl rfl a
@[simp] theorem zCl:zac ctx zgA=true:=rfl
theorem zu6:zar zju (⟨true,false,false,false⟩) 27 zp7 [.tmp 4]:=fun L a h=>zad h L rfl rfl a
@[simp] theorem zFX:zac ctx zju=true:=rfl
theorem zjW:zar zbO (⟨true,false,false,false⟩) 8 zet [.tmp 2]:=fun L a h=>zad h L rfl rfl a
@[simp] theorem zue:zac ctx zbO=true:=rfl
theorem zwJ:zar zoX Mode.pure 13 zsx [.cell 6 12 true]:=fun L a h=>zad h L rfl rfl a
@[simp] theorem zGm:zac ctx zoX=true:=rfl
theorem zlv:zar zbn (⟨true,false,false,false⟩) 64 zfw [.tmp 6]:=fun L a h=>zad h L rfl rfl a
@[simp] theorem zwr:zac ctx zbn=true:=rfl
@[simp] theorem zyi:zac ctx zkO=true:=rfl
theorem zhR:zar zbh Mode.pure 17 zcY [.tmp 4]:=fun L a h=>zad h L rfl rfl a
@[simp] theorem zro:zac ctx zbh=true:=rfl
theorem zu7:zar zmt (⟨true,false,false,false⟩) 11 zqc [.tmp 4,.tmp 5]:=fun L a h=>zad h L rfl rfl a
@[simp] theorem zFY:zac ctx zmt=true:=rfl
theorem zkY:zar zda Mode.pure 20 zb9 [.tmp 4]:=fun L a h=>zad h L rfl rfl a
@[simp] theorem zu9:zac ctx zda=true:=rfl
theorem zwM:zar zic (⟨true,false,false,false⟩) 13 zo8 [.tmp 4]:=fun L a h=>zad h L rfl rfl a
@[simp] theorem zGp:zac ctx zic=true:=rfl
theorem zje:zar zaH (⟨true,false,false,false⟩) 151 zdN [.tmp 6]:=fun L a h=>zad h L rfl rfl a
@[simp] theorem ztD:zac ctx zaH=true:=rfl
theorem ztE:zar zkl (⟨true,false,false,false⟩) 40 znO [.tmp 6,.tmp 7]:=fun L a h=>zad h L rfl rfl a
@[simp] theorem zCS:zac ctx zkl=true:=rfl
theorem zmH:zar zcZ Mode.pure 6 zf8 [.tmp 2]:=fun L a h=>zad h L rfl rfl a
@[simp] theorem zwQ:zac ctx zcZ=true:=rfl
theorem ztF:zar zga Mode.pure 38 znQ [.tmp 8,.tmp 9]:=fun L a h=>zad h L rfl rfl a
@[simp] theorem zCW:zac ctx zga=true:=rfl
theorem zgo:zar zaS (⟨false,false,false,false⟩) 22 zca []:=fun L a h=>zad h L rfl rfl a
@[simp] theorem zpM:zac ctx zaS=false:=rfl
theorem zgq:zar zaG (⟨false,false,false,false⟩) 23 zcb []:=fun L a h=>zad h L rfl rfl a
@[simp] theorem zpN:zac ctx zaG=false:=rfl
theorem zgV:zar za2 (⟨false,false,false,false⟩) 9 zcl [.tmp 4]:=fun L a h=>zad h L rfl rfl a
@[simp] theorem zqC:zac ctx za2=false:=rfl
theorem zgr:zar zaT (⟨false,false,false,false⟩) 19 zcc [.tmp 4,.tmp 5]:=fun L a h=>zad h L rfl rfl a
@[simp] theorem zpQ:zac ctx zaT=false:=rfl
theorem zht:zar zba (⟨false,false,false,false⟩) 9 zcH []:=fun L a h=>zad h L rfl rfl a
@[simp] theorem zqY:zac ctx zba=false:=rfl
theorem zgs:zar zaU (⟨false,false,false,false⟩) 47 zcd [.tmp 4]:=fun L a h=>zad h L rfl rfl a
@[simp] theorem zpT:zac ctx zaU=false:=rfl
theorem zou:zar zfB (⟨false,false,false,false⟩) 36 zib [.tmp 4,.tmp 5,.tmp 6]:=fun L a h=>zad h L rfl rfl a
@[simp] theorem zyE:zac ctx zfB=false:=rfl
theorem zgW:zar za3 (⟨false,false,false,false⟩) 8 zcm [.cell 2 32 true]:=fun L a h=>zad h L rfl rfl a
@[simp] theorem zqE:zac ctx za3=false:=rfl
theorem zgX:zar zbv (⟨false,false,false,false⟩) 48 zcn []:=fun L a h=>zad h L rfl rfl a
@[simp] theorem zqF:zac ctx zbv=false:=rfl
theorem znB:zar zeS Mode.pure 33 zdd [.tmp 2]:=fun L a h=>zad h L rfl rfl a
@[simp] theorem zyn:zac ctx zeS=true:=rfl
theorem zpW:zar zgf (⟨false,false,false,false⟩) 27 ziP [.cell 2 4 true,.tmp 3,.tmp 4]:=fun L a h=>zad h L rfl rfl a
@[simp] theorem zzH:zac ctx zgf=false:=rfl
theorem zmO:zar zec Mode.pure 41 zbY [.tmp 2]:=fun L a h=>zad h L rfl rfl a
@[simp] theorem zwS:zac ctx zec=true:=rfl
theorem zq0:zar zhw Mode.pure 8 zjR [.cell 2 32 true]:=fun L a h=>zad h L rfl rfl a
@[simp] theorem zA3:zac ctx zhw=true:=rfl
@[simp] theorem zwv:zac ctx ziL=true:=rfl
theorem ziX:zar zbw (⟨false,false,false,false⟩) 20 zdp []:=fun L a h=>zad h L rfl rfl a
@[simp] theorem ztt:zac ctx zbw=false:=rfl
theorem zk2:zar zce Mode.pure 3 zeX [.tmp 2]:=fun L a h=>zad h L rfl rfl a
@[simp] theorem zvn:zac ctx zce=true:=rfl
theorem zj2:zar zbQ Mode.pure 3 zel [.tmp 2]:=fun L a h=>zad h L rfl rfl a
@[simp] theorem zup:zac ctx zbQ=true:=rfl
theorem znH:zar zeT Mode.pure 12 zgS [.cell 2 25 true,.tmp 3]:=fun L a h=>zad h L rfl rfl a
@[simp] theorem zyq:zac ctx zeT=true:=rfl
@[simp] theorem ztu:zac ctx zci=true:=rfl
@[simp] theorem zvq:zac ctx zdc=true:=rfl
@[simp] theorem zvr:zac ctx zij=true:=rfl
end Go.Av
