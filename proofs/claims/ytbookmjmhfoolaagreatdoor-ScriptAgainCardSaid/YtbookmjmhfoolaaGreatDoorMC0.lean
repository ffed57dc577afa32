/- The functions of the program as the machine's code, printed by a program of mine. -/
import Derived.Test.YtbookmjmhfoolaaGreatDoorMV6
set_option maxRecDepth 100000
namespace Go.Av
abbrev Mv (a b:Nat):AI:=iv a (.mv (.t b))
abbrev Ld (a b:Nat):AI:=ir a (.ld 1 false (.t b))
abbrev Nk (a b:Nat):AI:=iv a (.nck (.t b))
abbrev Fa (a o b:Nat):AI:=iv a (.fadr o (.t b))
abbrev Ex (a b i:Nat):AI:=iv a (.ext (.t b) i)
abbrev Bt (a:Nat) (o:BinOp) (b c:Nat):AI:=iv a (.bin o (.t b) (.t c))
abbrev Bi (a:Nat) (o:BinOp) (b:Nat) (n:Int):AI:=iv a (.bin o (.t b) (.k (.int .i64 n)))
abbrev Ia (a b c:Nat):AI:=iv a (.iadr none 1 (.t b) (.t c))
abbrev Sx (a b:Nat):AI:=jc (.st 1 (.t a) (.t b))
abbrev Dv (a:Nat) (o:VOp) (u:List Nat):AI:=⟨some a,.v o,none,u,0,0⟩
abbrev Dr (a:Nat) (o:ROp) (u:List Nat) (l h:Nat):AI:=⟨some a,.r o,none,u,l,h⟩
abbrev Dc (a:Nat) (o:COp) (u:List Nat):AI:=⟨some a,.c o,none,u,0,0⟩
abbrev Dn (o:COp) (u:List Nat):AI:=⟨none,.c o,none,u,0,0⟩
abbrev Gv (a:Nat) (o:VOp) (g:Nat) (w:Bool) (u:List Nat):AI:=⟨some a,.v o,some (g,w),u,0,0⟩
abbrev Gr (a:Nat) (o:ROp) (g:Nat) (w:Bool) (u:List Nat) (l h:Nat):AI:=⟨some a,.r o,some (g,w),u,l,h⟩
abbrev Gc (a:Nat) (o:COp) (g:Nat) (w:Bool) (u:List Nat):AI:=⟨some a,.c o,some (g,w),u,0,0⟩
abbrev Dm (a b:Nat):AI:=⟨some a,.v (.mv (.t b)),none,[b],0,0⟩
abbrev Gm (a b g:Nat) (w:Bool):AI:=⟨some a,.v (.mv (.t b)),some (g,w),[b,g],0,0⟩
def zbx:FuncId:=5
def zct:FuncId:=9
def zck:FuncId:=10
def zdW:FuncId:=11
def za2:FuncId:=12
def zcu:FuncId:=13
def zdb:FuncId:=18
def zeI:FuncId:=19
def zj7:FuncId:=32
def zoD:FuncId:=33
def zb6:FuncId:=34
def zhn:FuncId:=35
def zmY:FuncId:=36
def za3:FuncId:=37
def zaV:FuncId:=38
def zaL:FuncId:=39
def zcv:FuncId:=40
def zaW:FuncId:=41
def za4:FuncId:=42
def zfw:FuncId:=59
def zc4:FuncId:=60
def zgA:FuncId:=61
def zbn:FuncId:=62
def zfx:FuncId:=63
def zfy:FuncId:=64
def ze6:FuncId:=65
def zjr:FuncId:=66
def zoU:FuncId:=67
def zbo:FuncId:=68
def zdf:FuncId:=69
def za5:FuncId:=70
def zav:FuncId:=71
def zev:FuncId:=72
def zcx:FuncId:=73
def zgC:FuncId:=74
def zcJ:FuncId:=75
def zho:FuncId:=106
def zhp:FuncId:=107
def zc6:FuncId:=108
def zcR:FuncId:=109
def zeM:FuncId:=110
def zex:FuncId:=111
def zm0:FuncId:=112
def zkA:FuncId:=113
def zhq:FuncId:=114
def zdp:FuncId:=115
def zdH:FuncId:=116
def zcS:FuncId:=117
def zbN:FuncId:=118
def zhu:FuncId:=130
def zgd:FuncId:=131
def zge:FuncId:=132
def zeW:FuncId:=144
def za1:FuncId:=147
def zco:FuncId:=148
def zdw:FuncId:=149
def zbO:FuncId:=150
def zcp:FuncId:=151
def zbc:FuncId:=152
def za6:FuncId:=153
def zbH:FuncId:=154
def zbP:FuncId:=155
def ziX:FuncId:=156
def zdP:FuncId:=157
def zby:FuncId:=158
def zdy:FuncId:=159
def zjD:FuncId:=160
def zbU:FuncId:=161
def zbV:FuncId:=162
def zbW:FuncId:=163
def zin:FuncId:=164
def zfi:FuncId:=165
def zeX:FuncId:=166
def zaH:FuncId:=167
def zdQ:FuncId:=168
def zdR:FuncId:=170
def zgf:FuncId:=180
def zhz:FuncId:=181
def zhA:FuncId:=182
def zip:FuncId:=190
def zbA:FuncId:=191
def zcF:FuncId:=192
def zaN:FuncId:=193
def zbI:FuncId:=194
def zgh:FuncId:=195
def zfQ:FuncId:=196
def zep:FuncId:=197
def zir:FuncId:=198
def zeC:FuncId:=199
def zfl:FuncId:=200
def zeD:FuncId:=201
def zeE:FuncId:=202
def zjI:FuncId:=203
def zcL:FuncId:=204
def zhG:FuncId:=205
def zhH:FuncId:=206
def zi8:FuncId:=211
def zkq:FuncId:=212
def zi9:FuncId:=213
def zhI:FuncId:=214
def zfI:FuncId:=215
def zcq:FuncId:=224
def zcH:FuncId:=225
def zcI:FuncId:=226
def zdl:FuncId:=227
def zdU:FuncId:=228
def zbt:FuncId:=229
def zbX:FuncId:=230
def zhK:FuncId:=231
def zgn:FuncId:=232
def zjd:FuncId:=233
def zbK:FuncId:=234
def zoi:FuncId:=235
def zbk:FuncId:=236
def zks:FuncId:=237
def zbd:FuncId:=243
def zmc:FuncId:=244
def zc3:FuncId:=245
def zhL:FuncId:=246
def zaG:FuncId:=247
def zjY:FuncId:=248
def zcO:FuncId:=249
def zfX:FuncId:=250
def zet:FuncId:=270
def zaO:FuncId:=271
def zaF:FuncId:=272
def zaZ:FuncId:=273
def zaP:FuncId:=274
def za7:FuncId:=275
def zaQ:FuncId:=276
def zfq:FuncId:=277
def za0:FuncId:=278
def zbr:FuncId:=279
def zeH:FuncId:=280
def zf9:FuncId:=281
def zdV:FuncId:=282
def zhh:FuncId:=283
def ziy:FuncId:=295
def zbs:FuncId:=304
def zb9:FuncId:=305
def zbM:FuncId:=306
def zeL:FuncId:=307
def zcd:FuncId:=319
def zc5:FuncId:=320
def zhZ:FuncId:=335
def zJ9:ByteArray:=⟨#[0,1,2,2,3,3,3,3,4,4,4,4,4,4,4,4,5,5,5,5,5,5,5,5,5,5,5,5,5,5,5,5,6,6,6,6,6,6,6,6,6,6,6,6,6,6,6,6,6,6,6,6,6,6,6,6,6,6,6,6,6,6,6,6,7,7,7,7,7,7,7,7,7,7,7,7,7,7,7,7,7,7,7,7,7,7,7,7,7,7,7,7,7,7,7,7,7,7,7,7,7,7,7,7,7,7,7,7,7,7,7,7,7,7,7,7,7,7,7,7,7,7,7,7,7,7,7,7,8,8,8,8,8,8,8,8,8,8,8,8,8,8,8,8,8,8,8,8,8,8,8,8,8,8,8,8,8,8,8,8,8,8,8,8,8,8,8,8,8,8,8,8,8,8,8,8,8,8,8,8,8,8,8,8,8,8,8,8,8,8,8,8,8,8,8,8,8,8,8,8,8,8,8,8,8,8,8,8,8,8,8,8,8,8,8,8,8,8,8,8,8,8,8,8,8,8,8,8,8,8,8,8,8,8,8,8,8,8,8,8,8,8,8,8,8,8,8,8,8,8,8,8,8,8,8,8]⟩
def za8:AC:=.seq (.reg [iv 2 (.boxv (.t 0)),iv 4 (.mv (.k (.bool false)))]) (.seq (.seq (.reg [ir 12 (.call za2 []),iv 13 (.un .not (.t 12)),Mv 14 13,Gr 15 (.ld 3 true (.t 2)) 14 false [] 0 0,Gr 16 (.call zcu [.t 15]) 14 false [] 0 0,iv 17 (.pick (.t 14) (.k (.bool true)) (.t 16))]) (.cond (.t 17) (.seq (.reg [ir 18 (.call za2 []),Mv 4 18]) (.ret)) (.skip))) (.seq (.reg [ir 19 (.ld 3 true (.t 2)),ic 5 (.alloc [.int .i64 0,.nsl,.nsl]),jc (.st 3 (.t 5) (.t 19))]) (.seq (.draw [Dv 20 (.fadr 2 (.t 2)) [2],Dr 21 (.ld 1 false (.t 20)) [20] 0 0,Dm 22 1,Dv 23 (.i2i .i64 (.t 22)) [22],Dv 24 (.fadr 2 (.t 2)) [2],Dr 25 (.ld 1 false (.t 24)) [24] 0 0,Dv 26 (.lenL (.t 25)) [25],Dv 27 (.bin .add (.t 26) (.k (.int .i64 1))) [26],Dv 28 (.bin .rem (.t 23) (.t 27)) [23,27],Dv 29 (.slice .slc 4 (.t 21) none (some (.t 28)) none) [21,28],Dv 30 (.fadr 2 (.t 5)) [5],Dn (.st 1 (.t 30) (.t 29)) [30,29]]) (.seq (.reg [ir 32 (.ld 3 true (.t 2)),ir 33 (.call zck [.t 32]),ir 34 (.call zct [.t 33]),Mv 31 34,Ex 35 31 0,Ex 36 31 1,Ex 37 31 2,Mv 6 35,Mv 7 36,Mv 8 37]) (.seq (.reg [ir 39 (.ld 3 true (.t 5)),ir 40 (.call zck [.t 39]),ir 41 (.call zct [.t 40]),Mv 38 41,Ex 42 38 0,Ex 43 38 1,Ex 44 38 2,Mv 9 42,Mv 10 43,Mv 11 44]) (.seq (.seq (.reg [Mv 45 7,Mv 46 10,Bt 47 .neq 45 46,Mv 48 47,Gv 49 (.mv (.t 8)) 48 false [],Gv 50 (.mv (.t 11)) 48 false [],Gv 51 (.bin .neq (.t 49) (.t 50)) 48 false [],iv 52 (.pick (.t 48) (.k (.bool true)) (.t 51)),Mv 53 52,Gv 54 (.mv (.t 9)) 53 false [],Gv 55 (.lenL (.t 54)) 53 false [],Gv 56 (.mv (.t 6)) 53 false [],Gv 57 (.lenL (.t 56)) 53 false [],Gv 58 (.bin .gtr (.t 55) (.t 57)) 53 false [],iv 59 (.pick (.t 53) (.k (.bool true)) (.t 58)),Mv 60 59,Gv 61 (.mv (.t 8)) 60 false [],Gv 62 (.bin .eql (.t 61) (.k (.int .i64 0))) 60 false [],Gv 63 (.mv (.t 62)) 60 false [],Gv 64 (.mv (.t 9)) 63 true [],Gv 65 (.lenL (.t 64)) 63 true [],Gv 66 (.fadr 2 (.t 5)) 63 true [],Gr 67 (.ld 1 false (.t 66)) 63 true [] 0 0,Gv 68 (.lenL (.t 67)) 63 true [],Gv 69 (.bin .neq (.t 65) (.t 68)) 63 true [],Gv 70 (.pick (.t 63) (.t 69) (.k (.bool false))) 60 false [],iv 71 (.pick (.t 60) (.k (.bool true)) (.t 70))]) (.cond (.t 71) (.seq (.reg [iv 4 (.mv (.k (.bool false)))]) (.ret)) (.skip))) (.seq (.reg [Mv 72 6,Mv 73 9,iv 74 (.lenL (.t 73)),iv 75 (.slice .slc 2 (.t 72) none (some (.t 74)) none),ic 76 (.call zdW [.t 75]),Mv 77 9,ic 78 (.call zdW [.t 77]),Bt 79 .eql 76 78,Mv 4 79]) (.ret))))))))
def zez:AFn:=⟨80,za8,[.tmp 4],none⟩
def zim:AC:=.seq (.reg [Bt 41 .lss 40 39]) (.seq (.cond (.t 41) (.skip) (.exit 0)) (.seq (.blk 1 (.seq (.reg [Mv 42 40,iv 43 (.iadr none 2 (.t 38) (.t 40)),ir 44 (.ld 2 true (.t 43)),ic 7 (.alloc [.int .i64 0,.nsl]),Mv 6 42,jc (.st 2 (.t 7) (.t 44))]) (.seq (.reg [iv 8 (.mv (.k (.int .i64 0)))]) (.seq (.seq (.reg [Fa 45 0 7,Ld 46 45,Bi 47 .eql 46 0,Mv 48 47,Gv 49 (.fadr 2 (.t 1)) 48 true [],Gr 50 (.ld 1 false (.t 49)) 48 true [] 0 0,Gv 51 (.mv (.t 6)) 48 true [],Gv 52 (.iadr none 4 (.t 50) (.t 51)) 48 true [],Gv 53 (.fadr 0 (.t 52)) 48 true [],Gr 54 (.ld 1 false (.t 53)) 48 true [] 0 0,Gv 55 (.bin .eql (.t 54) (.k (.int .i64 1))) 48 true [],iv 56 (.pick (.t 48) (.t 55) (.k (.bool false)))]) (.cond (.t 56) (.reg [Fa 57 2 1,Ld 58 57,Mv 59 6,iv 60 (.iadr none 4 (.t 58) (.t 59)),Fa 61 2 60,Ld 62 61,Mv 8 62]) (.skip))) (.seq (.seq (.reg [Fa 63 0 7,Ld 64 63,Bi 65 .eql 64 0,Mv 66 65,Gv 67 (.fadr 2 (.t 1)) 66 true [],Gr 68 (.ld 1 false (.t 67)) 66 true [] 0 0,Gv 69 (.mv (.t 6)) 66 true [],Gv 70 (.iadr none 4 (.t 68) (.t 69)) 66 true [],Gv 71 (.fadr 0 (.t 70)) 66 true [],Gr 72 (.ld 1 false (.t 71)) 66 true [] 0 0,Gv 73 (.bin .eql (.t 72) (.k (.int .i64 2))) 66 true [],iv 74 (.pick (.t 66) (.t 73) (.k (.bool false)))]) (.cond (.t 74) (.reg [Fa 75 2 1,Ld 76 75,Mv 77 6,iv 78 (.iadr none 4 (.t 76) (.t 77)),Fa 79 2 78,Ld 80 79,iv 81 (.bin .mul (.k (.int .i64 32)) (.t 80)),Mv 8 81]) (.skip))) (.seq (.reg [Fa 82 1 7,Ld 83 82,iv 84 (.lenL (.t 83)),Mv 85 8,Bt 86 .neq 84 85]) (.cond (.t 86) (.seq (.reg [iv 2 (.mv (.k (.bool false)))]) (.ret)) (.skip)))))))) (.reg [Bi 87 .add 40 1,Mv 40 87])))
def ziU:AC:=.seq (.reg [iv 1 (.boxv (.t 0)),iv 2 (.mv (.k (.bool false)))]) (.seq (.seq (.reg [ir 9 (.call za2 []),iv 10 (.un .not (.t 9)),Mv 11 10,Gr 12 (.ld 3 true (.t 1)) 11 false [] 0 0,Gr 13 (.call zcu [.t 12]) 11 false [] 0 0,iv 14 (.pick (.t 11) (.k (.bool true)) (.t 13))]) (.cond (.t 14) (.seq (.reg [ir 15 (.call za2 []),Mv 2 15]) (.ret)) (.skip))) (.seq (.reg [ir 17 (.ld 3 true (.t 1)),ir 18 (.call zck [.t 17]),ir 19 (.call zct [.t 18]),Mv 16 19,Ex 20 16 0,Ex 21 16 1,Ex 22 16 2,Mv 3 20,Mv 4 21,Mv 5 22]) (.seq (.seq (.reg [Mv 23 5,Bi 24 .neq 23 0]) (.cond (.t 24) (.seq (.reg [Mv 25 3,iv 26 (.lenL (.t 25)),Bi 27 .eql 26 0,Mv 2 27]) (.ret)) (.skip))) (.seq (.seq (.reg [Mv 28 4,iv 29 (.bin .neq (.t 28) (.k (.int .i64 (-1)))),Mv 30 29,Gv 31 (.mv (.t 3)) 30 false [],Gv 32 (.lenL (.t 31)) 30 false [],Gv 33 (.fadr 2 (.t 1)) 30 false [],Gr 34 (.ld 1 false (.t 33)) 30 false [] 0 0,Gv 35 (.lenL (.t 34)) 30 false [],Gv 36 (.bin .neq (.t 32) (.t 35)) 30 false [],iv 37 (.pick (.t 30) (.k (.bool true)) (.t 36))]) (.cond (.t 37) (.seq (.reg [iv 2 (.mv (.k (.bool false)))]) (.ret)) (.skip))) (.seq (.seq (.reg [Mv 38 3,iv 39 (.lenL (.t 38)),iv 40 (.mv (.k (.int .i64 0)))]) (.blk 0 (.loop zim))) (.seq (.reg [iv 2 (.mv (.k (.bool true)))]) (.ret)))))))
def zeA:AFn:=⟨88,ziU,[.tmp 2],none⟩
def zgb:AC:=.seq (.reg [Bt 28 .lss 27 26]) (.seq (.cond (.t 28) (.skip) (.exit 0)) (.seq (.blk 1 (.seq (.reg [iv 29 (.iadr none 4 (.t 25) (.t 27)),ir 30 (.ld 4 true (.t 29)),ic 10 (.alloc [.int .i64 0,.int .i64 0,.int .i64 0,.nsl]),jc (.st 4 (.t 10) (.t 30))]) (.reg [Mv 31 8,ir 32 (.ld 4 true (.t 10)),Mv 33 5,ic 34 (.call zeI [.t 32,.t 33]),iv 35 (.slit 2 1 [.int .i64 0,.nsl] [(0,.t 34)]),ic 36 (.app 2 false (.t 31) (.t 35)),Mv 8 36]))) (.reg [Bi 37 .add 27 1,Mv 27 37])))
def zfz:AC:=.seq (.reg [iv 1 (.boxv (.t 0)),iv 2 (.mv (.k (.nsl))),iv 3 (.mv (.k (.int .i64 0))),iv 4 (.mv (.k (.int .i64 0)))]) (.seq (.reg [Fa 12 0 1,Ld 13 12,Fa 14 1 1,Ld 15 14,ic 16 (.call zdb [.t 13,.t 15]),Mv 11 16,Ex 17 11 0,Ex 18 11 1,Ex 19 11 2,Mv 5 17,Mv 6 18,Mv 7 19]) (.seq (.seq (.reg [Mv 20 7,Bi 21 .neq 20 0]) (.cond (.t 21) (.seq (.reg [Mv 22 6,Mv 23 7,iv 2 (.mv (.k (.nsl))),Mv 3 22,Mv 4 23]) (.ret)) (.skip))) (.seq (.reg [iv 8 (.mv (.k (.nsl)))]) (.seq (.seq (.reg [Fa 24 2 1,Ld 25 24,iv 26 (.lenL (.t 25)),iv 27 (.mv (.k (.int .i64 0)))]) (.blk 0 (.loop zgb))) (.seq (.reg [Mv 38 8,Mv 2 38,iv 3 (.mv (.k (.int .i64 (-1)))),iv 4 (.mv (.k (.int .i64 0)))]) (.ret))))))
def zo8:AFn:=⟨39,zfz,[.tmp 2,.tmp 3,.tmp 4],none⟩
def zd4:AC:=.seq (.reg [Bt 15 .lss 14 13]) (.seq (.cond (.t 15) (.skip) (.exit 0)) (.seq (.blk 1 (.seq (.reg [iv 16 (.iadr none 4 (.t 12) (.t 14)),ir 17 (.ld 4 true (.t 16)),ic 5 (.alloc [.int .i64 0,.int .i64 0,.int .i64 0,.nsl]),jc (.st 4 (.t 5) (.t 17))]) (.reg [Fa 18 2 3,Ld 19 18,Fa 20 0 5,Ld 21 20,Fa 22 1 5,Ld 23 22,Fa 24 2 5,Ld 25 24,Fa 26 3 5,Ld 27 26,iv 28 (.build [.int .i64 0,.int .i64 0,.int .i64 0,.nsl] [(0,1,.t 21),(1,1,.t 23),(2,1,.t 25),(3,1,.t 27)]),iv 29 (.slit 4 1 [.int .i64 0,.int .i64 0,.int .i64 0,.nsl] [(0,.t 28)]),ic 30 (.app 4 false (.t 19) (.t 29)),Fa 31 2 3,Sx 31 30]))) (.reg [Bi 32 .add 14 1,Mv 14 32])))
def zgX:AC:=.seq (.reg [iv 1 (.boxv (.t 0)),ic 2 (.alloc [.int .i64 0,.nsl,.nsl])]) (.seq (.reg [Fa 6 0 1,Ld 7 6,Fa 8 1 1,Ld 9 8,iv 10 (.build [.int .i64 0,.nsl,.nsl] [(0,1,.t 7),(1,1,.t 9)]),ic 3 (.alloc [.int .i64 0,.nsl,.nsl]),jc (.st 3 (.t 3) (.t 10))]) (.seq (.seq (.reg [Fa 11 2 1,Ld 12 11,iv 13 (.lenL (.t 12)),iv 14 (.mv (.k (.int .i64 0)))]) (.blk 0 (.loop zd4))) (.seq (.reg [ir 33 (.ld 3 true (.t 3)),jc (.st 3 (.t 2) (.t 33))]) (.ret))))
def zkD:AFn:=⟨34,zgX,[.cell 2 3 true],none⟩
def zel:AC:=.seq (.reg [iv 0 (.mv (.k (.bool false)))]) (.seq (.reg [iv 1 (.build [.int .i64 0,.nsl] []),iv 2 (.build [.int .i64 0,.nsl] [(0,1,.k (.int .i64 10))]),iv 3 (.slit 2 2 [.int .i64 0,.nsl] [(0,.t 1),(1,.t 2)]),ic 4 (.call zdW [.t 3]),iv 5 (.bin .eql (.t 4) (.k (.str ⟨#[48,10,49,48,10]⟩))),Mv 0 5]) (.ret))
def zhb:AFn:=⟨6,zel,[.tmp 0],none⟩
def zbb:AC:=.seq (.reg [Bt 9 .lss 8 7]) (.seq (.cond (.t 9) (.skip) (.exit 0)) (.seq (.blk 1 (.seq (.reg [iv 10 (.iadr none 4 (.t 6) (.t 8)),ir 11 (.ld 4 true (.t 10)),ic 4 (.alloc [.int .i64 0,.int .i64 0,.int .i64 0,.nsl]),jc (.st 4 (.t 4) (.t 11))]) (.seq (.reg [Fa 12 3 4,Ld 13 12,iv 14 (.lenL (.t 13)),Bi 15 .gtr 14 300,Mv 16 15,Gv 17 (.fadr 2 (.t 4)) 16 false [],Gr 18 (.ld 1 false (.t 17)) 16 false [] 0 0,Gv 19 (.bin .gtr (.t 18) (.k (.int .i64 60))) 16 false [],Gv 20 (.mv (.t 19)) 16 false [],Gv 21 (.fadr 2 (.t 4)) 20 true [],Gr 22 (.ld 1 false (.t 21)) 20 true [] 0 0,Gv 23 (.bin .leq (.t 22) (.k (.int .i64 1048576))) 20 true [],Gv 24 (.pick (.t 20) (.t 23) (.k (.bool false))) 16 false [],iv 25 (.pick (.t 16) (.k (.bool true)) (.t 24))]) (.cond (.t 25) (.seq (.reg [iv 2 (.mv (.k (.bool true)))]) (.ret)) (.skip))))) (.reg [Bi 26 .add 8 1,Mv 8 26])))
def zcy:AC:=.seq (.reg [iv 1 (.boxv (.t 0)),iv 2 (.mv (.k (.bool false)))]) (.seq (.seq (.reg [Fa 5 2 1,Ld 6 5,iv 7 (.lenL (.t 6)),iv 8 (.mv (.k (.int .i64 0)))]) (.blk 0 (.loop zbb))) (.seq (.reg [Fa 27 1 1,Ld 28 27,iv 29 (.lenL (.t 28)),Bi 30 .gtr 29 1000,Mv 31 30,Gv 32 (.fadr 2 (.t 1)) 31 false [],Gr 33 (.ld 1 false (.t 32)) 31 false [] 0 0,Gv 34 (.lenL (.t 33)) 31 false [],Gv 35 (.bin .gtr (.t 34) (.k (.int .i64 12))) 31 false [],iv 36 (.pick (.t 31) (.k (.bool true)) (.t 35)),Mv 37 36,Gv 38 (.fadr 0 (.t 1)) 37 false [],Gr 39 (.ld 1 false (.t 38)) 37 false [] 0 0,Gv 40 (.bin .eql (.t 39) (.k (.int .i64 2))) 37 false [],iv 41 (.pick (.t 37) (.k (.bool true)) (.t 40)),Mv 2 41]) (.ret)))
def ziA:AFn:=⟨42,zcy,[.tmp 2],none⟩
def zde:AC:=.seq (.reg [iv 4 (.mv (.k (.nilp))),iv 5 (.mv (.k (.int .i64 0))),iv 6 (.mv (.k (.int .i64 0)))]) (.seq (.seq (.reg [Mv 11 0,Bi 12 .neq 11 1,Mv 13 12,Gv 14 (.mv (.t 0)) 13 true [],Gv 15 (.bin .neq (.t 14) (.k (.int .i64 2))) 13 true [],iv 16 (.pick (.t 13) (.t 15) (.k (.bool false)))]) (.cond (.t 16) (.seq (.reg [iv 4 (.mv (.k (.nilp))),iv 5 (.mv (.k (.int .i64 (-1)))),iv 6 (.mv (.k (.int .i64 15)))]) (.ret)) (.skip))) (.seq (.reg [Mv 18 1,ic 19 (.call zj7 [.t 18]),Mv 17 19,Ex 20 17 0,Ex 21 17 1,Ex 22 17 2,Mv 7 20,Mv 8 21,Mv 9 22]) (.seq (.seq (.reg [Mv 23 9,Bi 24 .neq 23 0]) (.cond (.t 24) (.seq (.reg [Mv 25 8,Mv 26 9,iv 4 (.mv (.k (.nilp))),Mv 5 25,Mv 6 26]) (.ret)) (.skip))) (.seq (.reg [Mv 27 7,iv 28 (.build [.nilp,.int .u8 0,.int .u8 0,.int .u8 0,.int .u8 0,.int .u8 0,.int .u8 0,.int .u8 0,.int .u8 0,.int .u8 0,.int .u8 0,.int .u8 0,.int .u8 0,.int .u8 0,.int .u8 0,.int .u8 0,.int .u8 0,.int .u8 0,.int .u8 0,.int .u8 0,.int .u8 0,.int .u8 0,.int .u8 0,.int .u8 0,.int .u8 0,.int .u8 0,.int .u8 0,.int .u8 0,.int .u8 0,.int .u8 0,.int .u8 0,.int .u8 0,.int .u8 0,.nif] [(0,1,.t 27)]),ic 29 (.box (.t 28)),Mv 10 29]) (.seq (.reg [Mv 31 10,Mv 32 0,Mv 33 7,ir 34 (.call zb6 [.t 33]),ir 35 (.call zoD [.t 32,.t 34]),Mv 30 35,Ex 36 30 0,Ex 37 30 1,Ex 38 30 2,Nk 39 31,Fa 40 1 39,jc (.st 32 (.t 40) (.t 36))]) (.seq (.reg [Mv 41 10,Mv 42 10,Nk 43 42,Fa 44 1 43,ir 45 (.ld 32 true (.t 44)),ic 46 (.call zhn [.t 45]),iv 47 (.build [.nilp] [(0,1,.t 46)]),iv 48 (.mkif 109 (.t 47)),Nk 49 41,Fa 50 33 49,Sx 50 48]) (.seq (.seq (.reg [Mv 51 0,Bi 52 .eql 51 2]) (.cond (.t 52) (.reg [Mv 53 10,Mv 54 10,Nk 55 54,Fa 56 1 55,ir 57 (.ld 32 true (.t 56)),ic 58 (.call zmY [.t 57]),iv 59 (.build [.nilp] [(0,1,.t 58)]),iv 60 (.mkif 113 (.t 59)),Nk 61 53,Fa 62 33 61,Sx 62 60]) (.skip))) (.seq (.reg [Mv 63 10,Mv 4 63,iv 5 (.mv (.k (.int .i64 (-1)))),iv 6 (.mv (.k (.int .i64 0)))]) (.ret)))))))))
def zkE:AFn:=⟨64,zde,[.tmp 4,.tmp 5,.tmp 6],none⟩
def zcV:AC:=.seq (.reg [Bt 50 .lss 49 48]) (.seq (.cond (.t 50) (.skip) (.exit 1)) (.seq (.blk 2 (.seq (.reg [iv 51 (.iadr none 4 (.t 47) (.t 49)),ir 52 (.ld 4 true (.t 51)),ic 11 (.alloc (zaR (.int .u64 0) 4)),jc (.st 4 (.t 11) (.t 52))]) (.seq (.reg [ir 53 (.ld 4 true (.t 11)),ir 54 (.call zcv [.t 53]),ic 12 (.alloc (zaR (.int .u8 0) 32)),jc (.st 32 (.t 12) (.t 54))]) (.draw [Dv 55 (.fadr 1 (.t 9)) [9],Dr 56 (.ld 1 false (.t 55)) [55] 0 0,Dv 57 (.slice (.arr 32) 1 (.t 12) none none none) [12],Dc 58 (.app 1 false (.t 56) (.t 57)) [56,57],Dv 59 (.fadr 1 (.t 9)) [9],Dn (.st 1 (.t 59) (.t 58)) [59,58]])))) (.reg [Bi 60 .add 49 1,Mv 49 60])))
def zbE:AC:=.seq (.reg [iv 2 (.boxv (.t 0)),ic 4 (.alloc [.int .i64 0,.nsl])]) (.seq (.seq (.reg [Fa 13 0 2,Ld 14 13]) (.blk 0 (.seq (.reg [Bi 16 .eql 14 0,Mv 15 16]) (.cond (.t 15) (.seq (.reg [Mv 17 1,Fa 18 1 2,Ld 19 18,Fa 20 3 2,Ld 21 20,ic 22 (.call za3 [.t 17,.t 19,.t 21]),iv 23 (.build [.int .i64 0,.nsl] [(0,1,.t 22)]),jc (.st 2 (.t 4) (.t 23))]) (.ret)) (.seq (.reg [Bi 25 .eql 14 1,Mv 24 25]) (.cond (.t 24) (.seq (.reg [Mv 27 1,Fa 28 2 2,Ld 29 28,ic 30 (.call zaV [.t 27,.t 29]),Mv 26 30,Ex 31 26 0,Ex 32 26 1,Mv 5 31,Mv 6 32]) (.seq (.reg [Mv 33 6,Mv 34 5,iv 35 (.build [.int .i64 0,.nsl] [(0,1,.t 33),(1,1,.t 34)]),jc (.st 2 (.t 4) (.t 35))]) (.ret))) (.seq (.reg [Bi 37 .eql 14 2,Mv 36 37]) (.cond (.t 36) (.seq (.reg [Mv 39 1,Fa 40 2 2,Ld 41 40,ic 42 (.call zaL [.t 39,.t 41]),Mv 38 42,Ex 43 38 0,Ex 44 38 1,Mv 7 43,Mv 8 44]) (.seq (.reg [Mv 45 8,iv 46 (.build [.int .i64 0,.nsl] [(0,1,.t 45)]),ic 9 (.alloc [.int .i64 0,.nsl]),jc (.st 2 (.t 9) (.t 46))]) (.seq (.seq (.reg [Mv 47 7,iv 48 (.lenL (.t 47)),iv 49 (.mv (.k (.int .i64 0)))]) (.blk 1 (.loop zcV))) (.seq (.reg [ir 61 (.ld 2 true (.t 9)),jc (.st 2 (.t 4) (.t 61))]) (.ret))))) (.seq (.reg [Bi 63 .eql 14 3,Mv 62 63]) (.cond (.t 62) (.seq (.reg [Mv 64 1,ic 65 (.call zaW [.t 64]),iv 66 (.build [.int .i64 0,.nsl] [(0,1,.t 65)]),jc (.st 2 (.t 4) (.t 66))]) (.ret)) (.skip))))))))))) (.seq (.reg [Mv 67 1,ic 68 (.call za4 [.t 67]),iv 69 (.build [.int .i64 0,.nsl] [(0,1,.t 68)]),jc (.st 2 (.t 4) (.t 69))]) (.ret)))
def zkF:AFn:=⟨70,zbE,[.cell 4 2 true],none⟩
def zkh:AC:=.seq (.reg [iv 2 (.mv (.k (.nilp))),iv 3 (.mv (.k (.int .i64 0))),iv 4 (.mv (.k (.int .i64 0)))]) (.seq (.reg [Mv 9 0,ir 10 (.call zfw [.t 9]),Mv 8 10,Ex 11 8 0,Ex 12 8 1,Ex 13 8 2,Mv 5 11,Mv 6 12,Mv 7 13]) (.seq (.seq (.reg [Mv 14 7,Bi 15 .neq 14 0]) (.cond (.t 15) (.seq (.reg [Mv 16 6,Mv 17 7,iv 2 (.mv (.k (.nilp))),Mv 3 16,Mv 4 17]) (.ret)) (.skip))) (.seq (.reg [Mv 18 5,iv 19 (.build [.nsl,.int .i64 0,.nilp] [(0,1,.t 18)]),ic 20 (.box (.t 19)),Mv 2 20,iv 3 (.mv (.k (.int .i64 (-1)))),iv 4 (.mv (.k (.int .i64 0)))]) (.ret))))
def zsI:AFn:=⟨21,zkh,[.tmp 2,.tmp 3,.tmp 4],none⟩
def zh6:AC:=.seq (.reg [ic 4 (.alloc (zaR (.int .u8 0) 32)),iv 5 (.mv (.k (.int .i64 0))),iv 6 (.mv (.k (.int .i64 0)))]) (.seq (.seq (.reg [Mv 10 0,Bi 11 .neq 10 1,Mv 12 11,Gv 13 (.mv (.t 0)) 12 true [],Gv 14 (.bin .neq (.t 13) (.k (.int .i64 2))) 12 true [],iv 15 (.pick (.t 12) (.t 14) (.k (.bool false)))]) (.cond (.t 15) (.seq (.reg [iv 16 (.build (zaR (.int .u8 0) 32) []),jc (.st 32 (.t 4) (.t 16)),iv 5 (.mv (.k (.int .i64 (-1)))),iv 6 (.mv (.k (.int .i64 15)))]) (.ret)) (.skip))) (.seq (.reg [Mv 18 1,ir 19 (.call zc4 [.t 18]),Mv 17 19,Ex 20 17 0,Ex 21 17 1,Ex 22 17 2,Mv 7 20,Mv 8 21,Mv 9 22]) (.seq (.seq (.reg [Mv 23 9,Bi 24 .neq 23 0]) (.cond (.t 24) (.seq (.reg [iv 25 (.build (zaR (.int .u8 0) 32) []),Mv 26 8,Mv 27 9,jc (.st 32 (.t 4) (.t 25)),Mv 5 26,Mv 6 27]) (.ret)) (.skip))) (.seq (.reg [ic 28 (.slit 1 19 [.int .u8 0] [(0,.k (.int .u8 97)),(1,.k (.int .u8 118)),(2,.k (.int .u8 111)),(3,.k (.int .u8 117)),(4,.k (.int .u8 99)),(5,.k (.int .u8 104)),(6,.k (.int .u8 47)),(7,.k (.int .u8 116)),(8,.k (.int .u8 114)),(9,.k (.int .u8 97)),(10,.k (.int .u8 110)),(11,.k (.int .u8 115)),(12,.k (.int .u8 99)),(13,.k (.int .u8 114)),(14,.k (.int .u8 105)),(15,.k (.int .u8 112)),(16,.k (.int .u8 116)),(17,.k (.int .u8 47)),(18,.k (.int .u8 49))]),ir 29 (.mark (.t 28)),Mv 30 0,iv 31 (.i2i .u8 (.t 30)),iv 32 (.slit 1 1 [.int .u8 0] [(0,.t 31)]),Mv 33 7,iv 34 (.slit 1 3 [.nsl] [(0,.t 29),(1,.t 32),(2,.t 33)]),ir 35 (.call zgA [.t 34]),jc (.st 32 (.t 4) (.t 35)),iv 5 (.mv (.k (.int .i64 (-1)))),iv 6 (.mv (.k (.int .i64 0)))]) (.ret)))))
def zxh:AFn:=⟨36,zh6,[.cell 4 32 true,.tmp 5,.tmp 6],none⟩
def zeT:AC:=.seq (.reg [iv 2 (.mv (.k (.nsl)))]) (.seq (.reg [Mv 3 0,Nk 4 3,Fa 5 0 4,Ld 6 5,ir 7 (.call zbn [.t 6]),Mv 2 7]) (.ret))
def zh7:AFn:=⟨8,zeT,[.tmp 2],none⟩
def zki:AC:=.seq (.reg [iv 1 (.boxv (.t 0)),iv 2 (.mv (.k (.nilp)))]) (.seq (.draw [ir 3 (.call zfy []),Dv 4 (.slice (.arr 32) 1 (.t 1) none none none) [1],Dc 5 (.call zfx [.t 3,.t 4]) [3,4],Dm 2 5]) (.ret))
def zpa:AFn:=⟨6,zki,[.tmp 2],none⟩
def ztw:AC:=.seq (.reg [iv 1 (.boxv (.t 0)),iv 2 (.mv (.k (.nilp)))]) (.seq (.draw [ic 3 (.call zjr []),Dr 4 (.ld 32 true (.t 1)) [1] 0 1,Dr 5 (.call zoU [.t 4]) [4] 1 1,Dv 6 (.slit 4 1 (zaR (.int .u64 0) 4) [(0,.t 5)]) [5],Dc 7 (.call ze6 [.t 3,.t 6]) [3,6],Dm 2 7]) (.ret))
def zm2:AFn:=⟨8,ztw,[.tmp 2],none⟩
def zat:AC:=.seq (.reg [iv 6 (.mv (.k (.int .i64 0)))]) (.seq (.seq (.reg [Mv 13 0,ic 14 (.call zbo [.t 13]),Mv 7 14]) (.seq (.reg [Mv 15 7,Bi 16 .neq 15 0]) (.cond (.t 16) (.seq (.reg [Mv 17 7,Mv 6 17]) (.ret)) (.skip)))) (.seq (.reg [Mv 19 1,Mv 20 2,ir 21 (.call zdf [.t 19,.t 20]),Mv 18 21,Ex 22 18 0,Ex 23 18 1,Mv 8 22,Mv 9 23]) (.seq (.seq (.reg [Mv 24 9,Bi 25 .neq 24 0]) (.cond (.t 25) (.seq (.reg [Mv 26 0,Nk 27 26,Fa 28 0 27,Ld 29 28,Mv 30 9,ic 31 (.call za5 [.t 29,.t 30]),Mv 6 31]) (.ret)) (.skip))) (.seq (.reg [Mv 32 1,Mv 33 8,Mv 34 2,iv 35 (.build [.int .i64 0,.int .i64 0,.int .i64 0,.nsl] [(0,1,.k (.int .i64 1)),(1,1,.t 32),(2,1,.t 33),(3,1,.t 34)]),ic 10 (.alloc [.int .i64 0,.int .i64 0,.int .i64 0,.nsl]),jc (.st 4 (.t 10) (.t 35))]) (.seq (.seq (.reg [Mv 36 0,ir 37 (.ld 4 true (.t 10)),ic 38 (.call zav [.t 36,.t 37]),Mv 11 38]) (.seq (.reg [Mv 39 11,Bi 40 .neq 39 0]) (.cond (.t 40) (.seq (.reg [Mv 41 11,Mv 6 41]) (.ret)) (.skip)))) (.seq (.seq (.reg [Mv 42 1,Mv 43 2,ir 44 (.call zev [.t 42,.t 43]),Mv 12 44]) (.seq (.reg [Mv 45 12,Bi 46 .neq 45 0]) (.cond (.t 46) (.seq (.reg [Mv 47 0,Nk 48 47,Fa 49 0 48,Ld 50 49,Mv 51 12,ic 52 (.call za5 [.t 50,.t 51]),Mv 6 52]) (.ret)) (.skip)))) (.seq (.draw [Dm 53 0,Dv 54 (.nck (.t 53)) [53],Dv 55 (.fadr 33 (.t 54)) [54],Dr 56 (.ld 1 false (.t 55)) [55] 0 0,Dr 57 (.ld 4 true (.t 10)) [10] 0 0,Dc 58 (.inv (.t 56) "avouch/transcript.tell" [.t 57]) [56,57]]) (.seq (.reg [iv 6 (.mv (.k (.int .i64 0)))]) (.ret)))))))))
def zc1:AFn:=⟨59,zat,[.tmp 6],none⟩
def zaX:AC:=.seq (.reg [iv 4 (.mv (.k (.nsl))),iv 5 (.mv (.k (.int .i64 0)))]) (.seq (.reg [Mv 8 1,iv 9 (.build [.int .i64 0,.int .i64 0,.int .i64 0,.nsl] [(0,1,.k (.int .i64 2)),(1,1,.k (.int .i64 1)),(2,1,.t 8)]),ic 6 (.alloc [.int .i64 0,.int .i64 0,.int .i64 0,.nsl]),jc (.st 4 (.t 6) (.t 9))]) (.seq (.seq (.reg [Mv 10 0,ir 11 (.ld 4 true (.t 6)),ic 12 (.call zav [.t 10,.t 11]),Mv 7 12]) (.seq (.reg [Mv 13 7,Bi 14 .neq 13 0]) (.cond (.t 14) (.seq (.reg [Mv 15 7,iv 4 (.mv (.k (.nsl))),Mv 5 15]) (.ret)) (.skip)))) (.seq (.draw [Dm 16 0,Dv 17 (.nck (.t 16)) [16],Dv 18 (.fadr 33 (.t 17)) [17],Dr 19 (.ld 1 false (.t 18)) [18] 0 0,Dr 20 (.ld 4 true (.t 6)) [6] 0 0,Dc 21 (.inv (.t 19) "avouch/transcript.tell" [.t 20]) [19,20]]) (.seq (.reg [Mv 22 0,Nk 23 22,Fa 24 33 23,Ld 25 24,Mv 26 1,ic 27 (.inv (.t 25) "avouch/transcript.bytes" [.t 26]),Mv 4 27,iv 5 (.mv (.k (.int .i64 0)))]) (.ret)))))
def zcW:AFn:=⟨28,zaX,[.tmp 4,.tmp 5],none⟩
def zaD:AC:=.seq (.reg [iv 4 (.mv (.k (.nsl))),iv 5 (.mv (.k (.int .i64 0)))]) (.seq (.reg [Mv 10 1,iv 11 (.build [.int .i64 0,.int .i64 0,.int .i64 0,.nsl] [(0,1,.k (.int .i64 2)),(1,1,.k (.int .i64 3)),(2,1,.t 10)]),ic 6 (.alloc [.int .i64 0,.int .i64 0,.int .i64 0,.nsl]),jc (.st 4 (.t 6) (.t 11))]) (.seq (.seq (.reg [Mv 12 0,ir 13 (.ld 4 true (.t 6)),ic 14 (.call zav [.t 12,.t 13]),Mv 7 14]) (.seq (.reg [Mv 15 7,Bi 16 .neq 15 0]) (.cond (.t 16) (.seq (.reg [Mv 17 7,iv 4 (.mv (.k (.nsl))),Mv 5 17]) (.ret)) (.skip)))) (.seq (.draw [Dm 18 0,Dv 19 (.nck (.t 18)) [18],Dv 20 (.fadr 33 (.t 19)) [19],Dr 21 (.ld 1 false (.t 20)) [20] 0 0,Dr 22 (.ld 4 true (.t 6)) [6] 0 0,Dc 23 (.inv (.t 21) "avouch/transcript.tell" [.t 22]) [21,22]]) (.seq (.reg [Mv 25 0,Nk 26 25,Fa 27 33 26,Ld 28 27,Mv 29 1,ic 30 (.inv (.t 28) "avouch/transcript.fields" [.t 29]),Mv 24 30,Ex 31 24 0,Ex 32 24 1,Mv 8 31,Mv 9 32]) (.seq (.seq (.reg [Mv 33 9,Bi 34 .neq 33 0]) (.cond (.t 34) (.seq (.reg [Mv 35 0,Nk 36 35,Fa 37 0 36,Ld 38 37,Mv 39 9,ic 40 (.call za5 [.t 38,.t 39]),iv 4 (.mv (.k (.nsl))),Mv 5 40]) (.ret)) (.skip))) (.seq (.reg [Mv 41 8,Mv 4 41,iv 5 (.mv (.k (.int .i64 0)))]) (.ret)))))))
def zcz:AFn:=⟨42,zaD,[.tmp 4,.tmp 5],none⟩
def zdM:AC:=.seq (.reg [iv 1 (.boxv (.t 0)),ic 2 (.alloc (zaR (.int .u8 0) 32))]) (.seq (.reg [ir 4 (.ld 4 true (.t 1)),ir 5 (.call zcx [.t 4]),ic 3 (.alloc (zaR (.int .u64 0) 4)),jc (.st 4 (.t 3) (.t 5))]) (.seq (.reg [iv 6 (.slice (.arr 4) 1 (.t 3) none none none),ir 7 (.call zgC [.t 6]),iv 8 (.s2a 32 (.t 7)),ir 9 (.ld 32 true (.t 8)),jc (.st 32 (.t 2) (.t 9))]) (.ret)))
def zgG:AFn:=⟨10,zdM,[.cell 2 32 true],none⟩
def zaY:AC:=.seq (.reg [iv 2 (.mv (.k (.int .i64 0)))]) (.seq (.reg [iv 5 (.build [.int .i64 0,.int .i64 0,.int .i64 0,.nsl] [(0,1,.k (.int .i64 3)),(1,1,.k (.int .i64 0)),(2,1,.k (.int .i64 1))]),ic 3 (.alloc [.int .i64 0,.int .i64 0,.int .i64 0,.nsl]),jc (.st 4 (.t 3) (.t 5))]) (.seq (.reg [Mv 6 0,ir 7 (.ld 4 true (.t 3)),ic 8 (.call zav [.t 6,.t 7]),Mv 4 8]) (.seq (.seq (.reg [Mv 9 4,Bi 10 .eql 9 0]) (.cond (.t 10) (.seq (.draw [Dm 11 0,Dv 12 (.nck (.t 11)) [11],Dv 13 (.fadr 33 (.t 12)) [12],Dr 14 (.ld 1 false (.t 13)) [13] 0 0,Dr 15 (.ld 4 true (.t 3)) [3] 0 0,Dc 16 (.inv (.t 14) "avouch/transcript.tell" [.t 15]) [14,15]]) (.reg [Mv 17 0,Nk 18 17,Fa 19 33 18,Ld 20 19,ic 21 (.inv (.t 20) "Ratchet" [])])) (.skip))) (.seq (.reg [Mv 22 4,Mv 2 22]) (.ret)))))
def zcX:AFn:=⟨23,zaY,[.tmp 2],none⟩
def zbz:AC:=.seq (.reg [iv 2 (.mv (.k (.int .i64 0)))]) (.seq (.reg [Mv 3 0,Nk 4 3,Fa 5 0 4,Ld 6 5,ic 7 (.call zcJ [.t 6]),Mv 2 7]) (.ret))
def zc2:AFn:=⟨8,zbz,[.tmp 2],none⟩
def zcm:AC:=.seq (.seq (.reg [Mv 10 0,iv 11 (.lenL (.t 10)),Bi 12 .gtr 11 0]) (.cond (.t 12) (.skip) (.exit 0))) (.seq (.blk 1 (.seq (.seq (.reg [Mv 15 6,Bi 16 .eql 15 1024]) (.cond (.t 16) (.seq (.reg [Mv 17 6,iv 2 (.mv (.k (.nsl))),Mv 3 17,iv 4 (.mv (.k (.int .i64 9)))]) (.ret)) (.skip))) (.seq (.reg [Mv 19 0,ir 20 (.call zho [.t 19]),Mv 18 20,Ex 21 18 0,Ex 22 18 1,Ex 23 18 2,ic 7 (.alloc [.int .i64 0,.int .i64 0,.int .i64 0,.str ⟨#[]⟩]),jc (.st 4 (.t 7) (.t 21)),Mv 8 22,Mv 9 23]) (.seq (.seq (.reg [Mv 24 9,Bi 25 .neq 24 0]) (.cond (.t 25) (.seq (.reg [Mv 26 6,Mv 27 9,iv 2 (.mv (.k (.nsl))),Mv 3 26,Mv 4 27]) (.ret)) (.skip))) (.seq (.reg [Mv 28 5,ir 29 (.ld 4 true (.t 7)),iv 30 (.slit 4 1 [.int .i64 0,.int .i64 0,.int .i64 0,.str ⟨#[]⟩] [(0,.t 29)]),ic 31 (.app 4 false (.t 28) (.t 30)),Mv 5 31]) (.reg [Mv 32 8,Mv 0 32])))))) (.reg [Mv 13 6,Bi 14 .add 13 1,Mv 6 14]))
def zh8:AC:=.seq (.reg [iv 2 (.mv (.k (.nsl))),iv 3 (.mv (.k (.int .i64 0))),iv 4 (.mv (.k (.int .i64 0)))]) (.seq (.reg [iv 5 (.mv (.k (.nsl)))]) (.seq (.seq (.reg [iv 6 (.mv (.k (.int .i64 0)))]) (.blk 0 (.loop zcm))) (.seq (.reg [Mv 33 5,Mv 2 33,iv 3 (.mv (.k (.int .i64 (-1)))),iv 4 (.mv (.k (.int .i64 0)))]) (.ret))))
def zl0:AFn:=⟨34,zh8,[.tmp 2,.tmp 3,.tmp 4],none⟩
def zbq:AC:=.seq (.reg [Bt 13 .lss 12 11]) (.seq (.cond (.t 13) (.skip) (.exit 0)) (.seq (.blk 1 (.seq (.reg [Mv 14 12,iv 15 (.iadr none 4 (.t 10) (.t 12)),ir 16 (.ld 4 true (.t 15)),ic 7 (.alloc [.int .i64 0,.int .i64 0,.int .i64 0,.str ⟨#[]⟩]),Mv 6 14,jc (.st 4 (.t 7) (.t 16))]) (.seq (.seq (.reg [Mv 17 6,Bi 18 .eql 17 1024]) (.cond (.t 18) (.seq (.reg [Mv 19 6,iv 2 (.mv (.k (.nsl))),Mv 3 19,iv 4 (.mv (.k (.int .i64 9)))]) (.ret)) (.skip))) (.seq (.reg [ir 21 (.ld 4 true (.t 7)),ir 22 (.call zhp [.t 21]),Mv 20 22,Ex 23 20 0,Ex 24 20 1,Mv 8 23,Mv 9 24]) (.seq (.seq (.reg [Mv 25 9,Bi 26 .neq 25 0]) (.cond (.t 26) (.seq (.reg [Mv 27 6,Mv 28 9,iv 2 (.mv (.k (.nsl))),Mv 3 27,Mv 4 28]) (.ret)) (.skip))) (.reg [Mv 29 5,Mv 30 8,ic 31 (.app 1 false (.t 29) (.t 30)),Mv 5 31])))))) (.reg [Bi 32 .add 12 1,Mv 12 32])))
def zeV:AC:=.seq (.reg [iv 2 (.mv (.k (.nsl))),iv 3 (.mv (.k (.int .i64 0))),iv 4 (.mv (.k (.int .i64 0)))]) (.seq (.reg [iv 5 (.mv (.k (.nsl)))]) (.seq (.seq (.reg [Mv 10 0,iv 11 (.lenL (.t 10)),iv 12 (.mv (.k (.int .i64 0)))]) (.blk 0 (.loop zbq))) (.seq (.reg [Mv 33 5,Mv 2 33,iv 3 (.mv (.k (.int .i64 (-1)))),iv 4 (.mv (.k (.int .i64 0)))]) (.ret))))
def zia:AFn:=⟨34,zeV,[.tmp 2,.tmp 3,.tmp 4],none⟩
def zd6:AC:=.seq (.reg [Bt 9 .lss 8 7]) (.seq (.cond (.t 9) (.skip) (.exit 0)) (.seq (.blk 1 (.seq (.reg [Ia 10 6 8,Ld 11 10,Mv 5 11]) (.reg [Mv 12 5,ic 13 (.call zc6 [.t 3,.t 12])]))) (.reg [Bi 14 .add 8 1,Mv 8 14])))
def zl1:AC:=.seq (.reg [ic 2 (.alloc (zaR (.int .u8 0) 32))]) (.seq (.reg [ic 3 (.alloc [.int .u64 0,.int .u64 0,.int .u64 0,.int .u64 0,.int .u64 0,.int .u64 0,.int .u64 0,.int .u64 0,.int .u64 0,.int .u64 0,.int .u64 0,.int .u64 0,.int .u64 0,.int .u64 0,.int .u64 0,.int .u64 0,.int .u64 0,.int .u64 0,.int .u64 0,.int .u64 0,.int .u64 0,.int .u64 0,.int .u64 0,.int .u64 0,.int .u64 0,.int .i64 0])]) (.seq (.seq (.reg [Mv 6 0,iv 7 (.lenL (.t 6)),iv 8 (.mv (.k (.int .i64 0)))]) (.blk 0 (.loop zd6))) (.seq (.reg [ir 15 (.call zcR [.t 3]),jc (.st 32 (.t 2) (.t 15))]) (.ret))))
def zqs:AFn:=⟨16,zl1,[.cell 2 32 true],none⟩
def zfA:AC:=.seq (.reg [iv 5 (.slit 4 0 [.int .i64 0,.int .i64 0,.int .i64 0,.str ⟨#[]⟩] []),Mv 6 0,ic 7 (.app 4 false (.t 5) (.t 6)),Mv 2 7]) (.ret)
def zcA:AFn:=⟨8,zfA,[.tmp 2],some (.reg [iv 2 (.mv (.k (.nsl)))],3,4,.cond (.t 4)
  (.seq (.reg [iv 2 (.mv (.k (.nsl)))])
  (.ret))
  (.skip))⟩
def zib:AC:=.seq (.reg [iv 4 (.mv (.k (.nilp)))]) (.seq (.reg [Mv 8 0,Mv 9 1,ic 10 (.call zeM [.t 8,.t 9]),Mv 7 10,Ex 11 7 0,Ex 12 7 1,Mv 5 11,Mv 6 12]) (.seq (.reg [Mv 13 5,Mv 4 13]) (.ret)))
def zl3:AFn:=⟨14,zib,[.tmp 4],none⟩
def zic:AC:=.seq (.reg [iv 0 (.mv (.k (.nif)))]) (.seq (.reg [iv 1 (.build [] []),iv 2 (.mkif 230 (.t 1)),Mv 0 2]) (.ret))
def zl4:AFn:=⟨3,zic,[.tmp 0],none⟩
def zjB:AC:=.seq (.reg [iv 4 (.mv (.k (.nilp)))]) (.seq (.reg [Mv 8 0,Mv 9 1,ic 10 (.call zex [.t 8,.t 9]),Mv 7 10,Ex 11 7 0,Ex 12 7 1,Mv 5 11,Mv 6 12]) (.seq (.reg [Mv 13 5,Mv 4 13]) (.ret)))
def zfa:AFn:=⟨14,zjB,[.tmp 4],none⟩
def zp5:AC:=.seq (.reg [iv 0 (.mv (.k (.nif)))]) (.seq (.reg [ic 1 (.call zm0 []),iv 2 (.build [.nilp] [(0,1,.t 1)]),iv 3 (.mkif 236 (.t 2)),Mv 0 3]) (.ret))
def zjC:AFn:=⟨4,zp5,[.tmp 0],none⟩
def zvE:AC:=.seq (.reg [ic 1 (.box (.t 0)),ic 2 (.alloc (zaR (.int .u64 0) 4))]) (.seq (.reg [iv 3 (.slice (.arr 32) 1 (.t 1) none none none),ir 4 (.call zkA [.t 3]),jc (.st 4 (.t 2) (.t 4))]) (.ret))
def zpd:AFn:=⟨5,zvE,[.cell 2 4 true],none⟩
def zcb:AC:=.seq (.reg [iv 2 (.mv (.k (.int .i64 0)))]) (.seq (.reg [Mv 3 0,Nk 4 3,Fa 5 0 4,Ld 6 5,ic 7 (.call za5 [.t 6,.k (.int .i64 0)]),Mv 2 7]) (.ret))
def zdO:AFn:=⟨8,zcb,[.tmp 2],none⟩
def zcD:AC:=.seq (.reg [iv 4 (.mv (.k (.int .i64 0))),iv 5 (.mv (.k (.int .i64 0)))]) (.seq (.reg [Mv 7 0,ir 8 (.call zhq [.t 7]),Mv 6 8]) (.seq (.blk 0 (.seq (.reg [Mv 10 6,Bi 11 .eql 10 0,Mv 9 11]) (.cond (.t 9) (.seq (.reg [iv 4 (.mv (.k (.int .i64 0))),iv 5 (.mv (.k (.int .i64 6)))]) (.ret)) (.seq (.reg [Mv 13 1,iv 14 (.lenL (.t 13)),Mv 15 6,Bt 16 .rem 14 15,Bi 17 .neq 16 0,Mv 12 17]) (.cond (.t 12) (.seq (.reg [iv 4 (.mv (.k (.int .i64 0))),iv 5 (.mv (.k (.int .i64 3)))]) (.ret)) (.seq (.reg [Mv 19 1,iv 20 (.lenL (.t 19)),Bi 21 .eql 20 0,Mv 22 21,Gv 23 (.mv (.t 1)) 22 false [],Gv 24 (.lenL (.t 23)) 22 false [],Gv 25 (.mv (.t 6)) 22 false [],Gv 26 (.bin .quo (.t 24) (.t 25)) 22 false [],Gv 27 (.bin .gtr (.t 26) (.k (.int .i64 1048576))) 22 false [],iv 28 (.pick (.t 22) (.k (.bool true)) (.t 27)),Mv 18 28]) (.cond (.t 18) (.seq (.reg [iv 4 (.mv (.k (.int .i64 0))),iv 5 (.mv (.k (.int .i64 7)))]) (.ret)) (.skip)))))))) (.seq (.reg [Mv 29 1,iv 30 (.lenL (.t 29)),Mv 31 6,Bt 32 .quo 30 31,Mv 4 32,iv 5 (.mv (.k (.int .i64 0)))]) (.ret))))
def zm4:AFn:=⟨33,zcD,[.tmp 4,.tmp 5],none⟩
def zcB:AC:=.seq (.reg [iv 4 (.mv (.k (.int .i64 0)))]) (.seq (.seq (.reg [Mv 5 0,Nk 6 5,Fa 7 2 6,Ld 8 7,iv 9 (.eq .ptr false (.t 8) (.k (.nilp))),Mv 10 9,Gv 11 (.mv (.t 1)) 10 true [],Gv 12 (.bin .neq (.t 11) (.k (.int .i64 0))) 10 true [],iv 13 (.pick (.t 10) (.t 12) (.k (.bool false)))]) (.cond (.t 13) (.reg [Mv 14 0,Mv 15 1,iv 16 (.build [.int .i64 0] [(0,1,.t 15)]),iv 17 (.boxv (.t 16)),Nk 18 14,Fa 19 2 18,Sx 19 17]) (.skip))) (.seq (.seq (.reg [Mv 20 0,Nk 21 20,Fa 22 2 21,Ld 23 22,iv 24 (.eq .ptr false (.t 23) (.k (.nilp)))]) (.cond (.t 24) (.seq (.reg [iv 4 (.mv (.k (.int .i64 0)))]) (.ret)) (.skip))) (.seq (.reg [Mv 25 0,Nk 26 25,Fa 27 2 26,Ld 28 27,Nk 29 28,Fa 30 0 29,Ld 31 30,Mv 4 31]) (.ret))))
def ziC:AFn:=⟨32,zcB,[.tmp 4],none⟩
def zbR:AC:=.seq (.reg [iv 3 (.boxv (.t 1)),iv 4 (.mv (.k (.int .i64 0)))]) (.seq (.draw [Dm 5 0,Dv 6 (.nck (.t 5)) [5],Dv 7 (.fadr 0 (.t 6)) [6],Dr 8 (.ld 1 false (.t 7)) [7] 0 0,Dv 9 (.fadr 0 (.t 3)) [3],Dr 10 (.ld 1 false (.t 9)) [9] 0 0,Dv 11 (.fadr 1 (.t 3)) [3],Dr 12 (.ld 1 false (.t 11)) [11] 0 0,Dv 13 (.fadr 2 (.t 3)) [3],Dr 14 (.ld 1 false (.t 13)) [13] 0 0,Dc 15 (.call zdp [.t 8,.t 10,.t 12,.t 14]) [8,10,12,14],Dm 4 15]) (.ret))
def zdq:AFn:=⟨16,zbR,[.tmp 4],none⟩
def zcM:AC:=.seq (.seq (.reg [Fa 20 1 7,Ld 21 20,iv 22 (.eq .fn true (.t 21) (.k (.nfn))),Mv 23 22,Gv 24 (.mv (.t 8)) 23 true [],Gv 25 (.mv (.t 1)) 23 true [],Gv 26 (.lenL (.t 25)) 23 true [],Gv 27 (.bin .lss (.t 24) (.t 26)) 23 true [],iv 28 (.pick (.t 23) (.t 27) (.k (.bool false)))]) (.cond (.t 28) (.skip) (.exit 0))) (.seq (.blk 1 (.seq (.draw [Dv 33 (.fadr 1 (.t 7)) [7],Dr 34 (.ld 1 false (.t 33)) [33] 0 0,Dm 35 1,Dm 36 8,Dm 37 8,Dv 38 (.fadr 0 (.t 7)) [7],Dr 39 (.ld 1 false (.t 38)) [38] 0 0,Dv 40 (.bin .add (.t 37) (.t 39)) [37,39],Dv 41 (.slice .slc 1 (.t 35) (some (.t 36)) (some (.t 40)) none) [35,36,40],Dc 42 (.callv (.t 34) [.t 41]) [34,41],Dv 43 (.bin .neq (.t 42) (.k (.int .i64 0))) [42]]) (.cond (.t 43) (.seq (.reg [iv 4 (.mv (.k (.int .i64 4)))]) (.ret)) (.skip)))) (.reg [Mv 29 8,Fa 30 0 7,Ld 31 30,Bt 32 .add 29 31,Mv 8 32]))
def zeq:AC:=.seq (.reg [iv 4 (.mv (.k (.int .i64 0)))]) (.seq (.seq (.reg [Mv 10 0,Mv 11 1,ir 12 (.call zdf [.t 10,.t 11]),Mv 9 12,Ex 13 9 0,Ex 14 9 1,Mv 5 13,Mv 6 14]) (.seq (.reg [Mv 15 6,Bi 16 .neq 15 0]) (.cond (.t 16) (.seq (.reg [Mv 17 6,Mv 4 17]) (.ret)) (.skip)))) (.seq (.reg [Mv 18 0,ir 19 (.call zdH [.t 18]),ic 7 (.alloc [.int .i64 0,.nfn,.nsl]),jc (.st 3 (.t 7) (.t 19))]) (.seq (.seq (.reg [iv 8 (.mv (.k (.int .i64 0)))]) (.blk 0 (.loop zcM))) (.seq (.reg [iv 4 (.mv (.k (.int .i64 0)))]) (.ret)))))
def zmV:AFn:=⟨44,zeq,[.tmp 4],none⟩
def zdB:AC:=.seq (.reg [iv 1 (.boxv (.t 0)),ic 2 (.alloc (zaR (.int .u64 0) 4))]) (.seq (.reg [Fa 3 0 1,ir 4 (.ld 4 true (.t 3)),iv 5 (.build (zaR (.int .u64 0) 4) [(0,1,.k (.int .u64 1))]),ir 6 (.call zcS [.t 4,.t 5]),jc (.st 4 (.t 2) (.t 6))]) (.ret))
def zgm:AFn:=⟨7,zdB,[.cell 2 4 true],none⟩
def zdT:AC:=.seq (.reg [Bi 13 .lss 12 8]) (.seq (.cond (.t 13) (.skip) (.exit 2)) (.seq (.blk 3 (.seq (.reg [Mv 14 3,Mv 15 5,iv 16 (.i2i .u8 (.t 15)),iv 17 (.slit 1 1 [.int .u8 0] [(0,.t 16)]),ic 18 (.app 1 false (.t 14) (.t 17)),Mv 3 18]) (.reg [Mv 19 5,iv 20 (.bin .shr (.t 19) (.k (.int .u64 8))),Mv 5 20]))) (.reg [Bi 21 .add 12 1,Mv 12 21])))
def zhf:AC:=.seq (.reg [Bt 9 .lss 8 7]) (.seq (.cond (.t 9) (.skip) (.exit 0)) (.seq (.blk 1 (.seq (.reg [Ia 10 6 8,Ld 11 10,Mv 5 11]) (.seq (.reg [iv 12 (.mv (.k (.int .i64 0)))]) (.blk 2 (.loop zdT))))) (.reg [Bi 22 .add 8 1,Mv 8 22])))
def zlh:AC:=.seq (.reg [iv 2 (.mv (.k (.nsl)))]) (.seq (.reg [iv 3 (.mv (.k (.nsl)))]) (.seq (.seq (.reg [Mv 6 0,iv 7 (.lenL (.t 6)),iv 8 (.mv (.k (.int .i64 0)))]) (.blk 0 (.loop zhf))) (.seq (.reg [Mv 23 3,Mv 2 23]) (.ret))))
def zqb:AFn:=⟨24,zlh,[.tmp 2],none⟩
def zcG:AC:=.seq (.reg [iv 2 (.mv (.k (.int .i64 0)))]) (.seq (.draw [Dm 3 0,Dm 4 0,Dv 5 (.nck (.t 4)) [4],Dv 6 (.fadr 1 (.t 5)) [5],Dr 7 (.ld 1 false (.t 6)) [6] 0 0,Dm 8 0,Dv 9 (.nck (.t 8)) [8],Dv 10 (.fadr 0 (.t 9)) [9],Dr 11 (.ld 1 false (.t 10)) [10] 0 0,Dv 12 (.lenL (.t 11)) [11],Dv 13 (.bin .eql (.t 7) (.t 12)) [7,12],Dc 14 (.call zbN [.t 3,.t 13,.k (.int .i64 12)]) [3,13],Dm 2 14]) (.ret))
def zg1:AFn:=⟨15,zcG,[.tmp 2],none⟩
def ziI:AC:=.seq (.seq (.reg [Mv 9 7,Mv 10 1,Bt 11 .lss 9 10]) (.cond (.t 11) (.skip) (.exit 0))) (.seq (.blk 1 (.seq (.seq (.reg [Fa 14 2 2,Ld 15 14,Bi 16 .eql 15 136]) (.cond (.t 16) (.seq (.reg [ir 17 (.ld 4 true (.t 2)),ir 18 (.call zeW [.t 17]),jc (.st 4 (.t 2) (.t 18))]) (.seq (.reg [Fa 19 1 2,jc (.st 1 (.t 19) (.k (.int .i64 0)))]) (.reg [Fa 20 2 2,jc (.st 1 (.t 20) (.k (.int .i64 0)))]))) (.skip))) (.seq (.reg [Mv 21 6,Fa 22 0 2,Ld 23 22,Fa 24 2 2,Ld 25 24,Ia 26 23 25,Ld 27 26,iv 28 (.slit 1 1 [.int .u8 0] [(0,.t 27)]),ic 29 (.app 1 false (.t 21) (.t 28)),Mv 6 29]) (.reg [Fa 30 2 2,Ld 31 30,Bi 32 .add 31 1,Fa 33 2 2,Sx 33 32])))) (.reg [Mv 12 7,Bi 13 .add 12 1,Mv 7 13]))
def zjb:AC:=.seq (.reg [ic 2 (.box (.t 0)),ic 4 (.alloc [.nsl,.int .i64 0,.int .i64 0,.int .i64 0]),iv 5 (.mv (.k (.nsl)))]) (.seq (.reg [iv 8 (.slit 1 0 [.int .u8 0] []),Mv 6 8]) (.seq (.seq (.reg [iv 7 (.mv (.k (.int .i64 0)))]) (.blk 0 (.loop ziI))) (.seq (.reg [ir 34 (.ld 4 true (.t 2)),Mv 35 6,jc (.st 4 (.t 4) (.t 34)),Mv 5 35]) (.ret))))
def ze0:AFn:=⟨36,zjb,[.cell 4 4 true,.tmp 5],none⟩
def zfo:AC:=.seq (.reg [ic 2 (.alloc [.int .i64 0,.int .i64 0,.int .i64 0,.str ⟨#[]⟩]),iv 3 (.mv (.k (.nsl))),iv 4 (.mv (.k (.int .i64 0)))]) (.seq (.reg [Mv 9 0,iv 10 (.build [.nsl,.bool false] [(0,1,.t 9)]),ic 11 (.box (.t 10)),Mv 5 11]) (.seq (.reg [Mv 12 5,ic 13 (.call za1 [.t 12,.k (.int .i64 1)]),Mv 14 5,ic 15 (.call za1 [.t 14,.k (.int .i64 1)]),Mv 16 5,ic 17 (.call za1 [.t 16,.k (.int .i64 4)]),iv 18 (.build [.int .i64 0,.int .i64 0,.int .i64 0,.str ⟨#[]⟩] [(0,1,.t 13),(1,1,.t 15),(2,1,.t 17)]),ic 6 (.alloc [.int .i64 0,.int .i64 0,.int .i64 0,.str ⟨#[]⟩]),jc (.st 4 (.t 6) (.t 18))]) (.seq (.reg [Mv 19 5,ic 20 (.call za1 [.t 19,.k (.int .i64 2)]),Mv 7 20]) (.seq (.reg [Mv 21 5,Mv 22 7,ic 23 (.call zco [.t 21,.t 22]),ir 24 (.b2s (.t 23)),Fa 25 3 6,Sx 25 24]) (.seq (.seq (.reg [Mv 26 5,Nk 27 26,Fa 28 1 27,Ld 29 28]) (.cond (.t 29) (.seq (.reg [iv 30 (.build [.int .i64 0,.int .i64 0,.int .i64 0,.str ⟨#[]⟩] []),jc (.st 4 (.t 2) (.t 30)),iv 3 (.mv (.k (.nsl))),iv 4 (.mv (.k (.int .i64 2)))]) (.ret)) (.skip))) (.seq (.seq (.reg [ir 31 (.ld 4 true (.t 6)),ir 32 (.call zdw [.t 31]),Mv 8 32]) (.seq (.reg [Mv 33 8,Bi 34 .neq 33 0]) (.cond (.t 34) (.seq (.reg [iv 35 (.build [.int .i64 0,.int .i64 0,.int .i64 0,.str ⟨#[]⟩] []),Mv 36 8,jc (.st 4 (.t 2) (.t 35)),iv 3 (.mv (.k (.nsl))),Mv 4 36]) (.ret)) (.skip)))) (.seq (.draw [Dr 37 (.ld 4 true (.t 6)) [6] 0 0,Dm 38 5,Dv 39 (.nck (.t 38)) [38],Dv 40 (.fadr 0 (.t 39)) [39],Dr 41 (.ld 1 false (.t 40)) [40] 0 0,Dr 42 (.call zbO [.t 41]) [41] 0 0,Dn (.st 4 (.t 2) (.t 37)) [2,37],Dm 3 42,iv 4 (.mv (.k (.int .i64 0)))]) (.ret))))))))
def zog:AFn:=⟨43,zfo,[.cell 2 4 true,.tmp 3,.tmp 4],none⟩
def zjV:AC:=.seq (.reg [iv 1 (.boxv (.t 0)),iv 2 (.mv (.k (.nsl))),iv 3 (.mv (.k (.int .i64 0)))]) (.seq (.seq (.reg [ir 6 (.ld 4 true (.t 1)),ir 7 (.call zdw [.t 6]),Mv 4 7]) (.seq (.reg [Mv 8 4,Bi 9 .neq 8 0]) (.cond (.t 9) (.seq (.reg [Mv 10 4,iv 2 (.mv (.k (.nsl))),Mv 3 10]) (.ret)) (.skip)))) (.seq (.reg [Fa 11 0 1,Ld 12 11,iv 13 (.i2i .u8 (.t 12)),Fa 14 1 1,Ld 15 14,iv 16 (.i2i .u8 (.t 15)),iv 17 (.slit 1 2 [.int .u8 0] [(0,.t 13),(1,.t 16)]),Fa 18 2 1,Ld 19 18,ic 20 (.call zcp [.t 17,.t 19,.k (.int .i64 4)]),Mv 5 20]) (.seq (.draw [Dm 21 5,Dv 22 (.fadr 3 (.t 1)) [1],Dr 23 (.ld 1 false (.t 22)) [22] 0 0,Dv 24 (.lenS (.t 23)) [23],Dc 25 (.call zcp [.t 21,.t 24,.k (.int .i64 2)]) [21,24],Dv 26 (.fadr 3 (.t 1)) [1],Dr 27 (.ld 1 false (.t 26)) [26] 0 1,Dc 28 (.app 1 false (.t 25) (.t 27)) [25,27],Dm 2 28,iv 3 (.mv (.k (.int .i64 0)))]) (.ret))))
def zoh:AFn:=⟨29,zjV,[.tmp 2,.tmp 3],none⟩
def zbJ:AC:=.seq (.reg [Bt 9 .lss 8 7]) (.seq (.cond (.t 9) (.skip) (.exit 0)) (.seq (.blk 1 (.seq (.reg [Ia 10 6 8,Ld 11 10,Mv 5 11]) (.seq (.reg [Mv 12 0,Mv 13 0,Nk 14 13,Fa 15 25 14,Ld 16 15,Mv 17 5,ic 18 (.call zbc [.t 12,.t 16,.t 17])]) (.seq (.reg [Mv 19 0,Nk 20 19,Fa 21 25 20,Ld 22 21,Bi 23 .add 22 1,Nk 24 19,Fa 25 25 24,Sx 25 23]) (.seq (.reg [Mv 26 0,Nk 27 26,Fa 28 25 27,Ld 29 28,Bi 30 .eql 29 136]) (.cond (.t 30) (.reg [Mv 31 0,Mv 32 0,Mv 33 0,Nk 34 33,Fa 35 0 34,ir 36 (.ld 25 true (.t 35)),ir 37 (.call za6 [.t 36]),Nk 38 31,Fa 39 0 38,jc (.st 25 (.t 39) (.t 37)),Nk 40 32,Fa 41 25 40,jc (.st 1 (.t 41) (.k (.int .i64 0)))]) (.skip))))))) (.reg [Bi 42 .add 8 1,Mv 8 42])))
def zeR:AC:=.seq (.reg [Mv 6 1,iv 7 (.lenL (.t 6)),iv 8 (.mv (.k (.int .i64 0)))]) (.blk 0 (.loop zbJ))
def zhJ:AFn:=⟨43,zeR,[],none⟩
def zfW:AC:=.seq (.reg [ic 2 (.alloc (zaR (.int .u8 0) 32))]) (.seq (.reg [Mv 5 0,Nk 6 5,ir 7 (.ld 26 true (.t 6)),ic 3 (.alloc [.int .u64 0,.int .u64 0,.int .u64 0,.int .u64 0,.int .u64 0,.int .u64 0,.int .u64 0,.int .u64 0,.int .u64 0,.int .u64 0,.int .u64 0,.int .u64 0,.int .u64 0,.int .u64 0,.int .u64 0,.int .u64 0,.int .u64 0,.int .u64 0,.int .u64 0,.int .u64 0,.int .u64 0,.int .u64 0,.int .u64 0,.int .u64 0,.int .u64 0,.int .i64 0]),jc (.st 26 (.t 3) (.t 7))]) (.seq (.reg [Fa 8 25 3,Ld 9 8,ic 10 (.call zbc [.t 3,.t 9,.k (.int .u8 6)])]) (.seq (.reg [ic 11 (.call zbc [.t 3,.k (.int .i64 135),.k (.int .u8 128)])]) (.seq (.reg [Fa 12 0 3,ir 13 (.ld 25 true (.t 12)),ir 14 (.call za6 [.t 13]),ir 15 (.call zbH [.t 14]),ic 4 (.alloc (zaR (.int .u8 0) 200)),jc (.st 200 (.t 4) (.t 15))]) (.seq (.reg [iv 16 (.slice (.arr 200) 1 (.t 4) none (some (.k (.int .i64 32))) none),iv 17 (.s2a 32 (.t 16)),ir 18 (.ld 32 true (.t 17)),jc (.st 32 (.t 2) (.t 18))]) (.ret))))))
def zjc:AFn:=⟨19,zfW,[.cell 2 32 true],none⟩
def zgM:AC:=.seq (.reg [iv 4 (.mv (.k (.nilp))),iv 5 (.mv (.k (.int .i64 0)))]) (.seq (.seq (.reg [Mv 7 1,iv 8 (.lenL (.t 7)),Mv 9 0,ir 10 (.inv (.t 9) "Width" []),Mv 11 0,ir 12 (.inv (.t 11) "Rate" []),Bt 13 .sub 10 12,Bt 14 .gtr 8 13]) (.cond (.t 14) (.seq (.reg [iv 4 (.mv (.k (.nilp))),iv 5 (.mv (.k (.int .i64 1)))]) (.ret)) (.skip))) (.seq (.draw [Dm 15 0,Dm 16 0,Dr 17 (.inv (.t 16) "Width" []) [16] 0 0,Dc 18 (.mk 1 [.int .u8 0] (.t 17)) [17,17],Dm 19 0,Dr 20 (.inv (.t 19) "Rate" []) [19] 0 1,Dv 21 (.build [.nif,.nsl,.int .i64 0,.int .i64 0,.int .i64 0] [(0,1,.t 15),(1,1,.t 18),(3,1,.t 20)]) [15,18,20],Dc 22 (.box (.t 21)) [21],Dm 6 22]) (.seq (.draw [Dm 23 6,Dv 24 (.nck (.t 23)) [23],Dv 25 (.fadr 1 (.t 24)) [24],Dr 26 (.ld 1 false (.t 25)) [25] 0 0,Dm 27 0,Dr 28 (.inv (.t 27) "Rate" []) [27] 0 0,Dv 29 (.slice .slc 1 (.t 26) (some (.t 28)) none none) [26,28],Dm 30 1,Dc 31 (.copy 1 (.t 29) (.t 30)) [29,30]]) (.seq (.reg [Mv 32 6,Mv 4 32,iv 5 (.mv (.k (.int .i64 0)))]) (.ret)))))
def zkr:AFn:=⟨33,zgM,[.tmp 4,.tmp 5],none⟩
def ziJ:AC:=.seq (.reg [iv 4 (.mv (.k (.nilp))),iv 5 (.mv (.k (.int .i64 0)))]) (.seq (.seq (.reg [Mv 7 1,iv 8 (.lenL (.t 7)),Mv 9 0,ir 10 (.inv (.t 9) "Width" []),Mv 11 0,ir 12 (.inv (.t 11) "Rate" []),Bt 13 .sub 10 12,Bt 14 .gtr 8 13]) (.cond (.t 14) (.seq (.reg [iv 4 (.mv (.k (.nilp))),iv 5 (.mv (.k (.int .i64 1)))]) (.ret)) (.skip))) (.seq (.draw [Dm 15 0,Dm 16 0,Dr 17 (.inv (.t 16) "Width" []) [16] 0 0,Dc 18 (.mk 4 (zaR (.int .u64 0) 4) (.t 17)) [17,17],Dm 19 0,Dr 20 (.inv (.t 19) "Rate" []) [19] 0 1,Dv 21 (.build [.nif,.nsl,.int .i64 0,.int .i64 0,.int .i64 0] [(0,1,.t 15),(1,1,.t 18),(3,1,.t 20)]) [15,18,20],Dc 22 (.box (.t 21)) [21],Dm 6 22]) (.seq (.draw [Dm 23 6,Dv 24 (.nck (.t 23)) [23],Dv 25 (.fadr 1 (.t 24)) [24],Dr 26 (.ld 1 false (.t 25)) [25] 0 0,Dm 27 0,Dr 28 (.inv (.t 27) "Rate" []) [27] 0 0,Dv 29 (.slice .slc 4 (.t 26) (some (.t 28)) none none) [26,28],Dm 30 1,Dc 31 (.copy 4 (.t 29) (.t 30)) [29,30]]) (.seq (.reg [Mv 32 6,Mv 4 32,iv 5 (.mv (.k (.int .i64 0)))]) (.ret)))))
def zer:AFn:=⟨33,ziJ,[.tmp 4,.tmp 5],none⟩
def zte:AC:=.seq (.reg [iv 0 (.mv (.k (.nilp)))]) (.seq (.reg [iv 1 (.build [.int .u32 0,.int .i32 0,.int .u32 0,.int .u64 0,.int .u64 0,.int .u64 0,.int .u64 0,.int .u64 0,.int .u64 0,.int .u64 0,.int .u64 0,.int .u64 0,.int .u64 0,.int .u64 0,.int .u64 0,.int .u64 0,.int .u64 0,.int .u64 0,.int .u64 0,.int .u64 0,.int .u64 0,.int .u64 0,.int .u64 0,.int .u64 0,.int .u64 0,.int .u64 0,.int .u64 0,.int .u64 0,.int .u64 0,.int .u64 0,.int .u64 0,.int .u64 0,.int .u64 0,.int .u64 0,.int .u64 0,.int .u64 0,.int .u64 0,.int .u64 0,.int .u64 0,.int .u64 0,.int .u64 0,.int .u64 0,.int .u64 0,.int .u64 0,.int .u64 0,.int .u64 0,.int .u64 0,.int .u64 0,.int .u64 0,.int .u64 0,.int .u64 0,.int .u64 0,.int .u64 0,.int .u64 0,.int .u64 0,.int .u64 0,.int .u64 0,.int .u64 0,.int .u64 0,.int .u64 0,.int .u64 0,.int .u64 0,.int .u64 0,.int .u64 0,.int .u64 0,.int .u64 0,.int .u64 0,.int .u64 0,.int .u64 0,.int .u64 0,.int .u64 0,.int .u64 0,.int .u64 0,.int .u64 0,.int .u64 0,.int .u64 0,.int .u64 0,.int .u64 0,.int .u64 0,.int .u64 0,.int .u64 0,.int .u64 0,.int .u64 0,.int .u64 0,.int .u64 0,.int .u64 0,.int .u64 0,.int .u64 0,.int .u64 0,.int .u64 0,.int .u64 0,.int .u64 0,.int .u64 0,.int .u64 0,.int .u64 0,.int .u64 0,.int .u64 0,.int .u64 0,.int .u64 0,.int .u64 0,.int .u64 0,.int .u64 0,.int .u64 0,.int .u64 0,.int .u64 0,.int .u64 0,.int .u64 0,.int .u64 0,.int .u64 0,.int .u64 0,.int .u64 0,.int .u64 0,.int .u64 0,.int .u64 0,.int .u64 0,.int .u64 0,.int .u64 0,.int .u64 0,.int .u64 0,.int .u64 0,.int .u64 0,.int .u64 0,.int .u64 0,.int .u64 0,.int .u64 0,.int .u64 0,.int .u64 0,.int .u64 0,.int .u64 0,.int .u64 0,.int .u64 0,.int .u64 0,.int .u64 0,.int .u64 0,.int .u64 0,.int .u64 0,.int .u64 0,.int .u64 0,.int .u64 0,.int .u64 0,.int .u64 0,.int .u64 0,.int .u64 0,.int .u64 0,.int .u64 0,.int .u64 0,.int .u64 0,.int .u64 0,.int .u64 0,.int .u64 0,.int .u64 0,.int .u64 0,.int .u64 0,.int .u64 0,.int .u64 0,.int .u64 0,.int .u64 0,.int .u64 0,.int .u64 0,.int .u64 0,.int .u64 0,.int .u64 0,.int .u64 0,.int .u64 0,.int .u64 0,.int .u64 0,.int .u64 0,.int .u64 0,.int .u64 0,.int .u64 0,.int .u64 0,.int .u64 0,.int .u64 0,.int .u64 0,.int .u64 0,.int .u64 0,.int .u64 0,.int .u64 0,.int .u64 0,.int .u64 0,.int .u64 0,.int .u64 0,.int .u64 0,.int .u64 0,.int .u64 0,.int .u64 0,.int .u64 0,.int .u64 0,.int .u64 0,.int .u64 0,.int .u64 0,.int .u64 0,.int .u64 0,.int .u64 0,.int .u64 0,.int .u64 0,.int .u64 0,.int .u64 0,.int .u64 0,.int .u64 0,.int .u64 0,.int .u64 0,.int .u64 0,.int .u64 0,.int .u64 0,.int .u64 0,.int .u64 0,.int .u64 0,.int .u64 0,.int .u64 0,.int .u64 0,.int .u64 0,.int .u64 0,.int .u64 0,.int .u64 0,.int .u64 0,.int .u64 0,.int .u64 0,.int .u64 0,.int .u64 0,.int .u64 0,.int .u64 0,.int .u64 0,.int .u64 0,.int .u64 0,.int .u64 0,.int .u64 0,.int .u64 0,.int .u64 0,.int .u64 0,.int .u64 0,.int .u64 0,.int .u64 0,.int .u64 0,.int .u64 0,.int .u64 0,.int .u64 0,.int .u64 0,.int .u64 0,.int .u64 0,.int .u64 0,.int .u64 0,.int .u64 0,.int .u64 0,.int .u64 0,.int .u64 0,.int .u64 0,.int .u64 0,.int .u64 0,.int .u64 0,.int .u64 0,.int .u64 0,.int .u64 0,.int .u64 0,.int .u64 0,.int .u64 0,.int .u64 0,.int .u64 0,.int .u64 0,.int .u64 0,.int .u64 0,.int .u64 0,.int .u64 0,.int .u64 0,.int .u64 0,.int .u64 0,.int .u64 0,.int .u64 0,.int .u64 0,.int .u64 0,.int .u64 0,.int .u64 0,.int .u64 0,.int .u64 0,.int .u64 0,.int .u64 0,.int .u64 0,.int .u64 0,.int .u64 0,.int .u64 0,.int .u64 0,.int .u64 0,.int .u64 0,.int .u64 0,.int .u64 0,.int .u64 0,.int .u64 0,.int .u64 0,.int .u64 0,.int .u64 0,.int .u64 0,.int .u64 0,.int .u64 0,.int .u64 0,.int .u64 0,.int .u64 0,.int .u64 0,.int .u64 0,.int .u64 0,.int .u64 0,.int .u64 0,.int .u64 0,.int .u64 0,.int .u64 0,.int .u64 0,.int .u64 0,.int .u64 0,.int .u64 0,.int .u64 0,.int .u64 0,.int .u64 0,.int .u64 0,.int .u64 0,.int .u64 0,.int .u64 0,.int .u64 0,.int .u64 0,.int .u64 0,.int .u64 0,.int .u64 0,.int .u64 0,.int .u64 0,.int .u64 0,.int .u64 0,.int .u64 0,.int .u64 0,.int .u64 0,.int .u64 0,.int .u64 0,.int .u64 0,.int .u64 0,.int .u64 0,.int .u64 0,.int .u64 0,.int .u64 0,.int .u64 0,.int .u64 0,.int .u64 0,.int .u64 0,.int .u64 0,.int .u64 0,.int .u64 0,.int .u64 0,.int .u64 0,.int .u64 0,.int .u64 0,.int .u64 0,.int .u64 0,.int .u64 0,.int .u64 0,.int .u64 0,.int .u64 0,.int .u64 0,.int .u64 0,.int .u64 0,.int .u64 0,.int .u64 0,.int .u64 0,.int .u64 0,.int .u64 0,.int .u64 0,.int .u64 0,.int .u64 0,.int .u64 0,.int .u64 0,.int .u64 0,.int .u64 0,.int .u64 0,.int .u64 0,.int .u64 0,.int .u64 0,.int .u64 0,.int .u64 0,.int .u64 0,.int .u64 0,.int .u64 0,.int .u64 0,.int .u64 0,.int .u64 0,.int .u64 0,.int .u64 0,.int .u64 0,.int .u64 0,.int .u64 0,.int .u64 0,.int .u64 0,.int .u64 0,.int .u64 0,.int .u64 0,.int .u64 0,.int .u64 0,.int .u64 0,.int .u64 0,.int .u64 0,.int .u64 0,.int .u64 0,.int .u64 0,.int .u64 0,.int .u64 0,.int .u64 0,.int .u64 0,.int .u64 0,.int .u64 0,.int .u64 0,.int .u64 0,.int .u64 0,.int .u64 0,.int .u64 0,.int .u64 0,.int .u64 0,.int .u64 0,.int .u64 0,.int .u64 0,.int .u64 0,.int .u64 0,.int .u64 0,.int .u64 0,.int .u64 0,.int .u64 0,.int .u64 0,.int .u64 0,.int .u64 0,.int .u64 0,.int .u64 0,.int .u64 0,.int .u64 0,.int .u64 0,.int .u64 0,.int .u64 0,.int .u64 0,.int .u64 0,.int .u64 0,.int .u64 0,.int .u64 0,.int .u64 0,.int .u64 0,.int .u64 0,.int .u64 0,.int .u64 0,.int .u64 0,.int .u64 0,.int .u64 0,.int .u64 0,.int .u64 0,.int .u64 0,.int .u64 0,.int .u64 0,.int .u64 0,.int .u64 0,.int .u64 0,.int .u64 0,.int .u64 0,.int .u64 0,.int .u64 0,.int .u64 0,.int .u64 0,.int .u64 0,.int .u64 0,.int .u64 0,.int .u64 0,.int .u64 0,.int .u64 0,.int .u64 0,.int .u64 0,.int .u64 0,.int .u64 0,.int .u64 0,.int .u64 0,.int .u64 0,.int .u64 0,.int .u64 0,.int .u64 0,.int .u64 0,.int .u64 0,.int .u64 0,.int .u64 0,.int .u64 0,.int .u64 0,.int .u64 0,.int .u64 0,.int .u64 0,.int .u64 0,.int .u64 0,.int .u64 0,.int .u64 0,.int .u64 0,.int .u64 0,.int .u64 0,.int .u64 0,.int .u64 0,.int .u64 0,.int .u64 0,.int .u64 0,.int .u64 0,.int .u64 0,.int .u64 0,.int .u64 0,.int .u64 0,.int .u64 0,.int .u64 0,.int .u64 0,.int .u64 0,.int .u64 0,.int .u64 0,.int .u64 0,.int .u64 0,.int .u64 0,.int .u64 0,.int .u64 0,.int .u64 0,.int .u64 0,.int .u64 0,.int .u64 0,.int .u64 0,.int .u64 0,.int .u64 0,.int .u64 0,.int .u64 0,.int .u64 0,.int .u64 0,.int .u64 0,.int .u64 0,.int .u64 0,.int .u64 0,.int .u64 0,.int .u64 0,.int .u64 0,.int .u64 0,.int .u64 0,.int .u64 0,.int .u64 0,.int .u64 0,.int .u64 0,.int .u64 0,.int .u64 0,.int .u64 0,.int .u64 0,.int .u64 0,.int .u64 0,.int .u64 0,.int .u64 0,.int .u64 0,.int .u64 0,.int .u64 0,.int .u64 0,.int .u64 0,.int .u64 0,.int .u64 0,.int .u64 0,.int .u64 0,.int .u64 0,.int .u64 0,.int .u64 0,.int .u64 0,.int .u64 0,.int .u64 0,.int .u64 0,.int .u64 0,.int .u64 0,.int .u64 0,.int .u64 0,.int .u64 0,.int .u64 0,.int .u64 0,.int .u64 0,.int .u64 0,.int .u64 0,.int .u64 0,.int .u64 0,.int .u64 0,.int .u64 0,.int .u64 0,.int .u64 0,.int .u64 0,.int .u64 0,.int .u64 0,.int .u64 0,.int .u64 0,.int .u64 0,.int .u64 0,.int .u64 0,.int .u64 0,.int .u64 0,.int .u64 0,.int .u64 0,.int .u64 0,.int .u64 0,.int .u64 0,.int .u64 0,.int .u64 0,.int .u64 0,.int .u64 0,.int .u64 0,.int .u64 0,.int .u64 0,.int .u64 0,.int .u64 0,.int .u64 0,.int .u64 0,.int .u64 0,.int .u64 0,.int .u64 0,.int .u64 0,.int .u64 0,.int .u64 0,.int .u64 0,.int .u64 0,.int .u64 0,.int .u64 0,.int .u64 0,.int .u64 0,.int .u64 0,.int .u64 0,.int .u64 0,.int .u64 0,.int .u64 0,.int .u64 0,.int .u64 0,.int .u64 0,.int .u64 0,.int .u64 0,.int .u64 0,.int .u64 0,.int .u64 0,.int .u64 0,.int .u64 0,.int .u64 0,.int .u64 0,.int .u64 0,.int .u64 0,.int .u64 0,.int .u64 0,.int .u64 0,.int .u64 0,.int .u64 0,.int .u64 0,.int .u64 0,.int .u64 0,.int .u64 0,.int .u64 0,.int .u64 0,.int .u64 0,.int .u64 0,.int .u64 0,.int .u64 0,.int .u64 0,.int .u64 0,.int .u64 0,.int .u64 0,.int .u64 0,.int .u64 0,.int .u64 0,.int .u64 0,.int .u64 0,.int .u64 0,.int .u64 0,.int .u64 0,.int .u64 0,.int .u64 0,.int .u64 0,.int .u64 0,.int .u64 0,.int .u64 0,.int .u64 0,.int .u64 0,.int .u64 0,.int .u64 0,.int .u64 0,.int .u64 0,.int .u64 0,.int .u64 0,.int .u64 0,.int .u64 0,.int .u64 0,.int .u64 0,.int .u64 0,.int .u64 0,.int .u64 0,.int .u64 0,.int .u64 0,.int .u64 0,.int .u64 0,.int .u64 0,.int .u64 0,.int .u64 0,.int .u64 0,.int .u64 0,.int .u64 0,.int .u64 0,.int .u64 0,.int .u64 0,.int .u64 0,.int .u64 0,.int .u64 0,.int .u64 0,.int .u64 0,.int .u64 0,.int .u64 0,.int .u64 0,.int .u64 0,.int .u64 0,.int .u64 0,.int .u64 0,.int .u64 0,.int .u64 0,.int .u64 0,.int .u64 0,.int .u64 0,.int .u64 0,.int .u64 0,.int .u64 0,.int .u64 0,.int .u64 0,.int .u64 0,.int .u64 0,.int .u64 0,.int .u64 0,.int .u64 0,.int .u64 0,.int .u64 0,.int .u64 0,.int .u64 0,.int .u64 0,.int .u64 0,.int .u64 0,.int .u64 0,.int .u64 0,.int .u64 0,.int .u64 0,.int .u64 0,.int .u64 0,.int .u64 0,.int .u64 0,.int .u64 0,.int .u64 0,.int .u64 0,.int .u64 0,.int .u64 0,.int .u64 0,.int .u64 0,.int .u64 0,.int .u64 0,.int .u64 0,.int .u64 0,.int .u64 0,.int .u64 0,.int .u64 0,.int .u64 0,.int .u64 0,.int .u64 0,.int .u64 0,.int .u64 0,.int .u64 0,.int .u64 0,.int .u64 0,.int .u64 0,.int .u64 0,.int .u64 0,.int .u64 0,.int .u64 0,.int .u64 0,.int .u64 0,.int .u64 0,.int .u64 0,.int .u64 0,.int .u64 0,.int .u64 0,.int .u64 0,.int .u64 0,.int .u64 0,.int .u64 0,.int .u64 0,.int .u64 0,.int .u64 0,.int .u64 0,.int .u64 0,.int .u64 0,.int .u64 0,.int .u64 0,.int .u64 0,.int .u64 0,.int .u64 0,.int .u64 0,.int .u64 0,.int .u64 0,.int .u64 0,.int .u64 0,.int .u64 0,.int .u64 0,.int .u64 0,.int .u64 0,.int .u64 0,.int .u64 0,.int .u64 0,.int .u64 0,.int .u64 0,.int .u64 0,.int .u64 0,.int .u64 0,.int .u64 0,.int .u64 0,.int .u64 0,.int .u64 0,.int .u64 0,.int .u64 0,.int .u64 0,.int .u64 0,.int .u64 0,.int .u64 0,.int .u64 0,.int .u64 0,.int .u64 0,.int .u64 0,.int .u64 0,.int .u64 0,.int .u64 0,.int .u64 0,.int .u64 0,.int .u64 0] []),ic 2 (.box (.t 1)),Mv 0 2]) (.ret))
def zmX:AFn:=⟨3,zte,[.tmp 0],none⟩
def zqC:AC:=.seq (.reg [ic 2 (.alloc (zaR (.int .u64 0) 4))]) (.seq (.reg [ir 6 (.call zbP []),ic 3 (.alloc (zaR (.int .u64 0) 4)),jc (.st 4 (.t 3) (.t 6))]) (.seq (.reg [iv 8 (.slice (.arr 4) 1 (.t 3) none none none),ir 9 (.call ziX [.t 8]),Mv 7 9,Ex 10 7 0,Ex 11 7 1,Mv 4 10,Mv 5 11]) (.seq (.reg [Mv 12 4,Mv 13 0,ir 14 (.call zdy [.t 13]),ir 15 (.call zby [.t 12,.t 14]),iv 16 (.s2a 4 (.t 15)),ir 17 (.ld 4 true (.t 16)),ir 18 (.call zdP [.t 17]),jc (.st 4 (.t 2) (.t 18))]) (.ret))))
def zkt:AFn:=⟨19,zqC,[.cell 2 4 true],none⟩
def zjX:AC:=.seq (.reg [iv 2 (.mv (.k (.int .i64 0)))]) (.seq (.reg [Mv 3 0,ir 4 (.call zdH [.t 3]),iv 5 (.fld 0 1 false (.t 4)),Mv 2 5]) (.ret))
def zol:AFn:=⟨6,zjX,[.tmp 2],none⟩
def zcr:AC:=.seq (.reg [iv 8 (.mv (.k (.int .i64 0)))]) (.seq (.reg [Mv 11 1,Mv 12 2,Mv 13 3,iv 14 (.build [.int .i64 0,.int .i64 0,.int .i64 0,.str ⟨#[]⟩] [(0,1,.t 11),(1,1,.t 12),(2,1,.t 13)]),ic 9 (.alloc [.int .i64 0,.int .i64 0,.int .i64 0,.str ⟨#[]⟩]),jc (.st 4 (.t 9) (.t 14))]) (.seq (.draw [Dm 15 0,Dm 16 0,Dv 17 (.nck (.t 16)) [16],Dv 18 (.fadr 1 (.t 17)) [17],Dr 19 (.ld 1 false (.t 18)) [18] 0 0,Dm 20 0,Dv 21 (.nck (.t 20)) [20],Dv 22 (.fadr 0 (.t 21)) [21],Dr 23 (.ld 1 false (.t 22)) [22] 0 0,Dv 24 (.lenL (.t 23)) [23],Dv 25 (.bin .lss (.t 19) (.t 24)) [19,24],Dm 26 25,Gm 27 0 26 true,Gv 28 (.nck (.t 27)) 26 true [27,26],Gv 29 (.fadr 0 (.t 28)) 26 true [28,26],Gr 30 (.ld 1 false (.t 29)) 26 true [29,26] 0 0,Gm 31 0 26 true,Gv 32 (.nck (.t 31)) 26 true [31,26],Gv 33 (.fadr 1 (.t 32)) 26 true [32,26],Gr 34 (.ld 1 false (.t 33)) 26 true [33,26] 0 0,Gv 35 (.iadr none 4 (.t 30) (.t 34)) 26 true [30,34,26],Gr 36 (.ld 4 true (.t 35)) 26 true [35,26] 0 0,Gr 37 (.ld 4 true (.t 9)) 26 true [9,26] 0 0,Gr 38 (.call zjD [.t 36,.t 37]) 26 true [36,37,26] 0 0,Dv 39 (.pick (.t 26) (.t 38) (.k (.bool false))) [26,38],Dc 40 (.call zbN [.t 15,.t 39,.k (.int .i64 10)]) [15,39],Dm 10 40]) (.seq (.seq (.reg [Mv 41 10,Bi 42 .eql 41 0]) (.cond (.t 42) (.reg [Mv 43 0,Nk 44 43,Fa 45 1 44,Ld 46 45,Bi 47 .add 46 1,Nk 48 43,Fa 49 1 48,Sx 49 47]) (.skip))) (.seq (.reg [Mv 50 10,Mv 8 50]) (.ret)))))
def zis:AFn:=⟨51,zcr,[.tmp 8],none⟩
def zb5:AC:=.seq (.reg [ic 2 (.alloc [.int .i64 0,.nfn,.nsl])]) (.seq (.seq (.reg [Mv 3 0]) (.blk 0 (.seq (.reg [Bi 5 .eql 3 1,Mv 4 5]) (.cond (.t 4) (.seq (.reg [iv 6 (.build [.int .i64 0,.nfn,.nsl] [(0,1,.k (.int .i64 1))]),jc (.st 3 (.t 2) (.t 6))]) (.ret)) (.seq (.reg [Bi 8 .eql 3 2,Mv 7 8]) (.cond (.t 7) (.seq (.reg [iv 9 (.slit 1 1 [.int .i64 0] [(0,.k (.int .i64 8))]),iv 10 (.build [.int .i64 0,.nfn,.nsl] [(0,1,.k (.int .i64 8)),(2,1,.t 9)]),jc (.st 3 (.t 2) (.t 10))]) (.ret)) (.seq (.reg [Bi 12 .eql 3 3,Mv 11 12]) (.cond (.t 11) (.seq (.reg [iv 13 (.slit 1 1 [.int .i64 0] [(0,.k (.int .i64 32))]),iv 14 (.build [.int .i64 0,.nfn,.nsl] [(0,1,.k (.int .i64 32)),(1,1,.k (.fn (.func zbU) [] [])),(2,1,.t 13)]),jc (.st 3 (.t 2) (.t 14))]) (.ret)) (.seq (.reg [Bi 16 .eql 3 4,Mv 15 16]) (.cond (.t 15) (.seq (.reg [iv 17 (.slit 1 4 [.int .i64 0] [(0,.k (.int .i64 31)),(1,.k (.int .i64 31)),(2,.k (.int .i64 31)),(3,.k (.int .i64 3))]),iv 18 (.build [.int .i64 0,.nfn,.nsl] [(0,1,.k (.int .i64 96)),(1,1,.k (.fn (.func zbW) [] [])),(2,1,.t 17)]),jc (.st 3 (.t 2) (.t 18))]) (.ret)) (.skip))))))))))) (.seq (.reg [iv 19 (.build [.int .i64 0,.nfn,.nsl] []),jc (.st 3 (.t 2) (.t 19))]) (.ret)))
def zlj:AFn:=⟨20,zb5,[.cell 2 3 true],none⟩
def zaT:AC:=.seq (.reg [Bi 23 .lss 22 4]) (.seq (.cond (.t 23) (.skip) (.exit 2)) (.seq (.blk 3 (.seq (.reg [Mv 24 22,iv 25 (.idxA 4 1 false (.t 21) (.t 22)),Mv 11 24,Mv 12 25]) (.reg [Mv 27 11,Mv 28 11,iv 29 (.iadr (some 5) 1 (.t 7) (.t 28)),Ld 30 29,Mv 31 9,Mv 32 12,Mv 33 10,ir 34 (.call zeX [.t 30,.t 31,.t 32,.t 33]),Mv 26 34,Ex 35 26 0,Ex 36 26 1,iv 37 (.iadr (some 5) 1 (.t 7) (.t 27)),Sx 37 35,Mv 10 36]))) (.reg [Bi 38 .add 22 1,Mv 22 38])))
def zbC:AC:=.seq (.seq (.reg [Mv 57 14,Bi 58 .lss 57 4]) (.cond (.t 58) (.skip) (.exit 4))) (.seq (.blk 5 (.draw [Dm 62 14,Dv 63 (.bin .sub (.t 62) (.k (.int .i64 1))) [62],Dm 64 14,Dv 65 (.iadr (some 5) 1 (.t 7) (.t 64)) [7,64],Dr 66 (.ld 1 false (.t 65)) [65] 0 0,Dm 67 13,Dm 68 14,Dv 69 (.iadr (some 4) 1 (.t 5) (.t 68)) [5,68],Dr 70 (.ld 1 false (.t 69)) [69] 0 0,Dm 71 10,Dr 72 (.call zeX [.t 66,.t 67,.t 70,.t 71]) [66,67,70,71] 0 0,Dm 61 72,Dv 73 (.ext (.t 61) 0) [61],Dv 74 (.ext (.t 61) 1) [61],Dv 75 (.iadr (some 5) 1 (.t 7) (.t 63)) [7,63],Dn (.st 1 (.t 75) (.t 73)) [75,73],Dm 10 74])) (.reg [Mv 59 14,Bi 60 .add 59 1,Mv 14 60]))
def zcj:AC:=.seq (.reg [Bi 19 .lss 18 4]) (.seq (.cond (.t 19) (.skip) (.exit 0)) (.seq (.blk 1 (.seq (.reg [iv 20 (.idxA 4 1 false (.t 17) (.t 18)),Mv 9 20]) (.seq (.reg [iv 10 (.mv (.k (.int .u64 0)))]) (.seq (.seq (.reg [ir 21 (.ld 4 true (.t 3)),iv 22 (.mv (.k (.int .i64 0)))]) (.blk 2 (.loop zaT))) (.seq (.reg [iv 39 (.iadr (some 5) 1 (.t 7) (.k (.int .i64 4))),Ld 40 39,Mv 41 10,Bt 42 .add 40 41,iv 43 (.iadr (some 5) 1 (.t 7) (.k (.int .i64 4))),Sx 43 42]) (.seq (.reg [iv 44 (.iadr (some 5) 1 (.t 7) (.k (.int .i64 0))),Ld 45 44,Mv 46 6,Bt 47 .mul 45 46,Mv 13 47]) (.seq (.reg [iv 49 (.iadr (some 5) 1 (.t 7) (.k (.int .i64 0))),Ld 50 49,Mv 51 13,iv 52 (.iadr (some 4) 1 (.t 5) (.k (.int .i64 0))),Ld 53 52,ir 54 (.call zeX [.t 50,.t 51,.t 53,.k (.int .u64 0)]),Mv 48 54,Ex 55 48 0,Ex 56 48 1,Mv 10 56]) (.seq (.seq (.reg [iv 14 (.mv (.k (.int .i64 1)))]) (.blk 4 (.loop zbC))) (.seq (.reg [iv 77 (.iadr (some 5) 1 (.t 7) (.k (.int .i64 4))),Ld 78 77,Mv 79 10,ic 80 (.call zaH [.t 78,.t 79,.k (.int .u64 0)]),Mv 76 80,Ex 81 76 0,Ex 82 76 1,iv 83 (.iadr (some 5) 1 (.t 7) (.k (.int .i64 3))),Sx 83 81,Mv 10 82]) (.reg [Mv 84 10,iv 85 (.iadr (some 5) 1 (.t 7) (.k (.int .i64 4))),Sx 85 84])))))))))) (.reg [Bi 86 .add 18 1,Mv 18 86])))
def zhM:AC:=.seq (.reg [iv 2 (.boxv (.t 0)),iv 3 (.boxv (.t 1)),ic 4 (.alloc (zaR (.int .u64 0) 4))]) (.seq (.reg [ir 15 (.call zbP []),ir 16 (.call zfi []),ic 5 (.alloc (zaR (.int .u64 0) 4)),jc (.st 4 (.t 5) (.t 15)),Mv 6 16]) (.seq (.reg [ic 7 (.alloc (zaR (.int .u64 0) 5))]) (.seq (.seq (.reg [ir 17 (.ld 4 true (.t 2)),iv 18 (.mv (.k (.int .i64 0)))]) (.blk 0 (.loop zcj))) (.seq (.reg [iv 87 (.slice (.arr 5) 1 (.t 7) none (some (.k (.int .i64 4))) none),iv 88 (.s2a 4 (.t 87)),ir 89 (.ld 4 true (.t 88)),ir 90 (.call zdQ [.t 89]),jc (.st 4 (.t 4) (.t 90))]) (.ret)))))
def zlk:AFn:=⟨91,zhM,[.cell 4 4 true],none⟩
def zec:AC:=.seq (.reg [iv 6 (.mv (.k (.int .i64 0)))]) (.seq (.seq (.reg [Mv 7 1]) (.cond (.t 7) (.reg [iv 2 (.mv (.k (.int .i64 0)))]) (.skip))) (.seq (.reg [Mv 8 0,Mv 9 2,ic 10 (.call za5 [.t 8,.t 9]),Mv 6 10]) (.ret)))
def zg2:AFn:=⟨11,zec,[.tmp 6],none⟩
def zmt:AC:=.seq (.seq (.reg [Mv 15 6,Bi 16 .lss 15 8]) (.cond (.t 16) (.skip) (.exit 2))) (.seq (.blk 3 (.seq (.reg [Mv 19 3,Mv 20 5,iv 21 (.bin .rem (.t 20) (.k (.int .u64 256))),iv 22 (.i2i .u8 (.t 21)),iv 23 (.slit 1 1 [.int .u8 0] [(0,.t 22)]),ic 24 (.app 1 true (.t 19) (.t 23)),Mv 3 24]) (.reg [Mv 25 5,iv 26 (.bin .quo (.t 25) (.k (.int .u64 256))),Mv 5 26]))) (.reg [Mv 17 6,Bi 18 .add 17 1,Mv 6 18]))
def zmu:AC:=.seq (.seq (.reg [Mv 8 4,Bi 9 .lss 8 25]) (.cond (.t 9) (.skip) (.exit 0))) (.seq (.blk 1 (.seq (.reg [Mv 12 4,iv 13 (.iadr (some 25) 1 (.t 1) (.t 12)),Ld 14 13,Mv 5 14]) (.seq (.reg [iv 6 (.mv (.k (.int .i64 0)))]) (.blk 2 (.loop zmt))))) (.reg [Mv 10 4,Bi 11 .add 10 1,Mv 4 11]))
def znn:AC:=.seq (.reg [iv 1 (.boxv (.t 0)),iv 2 (.mv (.k (.nsl)))]) (.seq (.reg [iv 7 (.slit 1 0 [.int .u8 0] []),Mv 3 7]) (.seq (.seq (.reg [iv 4 (.mv (.k (.int .i64 0)))]) (.blk 0 (.loop zmu))) (.seq (.reg [Mv 27 3,Mv 2 27]) (.ret))))
def zhN:AFn:=⟨28,znn,[.tmp 2],none⟩
def zkO:AC:=.seq (.seq (.reg [Mv 7 4,Bi 8 .lss 7 24]) (.cond (.t 8) (.skip) (.exit 0))) (.seq (.blk 1 (.reg [ir 11 (.ld 1600 true (.t 3)),Mv 12 4,ir 13 (.call zhz [.t 11,.t 12]),jc (.st 1600 (.t 3) (.t 13))])) (.reg [Mv 9 4,Bi 10 .add 9 1,Mv 4 10]))
def zll:AC:=.seq (.reg [iv 1 (.boxv (.t 0)),ic 2 (.alloc (zaR (.int .u64 0) 25))]) (.seq (.reg [ir 5 (.ld 25 true (.t 1)),ir 6 (.call zgf [.t 5]),ic 3 (.alloc (zaR (.bool false) 1600)),jc (.st 1600 (.t 3) (.t 6))]) (.seq (.seq (.reg [iv 4 (.mv (.k (.int .i64 0)))]) (.blk 0 (.loop zkO))) (.seq (.reg [ir 14 (.ld 1600 true (.t 3)),ir 15 (.call zhA [.t 14]),jc (.st 25 (.t 2) (.t 15))]) (.ret))))
def zgo:AFn:=⟨16,zll,[.cell 2 25 true],none⟩
def zkP:AC:=.seq (.seq (.reg [Mv 9 4,Bi 10 .geq 9 0]) (.cond (.t 10) (.skip) (.exit 0))) (.seq (.blk 1 (.draw [Dm 13 4,Dv 14 (.bin .quo (.t 13) (.k (.int .i64 8))) [13],Dm 15 4,Dv 16 (.bin .quo (.t 15) (.k (.int .i64 8))) [15],Dv 17 (.iadr (some 25) 1 (.t 3) (.t 16)) [3,16],Dr 18 (.ld 1 false (.t 17)) [17] 0 0,Dv 19 (.bin .mul (.t 18) (.k (.int .u64 256))) [18],Dm 20 0,Dm 21 4,Dv 22 (.iadr none 1 (.t 20) (.t 21)) [20,21],Dr 23 (.ld 1 false (.t 22)) [22] 0 0,Dv 24 (.i2i .u64 (.t 23)) [23],Dv 25 (.bin .add (.t 19) (.t 24)) [19,24],Dv 26 (.iadr (some 25) 1 (.t 3) (.t 14)) [3,14],Dn (.st 1 (.t 26) (.t 25)) [26,25]])) (.reg [Mv 11 4,Bi 12 .sub 11 1,Mv 4 12]))
def zlm:AC:=.seq (.reg [ic 2 (.alloc (zaR (.int .u64 0) 25))]) (.seq (.reg [iv 5 (.build (zaR (.int .u64 0) 25) []),ic 3 (.alloc (zaR (.int .u64 0) 25)),jc (.st 25 (.t 3) (.t 5))]) (.seq (.seq (.reg [Mv 6 0,iv 7 (.lenL (.t 6)),Bi 8 .sub 7 1,Mv 4 8]) (.blk 0 (.loop zkP))) (.seq (.reg [ir 27 (.ld 25 true (.t 3)),jc (.st 25 (.t 2) (.t 27))]) (.ret))))
def zgp:AFn:=⟨28,zlm,[.cell 2 25 true],none⟩
def zje:AC:=.seq (.reg [ic 1 (.box (.t 0)),ic 2 (.alloc [.nsl,.int .i64 0,.int .i64 0,.int .i64 0])]) (.seq (.reg [Fa 3 0 1,Ld 4 3,ir 5 (.call zge [.t 4]),ir 6 (.call zgd [.t 5]),ic 7 (.call zhu [.t 6]),Fa 8 0 1,Sx 8 7]) (.seq (.reg [Fa 9 3 1,Ld 10 9,Bi 11 .add 10 1,Fa 12 3 1,Sx 12 11]) (.seq (.reg [ir 13 (.ld 4 true (.t 1)),jc (.st 4 (.t 2) (.t 13))]) (.ret))))
def ze1:AFn:=⟨14,zje,[.cell 2 4 true],none⟩
def zcs:AC:=.seq (.reg [Bt 13 .lss 12 11]) (.seq (.cond (.t 13) (.skip) (.exit 0)) (.seq (.blk 1 (.seq (.reg [Mv 14 12,Ia 15 10 12,Ld 16 15,Mv 6 14,Mv 7 16]) (.reg [Mv 17 5,Mv 18 7,iv 19 (.i2i .i64 (.t 18)),Mv 20 6,iv 21 (.bin .mul (.k (.int .i64 8)) (.t 20)),Bt 22 .shl 19 21,Bt 23 .or 17 22,Mv 5 23]))) (.reg [Bi 24 .add 12 1,Mv 12 24])))
def zed:AC:=.seq (.reg [iv 4 (.mv (.k (.int .i64 0)))]) (.seq (.reg [iv 5 (.mv (.k (.int .i64 0)))]) (.seq (.seq (.reg [Mv 8 0,Mv 9 1,ic 10 (.call zco [.t 8,.t 9]),iv 11 (.lenL (.t 10)),iv 12 (.mv (.k (.int .i64 0)))]) (.blk 0 (.loop zcs))) (.seq (.reg [Mv 25 5,Mv 4 25]) (.ret))))
def zg3:AFn:=⟨26,zed,[.tmp 4],none⟩
def zdn:AC:=.seq (.reg [iv 4 (.mv (.k (.nsl)))]) (.seq (.seq (.reg [Mv 6 0,Nk 7 6,Fa 8 0 7,Ld 9 8,iv 10 (.lenL (.t 9)),Mv 11 1,Bt 12 .lss 10 11]) (.cond (.t 12) (.seq (.reg [Mv 13 0,Nk 14 13,Fa 15 1 14,jc (.st 1 (.t 15) (.k (.bool true)))]) (.reg [iv 1 (.mv (.k (.int .i64 0)))])) (.skip))) (.seq (.reg [Mv 16 0,Nk 17 16,Fa 18 0 17,Ld 19 18,Mv 20 1,Mv 21 1,iv 22 (.slice .slc 1 (.t 19) none (some (.t 20)) (some (.t 21))),Mv 5 22]) (.seq (.reg [Mv 23 0,Mv 24 0,Nk 25 24,Fa 26 0 25,Ld 27 26,Mv 28 1,iv 29 (.slice .slc 1 (.t 27) (some (.t 28)) none none),Nk 30 23,Fa 31 0 30,Sx 31 29]) (.seq (.reg [Mv 32 5,Mv 4 32]) (.ret)))))
def zit:AFn:=⟨33,zdn,[.tmp 4],none⟩
def zln:AC:=.seq (.reg [iv 1 (.boxv (.t 0)),iv 2 (.mv (.k (.int .i64 0)))]) (.seq (.reg [Fa 6 0 1,Ld 7 6,ir 8 (.call zip [.t 7]),Mv 5 8,Ex 9 5 0,Ex 10 5 1,Mv 3 9,Mv 4 10]) (.seq (.blk 0 (.seq (.reg [Mv 12 3,iv 13 (.lenL (.t 12)),Bi 14 .eql 13 0,Mv 11 14]) (.cond (.t 11) (.seq (.reg [iv 2 (.mv (.k (.int .i64 5)))]) (.ret)) (.seq (.reg [Mv 16 3,Fa 17 1 1,Ld 18 17,ir 19 (.call zbA [.t 16,.t 18]),iv 20 (.un .not (.t 19)),Mv 15 20]) (.cond (.t 15) (.seq (.reg [iv 2 (.mv (.k (.int .i64 6)))]) (.ret)) (.seq (.reg [Fa 22 2 1,Ld 23 22,Bi 24 .lss 23 1,Mv 25 24,Gv 26 (.fadr 2 (.t 1)) 25 false [],Gr 27 (.ld 1 false (.t 26)) 25 false [] 0 0,Gv 28 (.mv (.t 4)) 25 false [],Gv 29 (.bin .gtr (.t 27) (.t 28)) 25 false [],iv 30 (.pick (.t 25) (.k (.bool true)) (.t 29)),Mv 21 30]) (.cond (.t 21) (.seq (.reg [iv 2 (.mv (.k (.int .i64 7)))]) (.ret)) (.seq (.reg [Fa 32 3 1,Ld 33 32,iv 34 (.lenS (.t 33)),Bi 35 .gtr 34 255,Mv 31 35]) (.cond (.t 31) (.seq (.reg [iv 2 (.mv (.k (.int .i64 8)))]) (.ret)) (.skip)))))))))) (.seq (.reg [iv 2 (.mv (.k (.int .i64 0)))]) (.ret))))
def zqc:AFn:=⟨36,zln,[.tmp 2],none⟩
def zjZ:AC:=.seq (.reg [iv 5 (.slit 1 0 [.int .u8 0] []),Mv 6 0,ic 7 (.app 1 false (.t 5) (.t 6)),Mv 2 7]) (.ret)
def zfp:AFn:=⟨8,zjZ,[.tmp 2],some (.reg [iv 2 (.mv (.k (.nsl)))],3,4,.cond (.t 4)
  (.seq (.reg [iv 2 (.mv (.k (.nsl)))])
  (.ret))
  (.skip))⟩
def zbS:AC:=.seq (.reg [Bt 10 .lss 9 8]) (.seq (.cond (.t 10) (.skip) (.exit 0)) (.seq (.blk 1 (.seq (.reg [Mv 11 9,Mv 7 11]) (.reg [Mv 12 0,Mv 13 1,Mv 14 7,iv 15 (.bin .mul (.k (.int .i64 8)) (.t 14)),Bt 16 .shr 13 15,iv 17 (.i2i .u8 (.t 16)),iv 18 (.slit 1 1 [.int .u8 0] [(0,.t 17)]),ic 19 (.app 1 false (.t 12) (.t 18)),Mv 0 19]))) (.reg [Bi 20 .add 9 1,Mv 9 20])))
def zhg:AC:=.seq (.reg [iv 6 (.mv (.k (.nsl)))]) (.seq (.seq (.reg [Mv 8 2,iv 9 (.mv (.k (.int .i64 0)))]) (.blk 0 (.loop zbS))) (.seq (.reg [Mv 21 0,Mv 6 21]) (.ret)))
def zop:AFn:=⟨22,zhg,[.tmp 6],none⟩
def zfY:AC:=.draw [Dm 6 0,Dm 7 1,Dv 8 (.bin .quo (.t 7) (.k (.int .i64 8))) [7],Dv 9 (.nck (.t 6)) [6],Dv 10 (.fadr 0 (.t 9)) [9],Dv 11 (.iadr (some 25) 1 (.t 10) (.t 8)) [10,8],Dr 12 (.ld 1 false (.t 11)) [11] 0 0,Dm 13 2,Dv 14 (.i2i .u64 (.t 13)) [13],Dm 15 1,Dv 16 (.bin .rem (.t 15) (.k (.int .i64 8))) [15],Dv 17 (.bin .mul (.k (.int .i64 8)) (.t 16)) [16],Dv 18 (.bin .shl (.t 14) (.t 17)) [14,17],Dv 19 (.bin .xor (.t 12) (.t 18)) [12,18],Dv 20 (.nck (.t 6)) [6],Dv 21 (.fadr 0 (.t 20)) [20],Dv 22 (.iadr (some 25) 1 (.t 21) (.t 8)) [21,8],Dn (.st 1 (.t 22) (.t 19)) [22,19]]
def zjf:AFn:=⟨23,zfY,[],none⟩
def zaU:AC:=.seq (.reg [Bi 5 .lss 4 24]) (.seq (.cond (.t 5) (.skip) (.exit 0)) (.seq (.blk 1 (.seq (.reg [Mv 6 4,Mv 3 6]) (.reg [ir 7 (.ld 25 true (.t 1)),Mv 8 3,ir 9 (.call zcF [.t 7,.t 8]),jc (.st 25 (.t 1) (.t 9))]))) (.reg [Bi 10 .add 4 1,Mv 4 10])))
def zdi:AC:=.seq (.reg [ic 1 (.box (.t 0)),ic 2 (.alloc (zaR (.int .u64 0) 25))]) (.seq (.seq (.reg [iv 4 (.mv (.k (.int .i64 0)))]) (.blk 0 (.loop zaU))) (.seq (.reg [ir 11 (.ld 25 true (.t 1)),jc (.st 25 (.t 2) (.t 11))]) (.ret)))
def zfK:AFn:=⟨12,zdi,[.cell 2 25 true],none⟩
def zee:AC:=.seq (.reg [ic 1 (.box (.t 0)),ic 2 (.alloc (zaR (.int .u8 0) 200))]) (.seq (.reg [iv 3 (.slice (.arr 25) 1 (.t 1) none none none),ir 4 (.call zgC [.t 3]),iv 5 (.s2a 200 (.t 4)),ir 6 (.ld 200 true (.t 5)),jc (.st 200 (.t 2) (.t 6))]) (.ret))
def zg4:AFn:=⟨7,zee,[.cell 2 200 true],none⟩
def zj1:AC:=.seq (.reg [ic 0 (.alloc (zaR (.int .u64 0) 4))]) (.seq (.reg [iv 1 (.build (zaR (.int .u64 0) 4) [(0,1,.k (.int .u64 4891460686036598785)),(1,1,.k (.int .u64 2896914383306846353)),(2,1,.k (.int .u64 13281191951274694749)),(3,1,.k (.int .u64 3486998266802970665))]),jc (.st 4 (.t 0) (.t 1))]) (.ret))
def zor:AFn:=⟨2,zj1,[.cell 0 4 true],none⟩
def zc7:AC:=.seq (.reg [Bi 46 .lss 45 6]) (.seq (.cond (.t 46) (.skip) (.exit 0)) (.seq (.blk 1 (.reg [Mv 47 5,Mv 48 0,iv 49 (.iadr none 1 (.t 48) (.k (.int .i64 0))),Ld 50 49,Mv 51 5,Bt 52 .mul 50 51,iv 53 (.bin .sub (.k (.int .u64 2)) (.t 52)),Bt 54 .mul 47 53,Mv 5 54])) (.reg [Bi 55 .add 45 1,Mv 45 55])))
def zf5:AC:=.seq (.reg [Bt 76 .lss 75 74]) (.seq (.cond (.t 76) (.skip) (.exit 2)) (.seq (.blk 3 (.reg [Mv 77 4,Mv 78 4,Mv 79 4,Nk 80 79,Fa 81 2 80,Ld 82 81,ir 83 (.call zbI [.t 78,.t 82,.k (.int .u64 0)]),Nk 84 77,Fa 85 2 84,Sx 85 83])) (.reg [Bi 86 .add 75 1,Mv 75 86])))
def zp1:AC:=.seq (.reg [iv 2 (.mv (.k (.nilp))),iv 3 (.mv (.k (.int .i64 0)))]) (.seq (.seq (.reg [Mv 6 0,iv 7 (.lenL (.t 6)),Bi 8 .lss 7 1,Mv 9 8,Gv 10 (.mv (.t 0)) 9 false [],Gv 11 (.lenL (.t 10)) 9 false [],Gv 12 (.bin .gtr (.t 11) (.k (.int .i64 16))) 9 false [],iv 13 (.pick (.t 9) (.k (.bool true)) (.t 12)),Mv 14 13,Gv 15 (.mv (.t 0)) 14 false [],Gv 16 (.iadr none 1 (.t 15) (.k (.int .i64 0))) 14 false [],Gr 17 (.ld 1 false (.t 16)) 14 false [] 0 0,Gv 18 (.bin .and (.t 17) (.k (.int .u64 1))) 14 false [],Gv 19 (.bin .eql (.t 18) (.k (.int .u64 0))) 14 false [],iv 20 (.pick (.t 14) (.k (.bool true)) (.t 19)),Mv 21 20,Gv 22 (.mv (.t 0)) 21 false [],Gv 23 (.mv (.t 0)) 21 false [],Gv 24 (.lenL (.t 23)) 21 false [],Gv 25 (.bin .sub (.t 24) (.k (.int .i64 1))) 21 false [],Gv 26 (.iadr none 1 (.t 22) (.t 25)) 21 false [],Gr 27 (.ld 1 false (.t 26)) 21 false [] 0 0,Gv 28 (.bin .eql (.t 27) (.k (.int .u64 0))) 21 false [],iv 29 (.pick (.t 21) (.k (.bool true)) (.t 28)),Mv 30 29,Gv 31 (.mv (.t 0)) 30 false [],Gv 32 (.lenL (.t 31)) 30 false [],Gv 33 (.bin .eql (.t 32) (.k (.int .i64 1))) 30 false [],Gv 34 (.mv (.t 33)) 30 false [],Gv 35 (.mv (.t 0)) 34 true [],Gv 36 (.iadr none 1 (.t 35) (.k (.int .i64 0))) 34 true [],Gr 37 (.ld 1 false (.t 36)) 34 true [] 0 0,Gv 38 (.bin .eql (.t 37) (.k (.int .u64 1))) 34 true [],Gv 39 (.pick (.t 34) (.t 38) (.k (.bool false))) 30 false [],iv 40 (.pick (.t 30) (.k (.bool true)) (.t 39))]) (.cond (.t 40) (.seq (.reg [iv 2 (.mv (.k (.nilp))),iv 3 (.mv (.k (.int .i64 1)))]) (.ret)) (.skip))) (.seq (.reg [Mv 41 0,ir 42 (.call zaN [.t 41]),iv 43 (.build [.nsl,.int .u64 0,.nsl] [(0,1,.t 42)]),ic 44 (.box (.t 43)),Mv 4 44]) (.seq (.reg [iv 5 (.mv (.k (.int .u64 1)))]) (.seq (.seq (.reg [iv 45 (.mv (.k (.int .i64 0)))]) (.blk 0 (.loop zc7))) (.seq (.reg [Mv 56 4,Mv 57 5,iv 58 (.un .neg (.t 57)),Nk 59 56,Fa 60 1 59,Sx 60 58]) (.seq (.reg [Mv 61 4,Mv 62 0,iv 63 (.lenL (.t 62)),ic 64 (.mk 1 [.int .u64 0] (.t 63)),Nk 65 61,Fa 66 2 65,Sx 66 64]) (.seq (.reg [Mv 67 4,Nk 68 67,Fa 69 2 68,Ld 70 69,iv 71 (.iadr none 1 (.t 70) (.k (.int .i64 0))),jc (.st 1 (.t 71) (.k (.int .u64 1)))]) (.seq (.seq (.reg [Mv 72 0,iv 73 (.lenL (.t 72)),iv 74 (.bin .mul (.k (.int .i64 128)) (.t 73)),iv 75 (.mv (.k (.int .i64 0)))]) (.blk 2 (.loop zf5))) (.seq (.reg [Mv 87 4,Mv 2 87,iv 3 (.mv (.k (.int .i64 0)))]) (.ret))))))))))
def zuh:AFn:=⟨88,zp1,[.tmp 2,.tmp 3],none⟩
def zdg:AC:=.seq (.reg [Bi 6 .lss 5 512]) (.seq (.cond (.t 6) (.skip) (.exit 0)) (.seq (.blk 1 (.reg [ir 7 (.ld 4 true (.t 3)),ir 8 (.ld 4 true (.t 3)),ir 9 (.call zgh [.t 7,.t 8]),ir 10 (.call zdQ [.t 9]),jc (.st 4 (.t 3) (.t 10))])) (.reg [Bi 11 .add 5 1,Mv 5 11])))
def zkf:AC:=.seq (.reg [iv 1 (.boxv (.t 0)),ic 2 (.alloc (zaR (.int .u64 0) 4))]) (.seq (.reg [iv 4 (.build (zaR (.int .u64 0) 4) [(0,1,.k (.int .u64 1))]),ic 3 (.alloc (zaR (.int .u64 0) 4)),jc (.st 4 (.t 3) (.t 4))]) (.seq (.seq (.reg [iv 5 (.mv (.k (.int .i64 0)))]) (.blk 0 (.loop zdg))) (.seq (.reg [ir 12 (.ld 4 true (.t 1)),ir 13 (.ld 4 true (.t 3)),ir 14 (.call zcS [.t 12,.t 13]),iv 15 (.build (zaR (.int .u64 0) 4) [(0,4,.t 14)]),jc (.st 4 (.t 2) (.t 15))]) (.ret))))
def zo4:AFn:=⟨16,zkf,[.cell 2 4 true],none⟩
def zce:AC:=.seq (.seq (.reg [Mv 16 6,Bi 17 .geq 16 0]) (.cond (.t 17) (.skip) (.exit 0))) (.seq (.blk 1 (.reg [Mv 20 0,Mv 21 5,Mv 22 1,Mv 23 6,Bi 24 .quo 23 64,Ia 25 22 24,Ld 26 25,Mv 27 6,Bi 28 .rem 27 64,Bt 29 .shr 26 28,iv 30 (.bin .and (.t 29) (.k (.int .u64 1))),ir 31 (.call zbI [.t 20,.t 21,.t 30]),Mv 5 31])) (.reg [Mv 18 6,Bi 19 .sub 18 1,Mv 6 19]))
def zdI:AC:=.seq (.reg [iv 4 (.mv (.k (.nsl)))]) (.seq (.reg [Mv 7 0,Nk 8 7,Fa 9 0 8,Ld 10 9,iv 11 (.lenL (.t 10)),ic 12 (.mk 1 [.int .u64 0] (.t 11)),Mv 5 12]) (.seq (.seq (.reg [Mv 13 1,ir 14 (.call zfQ [.t 13]),Bi 15 .sub 14 1,Mv 6 15]) (.blk 0 (.loop zce))) (.seq (.reg [Mv 32 5,Mv 4 32]) (.ret))))
def zgD:AFn:=⟨33,zdI,[.tmp 4],none⟩
def zdY:AC:=.seq (.reg [Bt 14 .lss 13 12]) (.seq (.cond (.t 14) (.skip) (.exit 0)) (.seq (.blk 1 (.seq (.reg [Mv 15 13,Ia 16 11 13,Ld 17 16,Mv 4 15,Mv 5 17]) (.draw [Dm 18 3,Dm 19 4,Dv 20 (.bin .quo (.t 19) (.k (.int .i64 8))) [19],Dv 21 (.iadr none 1 (.t 18) (.t 20)) [18,20],Dr 22 (.ld 1 false (.t 21)) [21] 0 0,Dm 23 5,Dv 24 (.i2i .u64 (.t 23)) [23],Dm 25 4,Dv 26 (.bin .rem (.t 25) (.k (.int .i64 8))) [25],Dv 27 (.bin .mul (.k (.int .i64 8)) (.t 26)) [26],Dv 28 (.bin .shl (.t 24) (.t 27)) [24,27],Dv 29 (.bin .or (.t 22) (.t 28)) [22,28],Dv 30 (.iadr none 1 (.t 18) (.t 20)) [18,20],Dn (.st 1 (.t 30) (.t 29)) [30,29]]))) (.reg [Bi 31 .add 13 1,Mv 13 31])))
def zlL:AC:=.seq (.reg [iv 2 (.mv (.k (.nsl)))]) (.seq (.reg [Mv 6 0,iv 7 (.lenL (.t 6)),Bi 8 .add 7 7,Bi 9 .quo 8 8,ic 10 (.mk 1 [.int .u64 0] (.t 9)),Mv 3 10]) (.seq (.seq (.reg [Mv 11 0,iv 12 (.lenL (.t 11)),iv 13 (.mv (.k (.int .i64 0)))]) (.blk 0 (.loop zdY))) (.seq (.reg [Mv 32 3,Mv 2 32]) (.ret))))
def zqk:AFn:=⟨33,zlL,[.tmp 2],none⟩
def znO:AC:=.seq (.reg [ic 2 (.box (.t 0)),ic 3 (.box (.t 1)),iv 4 (.mv (.k (.bool false)))]) (.seq (.reg [Fa 5 3 2,jc (.st 1 (.t 5) (.k (.str ⟨#[]⟩))),Fa 6 3 3,jc (.st 1 (.t 6) (.k (.str ⟨#[]⟩)))]) (.seq (.reg [ir 7 (.ld 4 true (.t 2)),ir 8 (.ld 4 true (.t 3)),iv 9 (.eq (.agg [.i,.i,.i,.s]) false (.t 7) (.t 8)),Mv 4 9]) (.ret)))
def zsy:AFn:=⟨10,znO,[.tmp 4],none⟩
def zdZ:AC:=.seq (.reg [iv 2 (.mv (.k (.int .i64 0)))]) (.seq (.reg [Mv 6 0,ir 7 (.call zbV [.t 6]),Mv 5 7,Ex 8 5 0,Ex 9 5 1,ic 3 (.alloc (zaR (.int .u64 0) 4)),jc (.st 4 (.t 3) (.t 8)),Mv 4 9]) (.seq (.reg [Mv 10 4,Mv 2 10]) (.ret)))
def zju:AFn:=⟨11,zdZ,[.tmp 2],none⟩
def zd0:AC:=.seq (.reg [ic 2 (.alloc (zaR (.int .u64 0) 4)),iv 3 (.mv (.k (.int .i64 0)))]) (.seq (.seq (.reg [Mv 7 0,iv 8 (.lenL (.t 7)),Bi 9 .neq 8 32]) (.cond (.t 9) (.seq (.reg [iv 10 (.build (zaR (.int .u64 0) 4) []),jc (.st 4 (.t 2) (.t 10)),iv 3 (.mv (.k (.int .i64 1)))]) (.ret)) (.skip))) (.seq (.reg [Mv 11 0,ir 12 (.call zdy [.t 11]),iv 13 (.s2a 4 (.t 12)),ir 14 (.ld 4 true (.t 13)),ic 4 (.alloc (zaR (.int .u64 0) 4)),jc (.st 4 (.t 4) (.t 14))]) (.seq (.seq (.draw [Dr 16 (.ld 4 true (.t 4)) [4] 0 1,Dr 17 (.call zbP []) [] 0 1,Dr 18 (.call zep [.t 16,.t 17]) [16,17] 0 1,Dm 15 18,Dv 19 (.ext (.t 15) 0) [15],Dv 20 (.ext (.t 15) 1) [15],ic 5 (.alloc (zaR (.int .u64 0) 4)),Dn (.st 4 (.t 5) (.t 19)) [5,19],Dm 6 20]) (.seq (.reg [Mv 21 6,iv 22 (.bin .eql (.t 21) (.k (.int .u64 0)))]) (.cond (.t 22) (.seq (.reg [iv 23 (.build (zaR (.int .u64 0) 4) []),jc (.st 4 (.t 2) (.t 23)),iv 3 (.mv (.k (.int .i64 4)))]) (.ret)) (.skip)))) (.seq (.reg [ir 24 (.ld 4 true (.t 4)),ir 25 (.call zdP [.t 24]),jc (.st 4 (.t 2) (.t 25)),iv 3 (.mv (.k (.int .i64 0)))]) (.ret)))))
def zjv:AFn:=⟨26,zd0,[.cell 2 4 true,.tmp 3],none⟩
def zf6:AC:=.seq (.reg [iv 2 (.mv (.k (.int .i64 0)))]) (.seq (.reg [Mv 6 0,ir 7 (.call zin [.t 6]),Mv 5 7,Ex 8 5 0,Ex 9 5 1,ic 3 (.alloc (zaR (.int .u64 0) 12)),jc (.st 12 (.t 3) (.t 8)),Mv 4 9]) (.seq (.reg [Mv 10 4,Mv 2 10]) (.ret)))
def zjw:AFn:=⟨11,zf6,[.tmp 2],none⟩
def ze8:AC:=.seq (.reg [ic 2 (.alloc (zaR (.int .u64 0) 12)),iv 3 (.mv (.k (.int .i64 0)))]) (.seq (.reg [ir 7 (.call zir []),Mv 4 7]) (.seq (.reg [Mv 9 4,Mv 10 0,ir 11 (.call zeC [.t 9,.t 10]),Mv 8 11,Ex 12 8 0,Ex 13 8 1,ic 5 (.alloc (zaR (.int .u64 0) 12)),jc (.st 12 (.t 5) (.t 12)),Mv 6 13]) (.seq (.blk 0 (.seq (.reg [Mv 15 6,Bi 16 .neq 15 0,Mv 14 16]) (.cond (.t 14) (.seq (.reg [iv 17 (.build (zaR (.int .u64 0) 12) []),Mv 18 6,jc (.st 12 (.t 2) (.t 17)),Mv 3 18]) (.ret)) (.seq (.draw [Dm 20 4,Dr 21 (.ld 12 true (.t 5)) [5] 0 0,ir 22 (.call zeD []),Dr 23 (.call zeE [.t 22]) [22] 0 0,Dr 24 (.call zfl [.t 20,.t 21,.t 23]) [20,21,23] 0 0,ir 25 (.call zjI []),Dv 26 (.fld 0 12 true (.t 25)) [25],Dv 27 (.eq (.agg (zaR .i 12)) true (.t 24) (.t 26)) [24,26],Dm 19 27]) (.cond (.t 19) (.seq (.reg [iv 28 (.build (zaR (.int .u64 0) 12) []),jc (.st 12 (.t 2) (.t 28)),iv 3 (.mv (.k (.int .i64 4)))]) (.ret)) (.skip)))))) (.seq (.reg [ir 29 (.ld 12 true (.t 5)),iv 30 (.build (zaR (.int .u64 0) 12) [(0,12,.t 29)]),jc (.st 12 (.t 2) (.t 30)),iv 3 (.mv (.k (.int .i64 0)))]) (.ret)))))
def zql:AFn:=⟨31,ze8,[.cell 2 12 true,.tmp 3],none⟩
def zcl:AC:=.seq (.reg [Bi 6 .lss 5 6]) (.seq (.cond (.t 6) (.skip) (.exit 0)) (.seq (.blk 1 (.reg [Mv 7 2,Mv 8 1,Mv 9 2,Bt 10 .mul 8 9,iv 11 (.bin .sub (.k (.int .u64 2)) (.t 10)),Bt 12 .mul 7 11,Mv 2 12])) (.reg [Bi 13 .add 5 1,Mv 5 13])))
def zh2:AC:=.seq (.reg [iv 0 (.mv (.k (.int .u64 0)))]) (.seq (.reg [ir 3 (.call zbP []),iv 4 (.idxA 4 1 false (.t 3) (.k (.int .i64 0))),Mv 1 4,iv 2 (.mv (.k (.int .u64 1)))]) (.seq (.seq (.reg [iv 5 (.mv (.k (.int .i64 0)))]) (.blk 0 (.loop zcl))) (.seq (.reg [Mv 14 2,iv 15 (.un .neg (.t 14)),Mv 0 15]) (.ret))))
def zlM:AFn:=⟨16,zh2,[.tmp 0],none⟩
def zlN:AC:=.seq (.reg [iv 8 (.mv (.k (.int .u64 0))),iv 9 (.mv (.k (.int .u64 0)))]) (.seq (.reg [Mv 14 1,Mv 15 2,ir 16 (.call zcL [.t 14,.t 15]),Mv 13 16,Ex 17 13 0,Ex 18 13 1,Mv 10 17,Mv 11 18]) (.seq (.reg [Mv 20 11,Mv 21 0,ic 22 (.call zaH [.t 20,.t 21,.k (.int .u64 0)]),Mv 19 22,Ex 23 19 0,Ex 24 19 1,Mv 11 23,Mv 12 24]) (.seq (.reg [Mv 25 10,Mv 26 12,Bt 27 .add 25 26,Mv 10 27]) (.seq (.reg [Mv 29 11,Mv 30 3,ic 31 (.call zaH [.t 29,.t 30,.k (.int .u64 0)]),Mv 28 31,Ex 32 28 0,Ex 33 28 1,Mv 11 32,Mv 12 33]) (.seq (.reg [Mv 34 11,Mv 35 10,Mv 36 12,Bt 37 .add 35 36,Mv 8 34,Mv 9 37]) (.ret))))))
def zqm:AFn:=⟨38,zlN,[.tmp 8,.tmp 9],none⟩
def zhr:AC:=.seq (.reg [iv 1 (.boxv (.t 0)),ic 2 (.alloc (zaR (.int .u64 0) 4))]) (.seq (.seq (.draw [Dr 6 (.ld 4 true (.t 1)) [1] 0 1,Dr 7 (.call zbP []) [] 0 1,Dr 8 (.call zep [.t 6,.t 7]) [6,7] 0 1,Dm 5 8,Dv 9 (.ext (.t 5) 0) [5],Dv 10 (.ext (.t 5) 1) [5],ic 3 (.alloc (zaR (.int .u64 0) 4)),Dn (.st 4 (.t 3) (.t 9)) [3,9],Dm 4 10]) (.seq (.reg [Mv 11 4,iv 12 (.bin .eql (.t 11) (.k (.int .u64 0)))]) (.cond (.t 12) (.seq (.reg [ir 13 (.ld 4 true (.t 3)),jc (.st 4 (.t 2) (.t 13))]) (.ret)) (.skip)))) (.seq (.reg [ir 14 (.ld 4 true (.t 1)),jc (.st 4 (.t 2) (.t 14))]) (.ret)))
def zo5:AFn:=⟨15,zhr,[.cell 2 4 true],none⟩
def zaI:AC:=.seq (.reg [iv 2 (.mv (.k (.int .i64 0)))]) (.seq (.seq (.reg [Mv 3 0,iv 4 (.bin .geq (.t 3) (.k (.int .u64 4294967296)))]) (.cond (.t 4) (.seq (.reg [Mv 5 0,iv 6 (.bin .shr (.t 5) (.k (.int .u64 32))),Mv 0 6]) (.reg [iv 2 (.mv (.k (.int .i64 32)))])) (.skip))) (.seq (.seq (.reg [Mv 7 0,iv 8 (.bin .geq (.t 7) (.k (.int .u64 65536)))]) (.cond (.t 8) (.seq (.reg [Mv 9 0,iv 10 (.bin .shr (.t 9) (.k (.int .u64 16))),Mv 0 10]) (.reg [Mv 11 2,Bi 12 .add 11 16,Mv 2 12])) (.skip))) (.seq (.seq (.reg [Mv 13 0,iv 14 (.bin .geq (.t 13) (.k (.int .u64 256)))]) (.cond (.t 14) (.seq (.reg [Mv 15 0,iv 16 (.bin .shr (.t 15) (.k (.int .u64 8))),Mv 0 16]) (.reg [Mv 17 2,Bi 18 .add 17 8,Mv 2 18])) (.skip))) (.seq (.reg [Mv 19 2,Mv 20 0,iv 21 (.i2i .u8 (.t 20)),iv 22 (.idxS (.k (.str zJ9)) (.t 21)),iv 23 (.i2i .i64 (.t 22)),Bt 24 .add 19 23,Mv 2 24]) (.ret)))))
def zjy:AFn:=⟨25,zaI,[.tmp 2],none⟩
def ziR:AC:=.seq (.reg [iv 2 (.mv (.k (.int .i64 0)))]) (.seq (.cond (.k (.bool false)) (.seq (.reg [Mv 3 0,iv 4 (.i2i .u32 (.t 3)),ir 5 (.call zhG [.t 4]),Mv 2 5]) (.ret)) (.skip)) (.seq (.reg [Mv 6 0,ir 7 (.call zhH [.t 6]),Mv 2 7]) (.ret)))
def zey:AFn:=⟨8,ziR,[.tmp 2],none⟩
def zk2:AC:=.seq (.seq (.reg [Mv 15 6,Bi 16 .lss 15 64]) (.cond (.t 16) (.skip) (.exit 2))) (.seq (.blk 3 (.seq (.reg [Mv 19 4,Bi 20 .rem 19 5,Mv 21 4,Bi 22 .quo 21 5,Mv 23 6,Mv 24 5,iv 25 (.bin .rem (.t 24) (.k (.int .u64 2))),iv 26 (.bin .eql (.t 25) (.k (.int .u64 1))),iv 27 (.iadr (some 5) 320 (.t 3) (.t 20)),iv 28 (.iadr (some 5) 64 (.t 27) (.t 22)),iv 29 (.iadr (some 64) 1 (.t 28) (.t 23)),Sx 29 26]) (.reg [Mv 30 5,iv 31 (.bin .quo (.t 30) (.k (.int .u64 2))),Mv 5 31]))) (.reg [Mv 17 6,Bi 18 .add 17 1,Mv 6 18]))
def zk3:AC:=.seq (.seq (.reg [Mv 8 4,Bi 9 .lss 8 25]) (.cond (.t 9) (.skip) (.exit 0))) (.seq (.blk 1 (.seq (.reg [Mv 12 4,iv 13 (.iadr (some 25) 1 (.t 1) (.t 12)),Ld 14 13,Mv 5 14]) (.seq (.reg [iv 6 (.mv (.k (.int .i64 0)))]) (.blk 2 (.loop zk2))))) (.reg [Mv 10 4,Bi 11 .add 10 1,Mv 4 11]))
def zlO:AC:=.seq (.reg [iv 1 (.boxv (.t 0)),ic 2 (.alloc (zaR (.bool false) 1600))]) (.seq (.reg [iv 7 (.build (zaR (.bool false) 1600) []),ic 3 (.alloc (zaR (.bool false) 1600)),jc (.st 1600 (.t 3) (.t 7))]) (.seq (.seq (.reg [iv 4 (.mv (.k (.int .i64 0)))]) (.blk 0 (.loop zk3))) (.seq (.reg [ir 32 (.ld 1600 true (.t 3)),jc (.st 1600 (.t 2) (.t 32))]) (.ret))))
def zgE:AFn:=⟨33,zlO,[.cell 2 1600 true],none⟩
def zmN:AC:=.seq (.seq (.reg [Mv 14 6,Bi 15 .lss 14 64]) (.cond (.t 15) (.skip) (.exit 0))) (.seq (.blk 1 (.draw [Dm 18 6,Dm 19 6,Dv 20 (.iadr (some 5) 320 (.t 2) (.k (.int .i64 0))) [2],Dv 21 (.iadr (some 5) 64 (.t 20) (.k (.int .i64 0))) [20],Dv 22 (.iadr (some 64) 1 (.t 21) (.t 19)) [21,19],Dr 23 (.ld 1 false (.t 22)) [22] 0 0,Dm 24 6,Dv 25 (.iadr (some 64) 1 (.t 5) (.t 24)) [5,24],Dr 26 (.ld 1 false (.t 25)) [25] 0 0,Dv 27 (.eq .bool true (.t 23) (.t 26)) [23,26],Dv 28 (.iadr (some 5) 320 (.t 2) (.k (.int .i64 0))) [2],Dv 29 (.iadr (some 5) 64 (.t 28) (.k (.int .i64 0))) [28],Dv 30 (.iadr (some 64) 1 (.t 29) (.t 18)) [29,18],Dn (.st 1 (.t 30) (.t 27)) [30,27]])) (.reg [Mv 16 6,Bi 17 .add 16 1,Mv 6 17]))
def znP:AC:=.seq (.reg [ic 2 (.box (.t 0)),ic 4 (.alloc (zaR (.bool false) 1600))]) (.seq (.reg [ir 7 (.ld 1600 true (.t 2)),ir 8 (.call zhI [.t 7]),ir 9 (.call zi9 [.t 8]),ir 10 (.call zkq [.t 9]),ir 11 (.call zi8 [.t 10]),jc (.st 1600 (.t 2) (.t 11))]) (.seq (.reg [Mv 12 1,ir 13 (.call zfI [.t 12]),ic 5 (.alloc (zaR (.bool false) 64)),jc (.st 64 (.t 5) (.t 13))]) (.seq (.seq (.reg [iv 6 (.mv (.k (.int .i64 0)))]) (.blk 0 (.loop zmN))) (.seq (.reg [ir 31 (.ld 1600 true (.t 2)),jc (.st 1600 (.t 4) (.t 31))]) (.ret)))))
def zh3:AFn:=⟨32,znP,[.cell 4 1600 true],none⟩
def zmO:AC:=.seq (.seq (.reg [Mv 12 6,Bi 13 .geq 12 0]) (.cond (.t 13) (.skip) (.exit 2))) (.seq (.blk 3 (.seq (.reg [Mv 16 5,iv 17 (.bin .mul (.t 16) (.k (.int .u64 2))),Mv 5 17]) (.seq (.reg [Mv 18 4,Bi 19 .rem 18 5,Mv 20 4,Bi 21 .quo 20 5,Mv 22 6,iv 23 (.iadr (some 5) 320 (.t 1) (.t 19)),iv 24 (.iadr (some 5) 64 (.t 23) (.t 21)),iv 25 (.iadr (some 64) 1 (.t 24) (.t 22)),Ld 26 25]) (.cond (.t 26) (.reg [Mv 27 5,iv 28 (.bin .add (.t 27) (.k (.int .u64 1))),Mv 5 28]) (.skip))))) (.reg [Mv 14 6,Bi 15 .sub 14 1,Mv 6 15]))
def zmP:AC:=.seq (.seq (.reg [Mv 8 4,Bi 9 .lss 8 25]) (.cond (.t 9) (.skip) (.exit 0))) (.seq (.blk 1 (.seq (.reg [iv 5 (.mv (.k (.int .u64 0)))]) (.seq (.seq (.reg [iv 6 (.mv (.k (.int .i64 63)))]) (.blk 2 (.loop zmO))) (.reg [Mv 29 4,Mv 30 5,iv 31 (.iadr (some 25) 1 (.t 3) (.t 29)),Sx 31 30])))) (.reg [Mv 10 4,Bi 11 .add 10 1,Mv 4 11]))
def znQ:AC:=.seq (.reg [iv 1 (.boxv (.t 0)),ic 2 (.alloc (zaR (.int .u64 0) 25))]) (.seq (.reg [iv 7 (.build (zaR (.int .u64 0) 25) []),ic 3 (.alloc (zaR (.int .u64 0) 25)),jc (.st 25 (.t 3) (.t 7))]) (.seq (.seq (.reg [iv 4 (.mv (.k (.int .i64 0)))]) (.blk 0 (.loop zmP))) (.seq (.reg [ir 32 (.ld 25 true (.t 3)),jc (.st 25 (.t 2) (.t 32))]) (.ret))))
def zh4:AFn:=⟨33,znQ,[.cell 2 25 true],none⟩
def zlQ:AC:=.seq (.reg [iv 2 (.mv (.k (.nsl))),iv 3 (.mv (.k (.int .i64 0)))]) (.seq (.seq (.reg [Mv 4 0]) (.blk 0 (.seq (.reg [Bi 6 .eql 4 1,Mv 5 6]) (.cond (.t 5) (.seq (.reg [iv 7 (.slit 1 4 [.int .i64 0] [(0,.k (.int .i64 1)),(1,.k (.int .i64 2)),(2,.k (.int .i64 3)),(3,.k (.int .i64 4))]),Mv 2 7,iv 3 (.mv (.k (.int .i64 1048576)))]) (.ret)) (.seq (.reg [Bi 9 .eql 4 2,Mv 8 9]) (.cond (.t 8) (.seq (.reg [iv 10 (.slit 1 2 [.int .i64 0] [(0,.k (.int .i64 1)),(1,.k (.int .i64 3))]),Mv 2 10,iv 3 (.mv (.k (.int .i64 1048576)))]) (.ret)) (.seq (.reg [Bi 12 .eql 4 3,Mv 11 12]) (.cond (.t 11) (.seq (.reg [iv 13 (.slit 1 1 [.int .i64 0] [(0,.k (.int .i64 0))]),Mv 2 13,iv 3 (.mv (.k (.int .i64 1)))]) (.ret)) (.skip))))))))) (.seq (.reg [iv 2 (.mv (.k (.nsl))),iv 3 (.mv (.k (.int .i64 0)))]) (.ret)))
def zqn:AFn:=⟨14,zlQ,[.tmp 2,.tmp 3],none⟩
def zcT:AC:=.seq (.reg [iv 4 (.mv (.k (.bool false)))]) (.seq (.reg [Mv 5 0,Mv 6 1,ir 7 (.call zcq [.t 5,.t 6]),Bi 8 .geq 7 0,Mv 4 8]) (.ret))
def ze9:AFn:=⟨9,zcT,[.tmp 4],none⟩
def zej:AC:=.seq (.reg [ic 2 (.box (.t 0)),ic 4 (.alloc (zaR (.int .u64 0) 25))]) (.seq (.reg [ir 5 (.ld 25 true (.t 2)),ir 6 (.call zcH [.t 5]),ir 7 (.call zcI [.t 6]),ir 8 (.call zdl [.t 7]),jc (.st 25 (.t 2) (.t 8))]) (.seq (.draw [Dv 9 (.iadr (some 25) 1 (.t 2) (.k (.int .i64 0))) [2],Dr 10 (.ld 1 false (.t 9)) [9] 0 0,Dm 11 1,Dr 12 (.call zdU [.t 11]) [11] 0 0,Dv 13 (.bin .xor (.t 10) (.t 12)) [10,12],Dv 14 (.iadr (some 25) 1 (.t 2) (.k (.int .i64 0))) [2],Dn (.st 1 (.t 14) (.t 13)) [14,13]]) (.seq (.reg [ir 15 (.ld 25 true (.t 2)),jc (.st 25 (.t 4) (.t 15))]) (.ret))))
def zg9:AFn:=⟨16,zej,[.cell 4 25 true],none⟩
def zca:AC:=.seq (.reg [iv 2 (.mv (.k (.nsl)))]) (.seq (.seq (.reg [Mv 3 0,iv 4 (.eq .slc false (.t 3) (.k (.nsl)))]) (.cond (.t 4) (.seq (.reg [iv 2 (.mv (.k (.nsl)))]) (.ret)) (.skip))) (.seq (.reg [iv 5 (.slit 1 0 [.int .u64 0] []),Mv 6 0,ic 7 (.app 1 false (.t 5) (.t 6)),Mv 2 7]) (.ret)))
def zdJ:AFn:=⟨8,zca,[.tmp 2],none⟩
def zaS:AC:=.seq (.reg [Bt 16 .lss 15 14]) (.seq (.cond (.t 16) (.skip) (.exit 0)) (.seq (.blk 1 (.seq (.reg [Mv 17 15,Ia 18 13 15,Ld 19 18,Mv 8 17,Mv 9 19]) (.seq (.reg [Mv 20 7,Mv 21 8,Mv 22 9,iv 23 (.bin .shl (.t 22) (.k (.int .u64 1))),Mv 24 2,Bt 25 .or 23 24,Ia 26 20 21,Sx 26 25]) (.reg [Mv 27 9,iv 28 (.bin .shr (.t 27) (.k (.int .u64 63))),Mv 2 28])))) (.reg [Bi 29 .add 15 1,Mv 15 29])))
def zek:AC:=.seq (.reg [iv 6 (.mv (.k (.nsl)))]) (.seq (.reg [Mv 10 1,iv 11 (.lenL (.t 10)),ic 12 (.mk 1 [.int .u64 0] (.t 11)),Mv 7 12]) (.seq (.seq (.reg [Mv 13 1,iv 14 (.lenL (.t 13)),iv 15 (.mv (.k (.int .i64 0)))]) (.blk 0 (.loop zaS))) (.seq (.reg [Mv 30 0,Mv 31 7,Mv 32 2,ir 33 (.call zbt [.t 30,.t 31,.t 32]),Mv 6 33]) (.ret))))
def zha:AFn:=⟨34,zek,[.tmp 6],none⟩
def zd1:AC:=.seq (.reg [Bi 8 .lss 7 4]) (.seq (.cond (.t 8) (.skip) (.exit 0)) (.seq (.blk 1 (.seq (.reg [Mv 9 7,Mv 6 9]) (.draw [Dm 11 6,Dm 12 6,Dv 13 (.iadr (some 4) 1 (.t 2) (.t 12)) [2,12],Dr 14 (.ld 1 false (.t 13)) [13] 0 0,Dm 15 6,Dv 16 (.iadr (some 4) 1 (.t 3) (.t 15)) [3,15],Dr 17 (.ld 1 false (.t 16)) [16] 0 0,Dm 18 5,Dc 19 (.call zaH [.t 14,.t 17,.t 18]) [14,17,18],Dm 10 19,Dv 20 (.ext (.t 10) 0) [10],Dv 21 (.ext (.t 10) 1) [10],Dv 22 (.iadr (some 4) 1 (.t 4) (.t 11)) [4,11],Dn (.st 1 (.t 22) (.t 20)) [22,20],Dm 5 21]))) (.reg [Bi 23 .add 7 1,Mv 7 23])))
def zlR:AC:=.seq (.reg [iv 2 (.boxv (.t 0)),iv 3 (.boxv (.t 1)),ic 4 (.alloc (zaR (.int .u64 0) 4))]) (.seq (.reg [iv 5 (.mv (.k (.int .u64 0)))]) (.seq (.seq (.reg [iv 7 (.mv (.k (.int .i64 0)))]) (.blk 0 (.loop zd1))) (.seq (.reg [ir 24 (.ld 4 true (.t 4)),jc (.st 4 (.t 4) (.t 24))]) (.ret))))
def zqo:AFn:=⟨25,zlR,[.cell 4 4 true],none⟩
def zgF:AC:=.seq (.seq (.reg [Mv 7 3,Bi 8 .geq 7 0]) (.cond (.t 8) (.skip) (.exit 0))) (.seq (.blk 1 (.seq (.reg [Mv 11 0,Mv 12 3,Ia 13 11 12,Ld 14 13,iv 15 (.bin .neq (.t 14) (.k (.int .u64 0)))]) (.cond (.t 15) (.seq (.reg [Mv 16 3,iv 17 (.bin .mul (.k (.int .i64 64)) (.t 16)),Mv 18 0,Mv 19 3,Ia 20 18 19,Ld 21 20,ir 22 (.call zdR [.t 21]),Bt 23 .add 17 22,Mv 2 23]) (.ret)) (.skip)))) (.reg [Mv 9 3,Bi 10 .sub 9 1,Mv 3 10]))
def znS:AC:=.seq (.reg [iv 2 (.mv (.k (.int .i64 0)))]) (.seq (.seq (.reg [Mv 4 0,iv 5 (.lenL (.t 4)),Bi 6 .sub 5 1,Mv 3 6]) (.blk 0 (.loop zgF))) (.seq (.reg [iv 2 (.mv (.k (.int .i64 0)))]) (.ret)))
def zsC:AFn:=⟨24,znS,[.tmp 2],none⟩
def zcU:AC:=.seq (.reg [Bi 8 .lss 7 4]) (.seq (.cond (.t 8) (.skip) (.exit 0)) (.seq (.blk 1 (.seq (.reg [Mv 9 7,Mv 6 9]) (.draw [Dm 11 6,Dm 12 6,Dv 13 (.iadr (some 4) 1 (.t 2) (.t 12)) [2,12],Dr 14 (.ld 1 false (.t 13)) [13] 0 0,Dm 15 6,Dv 16 (.iadr (some 4) 1 (.t 3) (.t 15)) [3,15],Dr 17 (.ld 1 false (.t 16)) [16] 0 0,Dm 18 5,Dc 19 (.call zbX [.t 14,.t 17,.t 18]) [14,17,18],Dm 10 19,Dv 20 (.ext (.t 10) 0) [10],Dv 21 (.ext (.t 10) 1) [10],Dv 22 (.iadr (some 4) 1 (.t 4) (.t 11)) [4,11],Dn (.st 1 (.t 22) (.t 20)) [22,20],Dm 5 21]))) (.reg [Bi 23 .add 7 1,Mv 7 23])))
def ziS:AC:=.seq (.reg [iv 2 (.boxv (.t 0)),iv 3 (.boxv (.t 1)),ic 4 (.alloc (zaR (.int .u64 0) 4)),iv 5 (.mv (.k (.int .u64 0)))]) (.seq (.seq (.reg [iv 7 (.mv (.k (.int .i64 0)))]) (.blk 0 (.loop zcU))) (.seq (.reg [ir 24 (.ld 4 true (.t 4)),Mv 25 5,jc (.st 4 (.t 4) (.t 24)),Mv 5 25]) (.ret)))
def zm1:AFn:=⟨26,ziS,[.cell 4 4 true,.tmp 5],none⟩
def zlS:AC:=.seq (.reg [iv 0 (.mv (.k (.nilp)))]) (.seq (.reg [ir 1 (.call zgn []),ir 2 (.call zhK [.t 1]),Mv 0 2]) (.ret))
def zqp:AFn:=⟨3,zlS,[.tmp 0],none⟩
def zdd:AC:=.seq (.reg [ic 4 (.alloc (zaR (.int .u64 0) 12)),iv 5 (.mv (.k (.int .i64 0)))]) (.seq (.seq (.reg [Mv 7 1,iv 8 (.lenL (.t 7)),Bi 9 .neq 8 96]) (.cond (.t 9) (.seq (.reg [iv 10 (.build (zaR (.int .u64 0) 12) []),jc (.st 12 (.t 4) (.t 10)),iv 5 (.mv (.k (.int .i64 1)))]) (.ret)) (.skip))) (.seq (.reg [Mv 11 1,ir 12 (.call zdy [.t 11]),Mv 6 12]) (.seq (.seq (.reg [Mv 13 6,Mv 14 0,Nk 15 14,Fa 16 0 15,Ld 17 16,ir 18 (.call zbK [.t 17]),ir 19 (.call zjd [.t 13,.t 18]),Bi 20 .geq 19 0]) (.cond (.t 20) (.seq (.reg [iv 21 (.build (zaR (.int .u64 0) 12) []),jc (.st 12 (.t 4) (.t 21)),iv 5 (.mv (.k (.int .i64 4)))]) (.ret)) (.skip))) (.seq (.reg [Mv 22 6,iv 23 (.s2a 12 (.t 22)),ir 24 (.ld 12 true (.t 23)),jc (.st 12 (.t 4) (.t 24)),iv 5 (.mv (.k (.int .i64 0)))]) (.ret)))))
def zkB:AFn:=⟨25,zdd,[.cell 4 12 true,.tmp 5],none⟩
def zh5:AC:=.seq (.reg [iv 4 (.boxv (.t 1)),iv 5 (.boxv (.t 2)),ic 6 (.alloc (zaR (.int .u64 0) 12))]) (.seq (.draw [Dm 7 0,Dv 8 (.nck (.t 7)) [7],Dv 9 (.fadr 0 (.t 8)) [8],Dr 10 (.ld 1 false (.t 9)) [9] 0 0,Dv 11 (.mkfn (.func zbk) [.t 10] []) [10],Dr 12 (.ld 12 true (.t 4)) [4] 0 0,Dr 13 (.ld 12 true (.t 5)) [5] 0 0,Dr 14 (.call zoi [.t 11,.t 12,.t 13]) [11,12,13] 0 0,Dn (.st 12 (.t 6) (.t 14)) [6,14]]) (.ret))
def zlT:AFn:=⟨15,zh5,[.cell 6 12 true],none⟩
def zd2:AC:=.seq (.seq (.reg [Mv 5 3,Bi 6 .geq 5 0]) (.cond (.t 6) (.skip) (.exit 0))) (.seq (.blk 1 (.draw [Dm 9 3,Dm 10 3,Dv 11 (.iadr (some 12) 1 (.t 1) (.t 10)) [1,10],Dr 12 (.ld 1 false (.t 11)) [11] 0 0,Dv 13 (.bin .shr (.t 12) (.k (.int .u64 1))) [12],Dm 14 2,Dv 15 (.bin .shl (.t 14) (.k (.int .u64 63))) [14],Dv 16 (.bin .or (.t 13) (.t 15)) [13,15],Dm 17 3,Dv 18 (.iadr (some 12) 1 (.t 1) (.t 17)) [1,17],Dr 19 (.ld 1 false (.t 18)) [18] 0 0,Dv 20 (.bin .and (.t 19) (.k (.int .u64 1))) [19],Dv 21 (.iadr (some 12) 1 (.t 1) (.t 9)) [1,9],Dn (.st 1 (.t 21) (.t 16)) [21,16],Dm 2 20])) (.reg [Mv 7 3,Bi 8 .sub 7 1,Mv 3 8]))
def zgW:AC:=.seq (.reg [iv 0 (.mv (.k (.nilp)))]) (.seq (.reg [ir 4 (.call zgn []),ic 1 (.alloc (zaR (.int .u64 0) 12)),jc (.st 12 (.t 1) (.t 4)),iv 2 (.mv (.k (.int .u64 0)))]) (.seq (.seq (.reg [iv 3 (.mv (.k (.int .i64 11)))]) (.blk 0 (.loop zd2))) (.seq (.reg [ir 22 (.ld 12 true (.t 1)),ir 23 (.call zhK [.t 22]),Mv 0 23]) (.ret))))
def zkC:AFn:=⟨24,zgW,[.tmp 0],none⟩
def zgV:AC:=.seq (.reg [ic 2 (.alloc (zaR (.int .u64 0) 12))]) (.seq (.reg [Mv 3 0,Nk 4 3,Fa 5 0 4,Ld 6 5,ir 7 (.call zbK [.t 6]),iv 8 (.s2a 12 (.t 7)),ir 9 (.ld 12 true (.t 8)),jc (.st 12 (.t 2) (.t 9))]) (.ret))
def zku:AFn:=⟨10,zgV,[.cell 2 12 true],none⟩
def znI:AC:=.seq (.reg [ic 0 (.alloc (zaR (.int .u64 0) 12))]) (.seq (.reg [iv 1 (.build (zaR (.int .u64 0) 12) [(0,1,.k (.int .u64 1))]),iv 2 (.build (zaR (.int .u64 0) 12) [(0,12,.t 1)]),jc (.st 12 (.t 0) (.t 2))]) (.ret))
def zsc:AFn:=⟨3,znI,[.cell 0 12 true],none⟩
def zf0:AC:=.seq (.reg [iv 4 (.mv (.k (.int .u64 0))),iv 5 (.mv (.k (.int .u64 0)))]) (.seq (.reg [Mv 14 0,iv 15 (.bin .and (.t 14) (.k (.int .u64 4294967295))),Mv 6 15]) (.seq (.reg [Mv 16 0,iv 17 (.bin .shr (.t 16) (.k (.int .u64 32))),Mv 7 17]) (.seq (.reg [Mv 18 1,iv 19 (.bin .and (.t 18) (.k (.int .u64 4294967295))),Mv 8 19]) (.seq (.reg [Mv 20 1,iv 21 (.bin .shr (.t 20) (.k (.int .u64 32))),Mv 9 21]) (.seq (.reg [Mv 22 6,Mv 23 8,Bt 24 .mul 22 23,Mv 10 24]) (.seq (.reg [Mv 25 7,Mv 26 8,Bt 27 .mul 25 26,Mv 28 10,iv 29 (.bin .shr (.t 28) (.k (.int .u64 32))),Bt 30 .add 27 29,Mv 11 30]) (.seq (.reg [Mv 31 11,iv 32 (.bin .and (.t 31) (.k (.int .u64 4294967295))),Mv 12 32]) (.seq (.reg [Mv 33 11,iv 34 (.bin .shr (.t 33) (.k (.int .u64 32))),Mv 13 34]) (.seq (.reg [Mv 35 12,Mv 36 6,Mv 37 9,Bt 38 .mul 36 37,Bt 39 .add 35 38,Mv 12 39]) (.seq (.reg [Mv 40 7,Mv 41 9,Bt 42 .mul 40 41,Mv 43 13,Bt 44 .add 42 43,Mv 45 12,iv 46 (.bin .shr (.t 45) (.k (.int .u64 32))),Bt 47 .add 44 46,Mv 4 47]) (.seq (.reg [Mv 48 0,Mv 49 1,Bt 50 .mul 48 49,Mv 5 50]) (.ret))))))))))))
def zjm:AFn:=⟨51,zf0,[.tmp 4,.tmp 5],none⟩
def zoG:AC:=.seq (.seq (.reg [Mv 16 6,Bi 17 .lss 16 64]) (.cond (.t 17) (.skip) (.exit 4))) (.seq (.blk 5 (.draw [Dm 20 4,Dm 21 5,Dm 22 6,Dm 23 4,Dm 24 5,Dm 25 6,Dv 26 (.iadr (some 5) 320 (.t 1) (.t 23)) [1,23],Dv 27 (.iadr (some 5) 64 (.t 26) (.t 24)) [26,24],Dv 28 (.iadr (some 64) 1 (.t 27) (.t 25)) [27,25],Dr 29 (.ld 1 false (.t 28)) [28] 0 0,Dm 30 4,Dv 31 (.bin .add (.t 30) (.k (.int .i64 1))) [30],Dv 32 (.bin .rem (.t 31) (.k (.int .i64 5))) [31],Dm 33 5,Dm 34 6,Dv 35 (.iadr (some 5) 320 (.t 1) (.t 32)) [1,32],Dv 36 (.iadr (some 5) 64 (.t 35) (.t 33)) [35,33],Dv 37 (.iadr (some 64) 1 (.t 36) (.t 34)) [36,34],Dr 38 (.ld 1 false (.t 37)) [37] 0 0,Dv 39 (.un .not (.t 38)) [38],Dm 40 39,Gm 41 4 40 true,Gv 42 (.bin .add (.t 41) (.k (.int .i64 2))) 40 true [41,40],Gv 43 (.bin .rem (.t 42) (.k (.int .i64 5))) 40 true [42,40],Gm 44 5 40 true,Gm 45 6 40 true,Gv 46 (.iadr (some 5) 320 (.t 1) (.t 43)) 40 true [1,43,40],Gv 47 (.iadr (some 5) 64 (.t 46) (.t 44)) 40 true [46,44,40],Gv 48 (.iadr (some 64) 1 (.t 47) (.t 45)) 40 true [47,45,40],Gr 49 (.ld 1 false (.t 48)) 40 true [48,40] 0 0,Dv 50 (.pick (.t 40) (.t 49) (.k (.bool false))) [40,49],Dv 51 (.eq .bool true (.t 29) (.t 50)) [29,50],Dv 52 (.iadr (some 5) 320 (.t 3) (.t 20)) [3,20],Dv 53 (.iadr (some 5) 64 (.t 52) (.t 21)) [52,21],Dv 54 (.iadr (some 64) 1 (.t 53) (.t 22)) [53,22],Dn (.st 1 (.t 54) (.t 51)) [54,51]])) (.reg [Mv 18 6,Bi 19 .add 18 1,Mv 6 19]))
def zoH:AC:=.seq (.seq (.reg [Mv 12 5,Bi 13 .lss 12 5]) (.cond (.t 13) (.skip) (.exit 2))) (.seq (.blk 3 (.seq (.reg [iv 6 (.mv (.k (.int .i64 0)))]) (.blk 4 (.loop zoG)))) (.reg [Mv 14 5,Bi 15 .add 14 1,Mv 5 15]))
def zoI:AC:=.seq (.seq (.reg [Mv 8 4,Bi 9 .lss 8 5]) (.cond (.t 9) (.skip) (.exit 0))) (.seq (.blk 1 (.seq (.reg [iv 5 (.mv (.k (.int .i64 0)))]) (.blk 2 (.loop zoH)))) (.reg [Mv 10 4,Bi 11 .add 10 1,Mv 4 11]))
def zpM:AC:=.seq (.reg [iv 1 (.boxv (.t 0)),ic 2 (.alloc (zaR (.bool false) 1600))]) (.seq (.reg [iv 7 (.build (zaR (.bool false) 1600) []),ic 3 (.alloc (zaR (.bool false) 1600)),jc (.st 1600 (.t 3) (.t 7))]) (.seq (.seq (.reg [iv 4 (.mv (.k (.int .i64 0)))]) (.blk 0 (.loop zoI))) (.seq (.reg [ir 55 (.ld 1600 true (.t 3)),jc (.st 1600 (.t 2) (.t 55))]) (.ret))))
def zjn:AFn:=⟨56,zpM,[.cell 2 1600 true],none⟩
def zpN:AC:=.seq (.seq (.reg [Mv 11 5,Bi 12 .lss 11 5]) (.cond (.t 12) (.skip) (.exit 2))) (.seq (.blk 3 (.draw [Dm 15 5,Dm 16 4,Dv 17 (.bin .mul (.k (.int .i64 2)) (.t 16)) [16],Dm 18 5,Dv 19 (.bin .mul (.k (.int .i64 3)) (.t 18)) [18],Dv 20 (.bin .add (.t 17) (.t 19)) [17,19],Dv 21 (.bin .rem (.t 20) (.k (.int .i64 5))) [20],Dm 22 4,Dm 23 5,Dv 24 (.iadr (some 5) 320 (.t 1) (.t 22)) [1,22],Dv 25 (.iadr (some 5) 64 (.t 24) (.t 23)) [24,23],Dr 26 (.ld 64 true (.t 25)) [25] 0 0,Dv 27 (.iadr (some 5) 320 (.t 3) (.t 15)) [3,15],Dv 28 (.iadr (some 5) 64 (.t 27) (.t 21)) [27,21],Dn (.st 64 (.t 28) (.t 26)) [28,26]])) (.reg [Mv 13 5,Bi 14 .add 13 1,Mv 5 14]))
def zpO:AC:=.seq (.seq (.reg [Mv 7 4,Bi 8 .lss 7 5]) (.cond (.t 8) (.skip) (.exit 0))) (.seq (.blk 1 (.seq (.reg [iv 5 (.mv (.k (.int .i64 0)))]) (.blk 2 (.loop zpN)))) (.reg [Mv 9 4,Bi 10 .add 9 1,Mv 4 10]))
def zqM:AC:=.seq (.reg [iv 1 (.boxv (.t 0)),ic 2 (.alloc (zaR (.bool false) 1600))]) (.seq (.reg [iv 6 (.build (zaR (.bool false) 1600) []),ic 3 (.alloc (zaR (.bool false) 1600)),jc (.st 1600 (.t 3) (.t 6))]) (.seq (.seq (.reg [iv 4 (.mv (.k (.int .i64 0)))]) (.blk 0 (.loop zpO))) (.seq (.reg [ir 29 (.ld 1600 true (.t 3)),jc (.st 1600 (.t 2) (.t 29))]) (.ret))))
def zkv:AFn:=⟨30,zqM,[.cell 2 1600 true],none⟩
def zoK:AC:=.seq (.seq (.reg [Mv 18 7,Bi 19 .lss 18 64]) (.cond (.t 19) (.skip) (.exit 2))) (.seq (.blk 3 (.draw [Dm 22 4,Dm 23 5,Dm 24 7,Dm 25 6,Dv 26 (.bin .add (.t 25) (.k (.int .i64 1))) [25],Dm 27 6,Dv 28 (.bin .add (.t 27) (.k (.int .i64 2))) [27],Dv 29 (.bin .mul (.t 26) (.t 28)) [26,28],Dv 30 (.bin .quo (.t 29) (.k (.int .i64 2))) [29],Dv 31 (.bin .add (.t 24) (.t 30)) [24,30],Dv 32 (.bin .rem (.t 31) (.k (.int .i64 64))) [31],Dm 33 4,Dm 34 5,Dm 35 7,Dv 36 (.iadr (some 5) 320 (.t 1) (.t 33)) [1,33],Dv 37 (.iadr (some 5) 64 (.t 36) (.t 34)) [36,34],Dv 38 (.iadr (some 64) 1 (.t 37) (.t 35)) [37,35],Dr 39 (.ld 1 false (.t 38)) [38] 0 0,Dv 40 (.iadr (some 5) 320 (.t 3) (.t 22)) [3,22],Dv 41 (.iadr (some 5) 64 (.t 40) (.t 23)) [40,23],Dv 42 (.iadr (some 64) 1 (.t 41) (.t 32)) [41,32],Dn (.st 1 (.t 42) (.t 39)) [42,39]])) (.reg [Mv 20 7,Bi 21 .add 20 1,Mv 7 21]))
def zoL:AC:=.seq (.seq (.reg [Mv 14 6,Bi 15 .lss 14 24]) (.cond (.t 15) (.skip) (.exit 0))) (.seq (.blk 1 (.seq (.seq (.reg [iv 7 (.mv (.k (.int .i64 0)))]) (.blk 2 (.loop zoK))) (.reg [Mv 43 5,Mv 44 4,iv 45 (.bin .mul (.k (.int .i64 2)) (.t 44)),Mv 46 5,iv 47 (.bin .mul (.k (.int .i64 3)) (.t 46)),Bt 48 .add 45 47,Bi 49 .rem 48 5,Mv 4 43,Mv 5 49]))) (.reg [Mv 16 6,Bi 17 .add 16 1,Mv 6 17]))
def zpP:AC:=.seq (.reg [iv 1 (.boxv (.t 0)),ic 2 (.alloc (zaR (.bool false) 1600))]) (.seq (.reg [iv 8 (.build (zaR (.bool false) 1600) []),ic 3 (.alloc (zaR (.bool false) 1600)),jc (.st 1600 (.t 3) (.t 8))]) (.seq (.reg [iv 9 (.iadr (some 5) 320 (.t 1) (.k (.int .i64 0))),iv 10 (.iadr (some 5) 64 (.t 9) (.k (.int .i64 0))),ir 11 (.ld 64 true (.t 10)),iv 12 (.iadr (some 5) 320 (.t 3) (.k (.int .i64 0))),iv 13 (.iadr (some 5) 64 (.t 12) (.k (.int .i64 0))),jc (.st 64 (.t 13) (.t 11))]) (.seq (.reg [iv 4 (.mv (.k (.int .i64 1))),iv 5 (.mv (.k (.int .i64 0)))]) (.seq (.seq (.reg [iv 6 (.mv (.k (.int .i64 0)))]) (.blk 0 (.loop zoL))) (.seq (.reg [ir 50 (.ld 1600 true (.t 3)),jc (.st 1600 (.t 2) (.t 50))]) (.ret))))))
def zjo:AFn:=⟨51,zpP,[.cell 2 1600 true],none⟩
def zmC:AC:=.seq (.seq (.reg [Mv 22 7,Bi 23 .lss 22 5]) (.cond (.t 23) (.skip) (.exit 4))) (.seq (.blk 5 (.seq (.reg [Mv 26 4,Mv 27 7,Mv 28 5,iv 29 (.iadr (some 5) 320 (.t 1) (.t 26)),iv 30 (.iadr (some 5) 64 (.t 29) (.t 27)),iv 31 (.iadr (some 64) 1 (.t 30) (.t 28)),Ld 32 31]) (.cond (.t 32) (.reg [Mv 33 6,Bi 34 .add 33 1,Mv 6 34]) (.skip)))) (.reg [Mv 24 7,Bi 25 .add 24 1,Mv 7 25]))
def zmD:AC:=.seq (.seq (.reg [Mv 18 5,Bi 19 .lss 18 64]) (.cond (.t 19) (.skip) (.exit 2))) (.seq (.blk 3 (.seq (.reg [iv 6 (.mv (.k (.int .i64 0)))]) (.seq (.seq (.reg [iv 7 (.mv (.k (.int .i64 0)))]) (.blk 4 (.loop zmC))) (.reg [Mv 35 4,Mv 36 5,Mv 37 6,Bi 38 .rem 37 2,Bi 39 .eql 38 1,iv 40 (.iadr (some 5) 64 (.t 3) (.t 35)),iv 41 (.iadr (some 64) 1 (.t 40) (.t 36)),Sx 41 39])))) (.reg [Mv 20 5,Bi 21 .add 20 1,Mv 5 21]))
def zmE:AC:=.seq (.seq (.reg [Mv 14 4,Bi 15 .lss 14 5]) (.cond (.t 15) (.skip) (.exit 0))) (.seq (.blk 1 (.seq (.reg [iv 5 (.mv (.k (.int .i64 0)))]) (.blk 2 (.loop zmD)))) (.reg [Mv 16 4,Bi 17 .add 16 1,Mv 4 17]))
def zmF:AC:=.seq (.seq (.reg [Mv 51 11,Bi 52 .lss 51 64]) (.cond (.t 52) (.skip) (.exit 10))) (.seq (.blk 11 (.seq (.draw [Dm 55 9,Dv 56 (.bin .add (.t 55) (.k (.int .i64 4))) [55],Dv 57 (.bin .rem (.t 56) (.k (.int .i64 5))) [56],Dm 58 11,Dv 59 (.iadr (some 5) 64 (.t 3) (.t 57)) [3,57],Dv 60 (.iadr (some 64) 1 (.t 59) (.t 58)) [59,58],Dr 61 (.ld 1 false (.t 60)) [60] 0 0,Dm 62 9,Dv 63 (.bin .add (.t 62) (.k (.int .i64 1))) [62],Dv 64 (.bin .rem (.t 63) (.k (.int .i64 5))) [63],Dm 65 11,Dv 66 (.bin .add (.t 65) (.k (.int .i64 63))) [65],Dv 67 (.bin .rem (.t 66) (.k (.int .i64 64))) [66],Dv 68 (.iadr (some 5) 64 (.t 3) (.t 64)) [3,64],Dv 69 (.iadr (some 64) 1 (.t 68) (.t 67)) [68,67],Dr 70 (.ld 1 false (.t 69)) [69] 0 0,Dv 71 (.eq .bool true (.t 61) (.t 70)) [61,70],Dm 12 71]) (.draw [Dm 72 9,Dm 73 10,Dm 74 11,Dm 75 9,Dm 76 10,Dm 77 11,Dv 78 (.iadr (some 5) 320 (.t 1) (.t 75)) [1,75],Dv 79 (.iadr (some 5) 64 (.t 78) (.t 76)) [78,76],Dv 80 (.iadr (some 64) 1 (.t 79) (.t 77)) [79,77],Dr 81 (.ld 1 false (.t 80)) [80] 0 0,Dm 82 12,Dv 83 (.eq .bool true (.t 81) (.t 82)) [81,82],Dv 84 (.iadr (some 5) 320 (.t 8) (.t 72)) [8,72],Dv 85 (.iadr (some 5) 64 (.t 84) (.t 73)) [84,73],Dv 86 (.iadr (some 64) 1 (.t 85) (.t 74)) [85,74],Dn (.st 1 (.t 86) (.t 83)) [86,83]]))) (.reg [Mv 53 11,Bi 54 .add 53 1,Mv 11 54]))
def zmG:AC:=.seq (.seq (.reg [Mv 47 10,Bi 48 .lss 47 5]) (.cond (.t 48) (.skip) (.exit 8))) (.seq (.blk 9 (.seq (.reg [iv 11 (.mv (.k (.int .i64 0)))]) (.blk 10 (.loop zmF)))) (.reg [Mv 49 10,Bi 50 .add 49 1,Mv 10 50]))
def zmI:AC:=.seq (.seq (.reg [Mv 43 9,Bi 44 .lss 43 5]) (.cond (.t 44) (.skip) (.exit 6))) (.seq (.blk 7 (.seq (.reg [iv 10 (.mv (.k (.int .i64 0)))]) (.blk 8 (.loop zmG)))) (.reg [Mv 45 9,Bi 46 .add 45 1,Mv 9 46]))
def znJ:AC:=.seq (.reg [iv 1 (.boxv (.t 0)),ic 2 (.alloc (zaR (.bool false) 1600))]) (.seq (.reg [iv 13 (.build (zaR (.bool false) 320) []),ic 3 (.alloc (zaR (.bool false) 320)),jc (.st 320 (.t 3) (.t 13))]) (.seq (.seq (.reg [iv 4 (.mv (.k (.int .i64 0)))]) (.blk 0 (.loop zmE))) (.seq (.reg [iv 42 (.build (zaR (.bool false) 1600) []),ic 8 (.alloc (zaR (.bool false) 1600)),jc (.st 1600 (.t 8) (.t 42))]) (.seq (.seq (.reg [iv 9 (.mv (.k (.int .i64 0)))]) (.blk 6 (.loop zmI))) (.seq (.reg [ir 87 (.ld 1600 true (.t 8)),jc (.st 1600 (.t 2) (.t 87))]) (.ret))))))
def zhU:AFn:=⟨88,znJ,[.cell 2 1600 true],none⟩
def zka:AC:=.seq (.seq (.reg [Mv 14 5,Bi 15 .lss 14 7]) (.cond (.t 15) (.skip) (.exit 0))) (.seq (.blk 1 (.seq (.reg [Mv 18 4,Bi 19 .sub 18 1,Mv 20 5,Mv 21 0,iv 22 (.bin .mul (.k (.int .i64 7)) (.t 21)),Bt 23 .add 20 22,ir 24 (.call zks [.t 23]),iv 25 (.iadr (some 64) 1 (.t 3) (.t 19)),Sx 25 24]) (.reg [Mv 26 4,Bi 27 .mul 26 2,Mv 4 27]))) (.reg [Mv 16 5,Bi 17 .add 16 1,Mv 5 17]))
def zk0:AC:=.seq (.reg [ic 2 (.alloc (zaR (.bool false) 64))]) (.seq (.reg [iv 6 (.build (zaR (.bool false) 64) []),ic 3 (.alloc (zaR (.bool false) 64)),jc (.st 64 (.t 3) (.t 6))]) (.seq (.seq (.reg [Mv 7 0,Bi 8 .lss 7 0,Mv 9 8,Gv 10 (.mv (.t 0)) 9 false [],Gv 11 (.bin .gtr (.t 10) (.k (.int .i64 23))) 9 false [],iv 12 (.pick (.t 9) (.k (.bool true)) (.t 11))]) (.cond (.t 12) (.seq (.reg [ir 13 (.ld 64 true (.t 3)),jc (.st 64 (.t 2) (.t 13))]) (.ret)) (.skip))) (.seq (.reg [iv 4 (.mv (.k (.int .i64 1)))]) (.seq (.seq (.reg [iv 5 (.mv (.k (.int .i64 0)))]) (.blk 0 (.loop zka))) (.seq (.reg [ir 28 (.ld 64 true (.t 3)),jc (.st 64 (.t 2) (.t 28))]) (.ret))))))
def zfM:AFn:=⟨29,zk0,[.cell 2 64 true],none⟩
def zcc:AC:=.seq (.reg [Bt 9 .lss 8 7]) (.seq (.cond (.t 9) (.skip) (.exit 0)) (.seq (.blk 1 (.seq (.reg [Mv 10 8,Mv 5 10]) (.seq (.reg [Mv 11 1,Mv 12 0,Mv 13 5,Ia 14 12 13,Ld 15 14,Bt 16 .eql 11 15]) (.cond (.t 16) (.seq (.reg [Mv 17 5,Mv 4 17]) (.ret)) (.skip))))) (.reg [Bi 18 .add 8 1,Mv 8 18])))
def zdE:AC:=.seq (.reg [iv 4 (.mv (.k (.int .i64 0)))]) (.seq (.seq (.reg [Mv 6 0,iv 7 (.lenL (.t 6)),iv 8 (.mv (.k (.int .i64 0)))]) (.blk 0 (.loop zcc))) (.seq (.reg [iv 4 (.mv (.k (.int .i64 (-1))))]) (.ret)))
def zgy:AFn:=⟨19,zdE,[.tmp 4],none⟩
def zaB:AC:=.seq (.reg [Bi 10 .lss 9 25]) (.seq (.cond (.t 10) (.skip) (.exit 0)) (.seq (.blk 1 (.seq (.reg [Mv 11 9,iv 12 (.idxA 25 1 false (.t 8) (.t 9)),Mv 4 11,Mv 5 12]) (.reg [Mv 13 4,Bi 14 .rem 13 5,iv 15 (.iadr (some 5) 1 (.t 3) (.t 14)),Ld 16 15,Mv 17 5,Bt 18 .xor 16 17,iv 19 (.iadr (some 5) 1 (.t 3) (.t 14)),Sx 19 18]))) (.reg [Bi 20 .add 9 1,Mv 9 20])))
def zbe:AC:=.seq (.reg [Bi 22 .lss 21 25]) (.seq (.cond (.t 22) (.skip) (.exit 2)) (.seq (.blk 3 (.seq (.reg [Mv 23 21,Mv 6 23]) (.seq (.reg [Mv 24 6,Bi 25 .rem 24 5,Mv 7 25]) (.draw [Dm 26 6,Dv 27 (.iadr (some 25) 1 (.t 1) (.t 26)) [1,26],Dr 28 (.ld 1 false (.t 27)) [27] 0 0,Dm 29 7,Dv 30 (.bin .add (.t 29) (.k (.int .i64 4))) [29],Dv 31 (.bin .rem (.t 30) (.k (.int .i64 5))) [30],Dv 32 (.iadr (some 5) 1 (.t 3) (.t 31)) [3,31],Dr 33 (.ld 1 false (.t 32)) [32] 0 0,Dm 34 7,Dv 35 (.bin .add (.t 34) (.k (.int .i64 1))) [34],Dv 36 (.bin .rem (.t 35) (.k (.int .i64 5))) [35],Dv 37 (.iadr (some 5) 1 (.t 3) (.t 36)) [3,36],Dr 38 (.ld 1 false (.t 37)) [37] 0 0,Dr 39 (.call zbd [.t 38,.k (.int .i64 1)]) [38] 0 0,Dv 40 (.bin .xor (.t 33) (.t 39)) [33,39],Dv 41 (.bin .xor (.t 28) (.t 40)) [28,40],Dv 42 (.iadr (some 25) 1 (.t 1) (.t 26)) [1,26],Dn (.st 1 (.t 42) (.t 41)) [42,41]])))) (.reg [Bi 43 .add 21 1,Mv 21 43])))
def zef:AC:=.seq (.reg [ic 1 (.box (.t 0)),ic 2 (.alloc (zaR (.int .u64 0) 25))]) (.seq (.reg [ic 3 (.alloc (zaR (.int .u64 0) 5))]) (.seq (.seq (.reg [ir 8 (.ld 25 true (.t 1)),iv 9 (.mv (.k (.int .i64 0)))]) (.blk 0 (.loop zaB))) (.seq (.seq (.reg [iv 21 (.mv (.k (.int .i64 0)))]) (.blk 2 (.loop zbe))) (.seq (.reg [ir 44 (.ld 25 true (.t 1)),jc (.st 25 (.t 2) (.t 44))]) (.ret)))))
def zg5:AFn:=⟨45,zef,[.cell 2 25 true],none⟩
def zbf:AC:=.seq (.reg [Bi 12 .lss 11 24]) (.seq (.cond (.t 12) (.skip) (.exit 0)) (.seq (.blk 1 (.seq (.reg [Mv 13 11,Mv 6 13]) (.seq (.reg [Mv 14 4,iv 15 (.bin .mul (.k (.int .i64 2)) (.t 14)),Mv 16 5,iv 17 (.bin .mul (.k (.int .i64 3)) (.t 16)),Bt 18 .add 15 17,Bi 19 .rem 18 5,Mv 7 19]) (.seq (.reg [Mv 20 5,Mv 21 7,iv 22 (.bin .mul (.k (.int .i64 5)) (.t 21)),Bt 23 .add 20 22,Mv 24 4,Mv 25 5,iv 26 (.bin .mul (.k (.int .i64 5)) (.t 25)),Bt 27 .add 24 26,iv 28 (.iadr (some 25) 1 (.t 1) (.t 27)),Ld 29 28,Mv 30 6,Bi 31 .add 30 1,Mv 32 6,Bi 33 .add 32 2,Bt 34 .mul 31 33,Bi 35 .quo 34 2,ir 36 (.call zbd [.t 29,.t 35]),iv 37 (.iadr (some 25) 1 (.t 3) (.t 23)),Sx 37 36]) (.reg [Mv 38 5,Mv 39 7,Mv 4 38,Mv 5 39]))))) (.reg [Bi 40 .add 11 1,Mv 11 40])))
def zeg:AC:=.seq (.reg [iv 1 (.boxv (.t 0)),ic 2 (.alloc (zaR (.int .u64 0) 25))]) (.seq (.reg [iv 8 (.iadr (some 25) 1 (.t 1) (.k (.int .i64 0))),Ld 9 8,iv 10 (.build (zaR (.int .u64 0) 25) [(0,1,.t 9)]),ic 3 (.alloc (zaR (.int .u64 0) 25)),jc (.st 25 (.t 3) (.t 10))]) (.seq (.reg [iv 4 (.mv (.k (.int .i64 1))),iv 5 (.mv (.k (.int .i64 0)))]) (.seq (.seq (.reg [iv 11 (.mv (.k (.int .i64 0)))]) (.blk 0 (.loop zbf))) (.seq (.reg [ir 41 (.ld 25 true (.t 3)),jc (.st 25 (.t 2) (.t 41))]) (.ret)))))
def zg6:AFn:=⟨42,zeg,[.cell 2 25 true],none⟩
def zbu:AC:=.seq (.reg [Bi 8 .lss 7 25]) (.seq (.cond (.t 8) (.skip) (.exit 0)) (.seq (.blk 1 (.seq (.reg [Mv 9 7,Mv 4 9]) (.seq (.reg [Mv 10 4,Mv 11 4,Bi 12 .rem 11 5,Bt 13 .sub 10 12,Mv 5 13]) (.draw [Dm 14 4,Dv 15 (.iadr (some 25) 1 (.t 3) (.t 14)) [3,14],Dr 16 (.ld 1 false (.t 15)) [15] 0 0,Dm 17 5,Dm 18 4,Dv 19 (.bin .add (.t 18) (.k (.int .i64 2))) [18],Dv 20 (.bin .rem (.t 19) (.k (.int .i64 5))) [19],Dv 21 (.bin .add (.t 17) (.t 20)) [17,20],Dv 22 (.iadr (some 25) 1 (.t 1) (.t 21)) [1,21],Dr 23 (.ld 1 false (.t 22)) [22] 0 0,Dm 24 5,Dm 25 4,Dv 26 (.bin .add (.t 25) (.k (.int .i64 1))) [25],Dv 27 (.bin .rem (.t 26) (.k (.int .i64 5))) [26],Dv 28 (.bin .add (.t 24) (.t 27)) [24,27],Dv 29 (.iadr (some 25) 1 (.t 1) (.t 28)) [1,28],Dr 30 (.ld 1 false (.t 29)) [29] 0 0,Dv 31 (.bin .andNot (.t 23) (.t 30)) [23,30],Dv 32 (.bin .xor (.t 16) (.t 31)) [16,31],Dv 33 (.iadr (some 25) 1 (.t 3) (.t 14)) [3,14],Dn (.st 1 (.t 33) (.t 32)) [33,32]])))) (.reg [Bi 34 .add 7 1,Mv 7 34])))
def zfu:AC:=.seq (.reg [iv 1 (.boxv (.t 0)),ic 2 (.alloc (zaR (.int .u64 0) 25))]) (.seq (.reg [ir 6 (.ld 25 true (.t 1)),ic 3 (.alloc (zaR (.int .u64 0) 25)),jc (.st 25 (.t 3) (.t 6))]) (.seq (.seq (.reg [iv 7 (.mv (.k (.int .i64 0)))]) (.blk 0 (.loop zbu))) (.seq (.reg [ir 35 (.ld 25 true (.t 3)),jc (.st 25 (.t 2) (.t 35))]) (.ret))))
def ziv:AFn:=⟨36,zfu,[.cell 2 25 true],none⟩
def zf2:AC:=.seq (.reg [iv 2 (.mv (.k (.int .u64 0)))]) (.seq (.seq (.reg [Mv 3 0,Bi 4 .lss 3 0,Mv 5 4,Gv 6 (.mv (.t 0)) 5 false [],Gv 7 (.bin .geq (.t 6) (.k (.int .i64 24))) 5 false [],iv 8 (.pick (.t 5) (.k (.bool true)) (.t 7))]) (.cond (.t 8) (.seq (.reg [iv 2 (.mv (.k (.int .u64 0)))]) (.ret)) (.skip))) (.seq (.reg [Mv 9 0,iv 10 (.iadr (some 24) 1 (.g 3) (.t 9)),Ld 11 10,Mv 2 11]) (.ret)))
def zjq:AFn:=⟨12,zf2,[.tmp 2],none⟩
def zb7:AC:=.seq (.reg [iv 6 (.mv (.k (.nsl)))]) (.seq (.seq (.reg [Mv 9 2,iv 10 (.bin .eql (.t 9) (.k (.int .u64 0))),Mv 11 10,Gv 12 (.mv (.t 1)) 11 true [],Gv 13 (.mv (.t 0)) 11 true [],Gv 14 (.nck (.t 13)) 11 true [],Gv 15 (.fadr 0 (.t 14)) 11 true [],Gr 16 (.ld 1 false (.t 15)) 11 true [] 0 0,Gr 17 (.call zjd [.t 12,.t 16]) 11 true [] 0 0,Gv 18 (.bin .lss (.t 17) (.k (.int .i64 0))) 11 true [],iv 19 (.pick (.t 11) (.t 18) (.k (.bool false)))]) (.cond (.t 19) (.seq (.reg [Mv 20 1,Mv 6 20]) (.ret)) (.skip))) (.seq (.reg [Mv 22 1,Mv 23 0,Nk 24 23,Fa 25 0 24,Ld 26 25,ir 27 (.call zmc [.t 22,.t 26]),Mv 21 27,Ex 28 21 0,Ex 29 21 1,Mv 7 28,Mv 8 29]) (.seq (.reg [Mv 30 7,Mv 6 30]) (.ret))))
def zhV:AFn:=⟨31,zb7,[.tmp 6],none⟩
def znK:AC:=.seq (.reg [iv 1 (.boxv (.t 0)),iv 2 (.mv (.k (.nilp)))]) (.seq (.reg [iv 6 (.slice (.arr 12) 1 (.t 1) none none none),ir 7 (.call ziX [.t 6]),Mv 5 7,Ex 8 5 0,Ex 9 5 1,Mv 3 8,Mv 4 9]) (.seq (.reg [Mv 10 3,iv 11 (.build [.nilp] [(0,1,.t 10)]),iv 12 (.boxv (.t 11)),Mv 2 12]) (.ret)))
def zsf:AFn:=⟨13,znK,[.tmp 2],none⟩
def zlC:AC:=.seq (.reg [ic 0 (.alloc (zaR (.int .u64 0) 12))]) (.seq (.reg [iv 1 (.build (zaR (.int .u64 0) 12) [(0,1,.k (.int .u64 18446744073709551615)),(1,1,.k (.int .u64 17603518614768072224)),(2,1,.k (.int .u64 16466767132611215046)),(3,1,.k (.int .u64 5755940542857986629)),(4,1,.k (.int .u64 3470879405153129527)),(5,1,.k (.int .u64 17263733006627652379)),(6,1,.k (.int .u64 5857503583518590173)),(7,1,.k (.int .u64 147421033984662306)),(8,1,.k (.int .u64 2955010104097229940)),(9,1,.k (.int .u64 14179128828124470481)),(10,1,.k (.int .u64 14488038916154245684)),(11,1,.k (.int .u64 18446744073709551615))]),jc (.st 12 (.t 0) (.t 1))]) (.ret))
def zqi:AFn:=⟨2,zlC,[.cell 0 12 true],none⟩
def zf3:AC:=.seq (.seq (.reg [Mv 13 5,Bi 14 .geq 13 0]) (.cond (.t 14) (.skip) (.exit 0))) (.seq (.blk 1 (.seq (.reg [Mv 17 0,Mv 18 5,ir 19 (.call zhL [.t 17,.t 18]),Mv 20 1,Mv 21 5,ir 22 (.call zhL [.t 20,.t 21]),ir 23 (.call zc3 [.t 19,.t 22]),Mv 6 23]) (.seq (.reg [Mv 24 6,Bi 25 .neq 24 0]) (.cond (.t 25) (.seq (.reg [Mv 26 6,Mv 4 26]) (.ret)) (.skip))))) (.reg [Mv 15 5,Bi 16 .sub 15 1,Mv 5 16]))
def zpR:AC:=.seq (.reg [iv 4 (.mv (.k (.int .i64 0)))]) (.seq (.seq (.reg [Mv 7 0,iv 8 (.lenL (.t 7)),Mv 9 1,iv 10 (.lenL (.t 9)),iv 11 (.mxmn true [.t 8,.t 10]),Bi 12 .sub 11 1,Mv 5 12]) (.blk 0 (.loop zf3))) (.seq (.reg [iv 4 (.mv (.k (.int .i64 0)))]) (.ret)))
def zt3:AFn:=⟨27,zpR,[.tmp 4],none⟩
def zeh:AC:=.seq (.reg [iv 2 (.mv (.k (.nsl)))]) (.seq (.reg [Mv 3 0,Nk 4 3,Fa 5 0 4,Ld 6 5,ir 7 (.call zaN [.t 6]),Mv 2 7]) (.ret))
def zg7:AFn:=⟨8,zeh,[.tmp 2],none⟩
def zsg:AC:=.seq (.reg [iv 4 (.boxv (.t 1)),iv 5 (.boxv (.t 2)),ic 6 (.alloc (zaR (.int .u64 0) 12))]) (.seq (.draw [Dm 7 0,Dv 8 (.slice (.arr 12) 1 (.t 4) none none none) [4],Dv 9 (.slice (.arr 12) 1 (.t 5) none none none) [5],Dc 10 (.callv (.t 7) [.t 8,.t 9]) [7,8,9],Dv 11 (.s2a 12 (.t 10)) [10],Dr 12 (.ld 12 true (.t 11)) [11] 1 1,Dn (.st 12 (.t 6) (.t 12)) [6,12]]) (.ret))
def zwK:AFn:=⟨13,zsg,[.cell 6 12 true],none⟩
def zba:AC:=.seq (.seq (.reg [Mv 38 10,Bi 39 .geq 38 0]) (.cond (.t 39) (.skip) (.exit 0))) (.seq (.blk 1 (.seq (.reg [Mv 42 0,Mv 43 9,Mv 44 9,ir 45 (.call zaG [.t 42,.t 43,.t 44]),Mv 9 45]) (.seq (.reg [Mv 46 2,Mv 47 10,Bi 48 .quo 47 64,Ia 49 46 48,Ld 50 49,Mv 51 10,Bi 52 .rem 51 64,Bt 53 .shr 50 52,iv 54 (.bin .and (.t 53) (.k (.int .u64 1))),iv 55 (.bin .eql (.t 54) (.k (.int .u64 1)))]) (.cond (.t 55) (.reg [Mv 56 0,Mv 57 9,Mv 58 8,ir 59 (.call zaG [.t 56,.t 57,.t 58]),Mv 9 59]) (.skip))))) (.reg [Mv 40 10,Bi 41 .sub 40 1,Mv 10 41]))
def zfv:AC:=.seq (.reg [iv 6 (.mv (.k (.nsl)))]) (.seq (.reg [Mv 11 0,Nk 12 11,Fa 13 0 12,Ld 14 13,iv 15 (.lenL (.t 14)),ic 16 (.mk 1 [.int .u64 0] (.t 15)),Mv 7 16]) (.seq (.reg [Mv 17 7,iv 18 (.iadr none 1 (.t 17) (.k (.int .i64 0))),jc (.st 1 (.t 18) (.k (.int .u64 1)))]) (.seq (.draw [Dm 19 0,Dm 20 0,Dm 21 1,Dr 22 (.call zby [.t 20,.t 21]) [20,21] 0 0,Dm 23 0,Dv 24 (.nck (.t 23)) [23],Dv 25 (.fadr 2 (.t 24)) [24],Dr 26 (.ld 1 false (.t 25)) [25] 0 0,Dr 27 (.call zaG [.t 19,.t 22,.t 26]) [19,22,26] 0 0,Dm 28 0,Dm 29 7,Dm 30 0,Dv 31 (.nck (.t 30)) [30],Dv 32 (.fadr 2 (.t 31)) [31],Dr 33 (.ld 1 false (.t 32)) [32] 0 0,Dr 34 (.call zaG [.t 28,.t 29,.t 33]) [28,29,33] 0 0,Dm 8 27,Dm 9 34]) (.seq (.seq (.reg [Mv 35 2,ir 36 (.call zfQ [.t 35]),Bi 37 .sub 36 1,Mv 10 37]) (.blk 0 (.loop zba))) (.seq (.reg [Mv 60 0,Mv 61 9,Mv 62 7,ir 63 (.call zaG [.t 60,.t 61,.t 62]),Mv 6 63]) (.ret))))))
def ziw:AFn:=⟨64,zfv,[.tmp 6],none⟩
def zpS:AC:=.seq (.reg [Bt 21 .lss 20 19]) (.seq (.cond (.t 21) (.skip) (.exit 2)) (.seq (.blk 3 (.seq (.reg [Ia 22 18 20,Ld 23 22,Mv 6 23]) (.seq (.reg [Mv 24 3,Mv 25 6,Bt 26 .quo 24 25,Bi 27 .rem 26 2,Bi 28 .eql 27 1]) (.cond (.t 28) (.reg [Mv 29 3,Mv 30 6,Bt 31 .sub 29 30,Mv 3 31]) (.reg [Mv 32 3,Mv 33 6,Bt 34 .add 32 33,Mv 3 34]))))) (.reg [Bi 35 .add 20 1,Mv 20 35])))
def zpT:AC:=.seq (.seq (.reg [Mv 7 4,Mv 8 0,Bt 9 .lss 7 8]) (.cond (.t 9) (.skip) (.exit 0))) (.seq (.blk 1 (.seq (.reg [Mv 12 3,Bi 13 .mul 12 2,Mv 3 13]) (.seq (.reg [Mv 14 3,Bi 15 .geq 14 256]) (.cond (.t 15) (.seq (.reg [Mv 16 3,Bi 17 .sub 16 256,Mv 3 17]) (.seq (.reg [iv 18 (.slit 1 4 [.int .i64 0] [(0,.k (.int .i64 64)),(1,.k (.int .i64 32)),(2,.k (.int .i64 16)),(3,.k (.int .i64 1))]),iv 19 (.lenL (.t 18)),iv 20 (.mv (.k (.int .i64 0)))]) (.blk 2 (.loop zpS)))) (.skip))))) (.reg [Mv 10 4,Bi 11 .add 10 1,Mv 4 11]))
def zqN:AC:=.seq (.reg [iv 2 (.mv (.k (.bool false)))]) (.seq (.reg [iv 3 (.mv (.k (.int .i64 1)))]) (.seq (.seq (.reg [iv 4 (.mv (.k (.int .i64 0)))]) (.blk 0 (.loop zpT))) (.seq (.reg [Mv 36 3,Bi 37 .rem 36 2,Bi 38 .eql 37 1,Mv 2 38]) (.ret))))
def zkw:AFn:=⟨39,zqN,[.tmp 2],none⟩
def zcP:AC:=.seq (.reg [iv 4 (.mv (.k (.int .u64 0)))]) (.seq (.reg [Mv 6 1,iv 7 (.i2i .u64 (.t 6)),iv 8 (.bin .and (.t 7) (.k (.int .u64 63))),Mv 5 8]) (.seq (.reg [Mv 9 0,Mv 10 5,Bt 11 .shl 9 10,Mv 12 0,Mv 13 5,iv 14 (.bin .sub (.k (.int .u64 64)) (.t 13)),Bt 15 .shr 12 14,Bt 16 .or 11 15,Mv 4 16]) (.ret)))
def ze4:AFn:=⟨17,zcP,[.tmp 4],none⟩
def zpU:AC:=.seq (.reg [iv 4 (.mv (.k (.nsl))),iv 5 (.mv (.k (.int .u64 0)))]) (.seq (.reg [Mv 6 0,Mv 7 1,ir 8 (.call zjY [.t 6,.t 7,.k (.fn (.func zbX) [] [])]),Ex 9 8 0,Ex 10 8 1,Mv 4 9,Mv 5 10]) (.ret))
def zt6:AFn:=⟨11,zpU,[.tmp 4,.tmp 5],none⟩
def zb8:AC:=.seq (.reg [iv 4 (.mv (.k (.int .i64 0)))]) (.seq (.reg [Mv 7 0,ir 8 (.call zcO [.t 7]),Mv 5 8]) (.seq (.reg [Mv 9 1,ir 10 (.call zcO [.t 9]),Mv 6 10]) (.seq (.seq (.reg [Mv 11 5]) (.cond (.t 11) (.seq (.seq (.reg [Mv 12 6]) (.cond (.t 12) (.seq (.reg [iv 4 (.mv (.k (.int .i64 0)))]) (.ret)) (.skip))) (.seq (.reg [iv 4 (.mv (.k (.int .i64 (-1))))]) (.ret))) (.skip))) (.seq (.seq (.reg [Mv 13 6]) (.cond (.t 13) (.seq (.reg [iv 4 (.mv (.k (.int .i64 1)))]) (.ret)) (.skip))) (.seq (.seq (.reg [Mv 14 0,Mv 15 1,Bt 16 .lss 14 15]) (.cond (.t 16) (.seq (.reg [iv 4 (.mv (.k (.int .i64 (-1))))]) (.ret)) (.skip))) (.seq (.seq (.reg [Mv 17 0,Mv 18 1,Bt 19 .gtr 17 18]) (.cond (.t 19) (.seq (.reg [iv 4 (.mv (.k (.int .i64 1)))]) (.ret)) (.skip))) (.seq (.reg [iv 4 (.mv (.k (.int .i64 0)))]) (.ret))))))))
def zhW:AFn:=⟨20,zb8,[.tmp 4],none⟩
def zoO:AC:=.seq (.reg [iv 4 (.mv (.k (.int .u64 0)))]) (.seq (.seq (.reg [Mv 5 1,Mv 6 0,iv 7 (.lenL (.t 6)),Bt 8 .lss 5 7]) (.cond (.t 8) (.seq (.reg [Mv 9 0,Mv 10 1,Ia 11 9 10,Ld 12 11,Mv 4 12]) (.ret)) (.skip))) (.seq (.reg [iv 4 (.mv (.k (.int .u64 0)))]) (.ret)))
def zwR:AFn:=⟨13,zoO,[.tmp 4],none⟩
def zao:AC:=.seq (.reg [Bt 34 .lss 33 32]) (.seq (.cond (.t 34) (.skip) (.exit 2)) (.seq (.blk 3 (.seq (.reg [Mv 35 33,Ia 36 31 33,Ld 37 36,Mv 13 35,Mv 14 37]) (.reg [Mv 39 8,Mv 40 13,Mv 41 8,Mv 42 13,Ia 43 41 42,Ld 44 43,Mv 45 10,Mv 46 14,Mv 47 11,ir 48 (.call zfX [.t 44,.t 45,.t 46,.t 47]),Mv 38 48,Ex 49 38 0,Ex 50 38 1,Ia 51 39 40,Sx 51 49,Mv 11 50]))) (.reg [Bi 52 .add 33 1,Mv 33 52])))
def zaE:AC:=.seq (.seq (.reg [Mv 92 16,Mv 93 7,Bt 94 .lss 92 93]) (.cond (.t 94) (.skip) (.exit 4))) (.seq (.blk 5 (.draw [Dm 98 8,Dm 99 16,Dv 100 (.bin .sub (.t 99) (.k (.int .i64 1))) [99],Dm 101 8,Dm 102 16,Dv 103 (.iadr none 1 (.t 101) (.t 102)) [101,102],Dr 104 (.ld 1 false (.t 103)) [103] 0 0,Dm 105 15,Dm 106 0,Dv 107 (.nck (.t 106)) [106],Dv 108 (.fadr 0 (.t 107)) [107],Dr 109 (.ld 1 false (.t 108)) [108] 0 0,Dm 110 16,Dv 111 (.iadr none 1 (.t 109) (.t 110)) [109,110],Dr 112 (.ld 1 false (.t 111)) [111] 0 0,Dm 113 11,Dr 114 (.call zfX [.t 104,.t 105,.t 112,.t 113]) [104,105,112,113] 0 0,Dm 97 114,Dv 115 (.ext (.t 97) 0) [97],Dv 116 (.ext (.t 97) 1) [97],Dv 117 (.iadr none 1 (.t 98) (.t 100)) [98,100],Dn (.st 1 (.t 117) (.t 115)) [117,115],Dm 11 116])) (.reg [Mv 95 16,Bi 96 .add 95 1,Mv 16 96]))
def zax:AC:=.seq (.reg [Bt 28 .lss 27 26]) (.seq (.cond (.t 28) (.skip) (.exit 0)) (.seq (.blk 1 (.seq (.reg [Ia 29 25 27,Ld 30 29,Mv 10 30]) (.seq (.reg [iv 11 (.mv (.k (.int .u64 0))),iv 12 (.mv (.k (.int .u64 0)))]) (.seq (.seq (.reg [Mv 31 2,iv 32 (.lenL (.t 31)),iv 33 (.mv (.k (.int .i64 0)))]) (.blk 2 (.loop zao))) (.seq (.reg [Mv 54 8,Mv 55 7,Mv 56 8,Mv 57 7,Ia 58 56 57,Ld 59 58,Mv 60 11,ic 61 (.call zaH [.t 59,.t 60,.k (.int .u64 0)]),Mv 53 61,Ex 62 53 0,Ex 63 53 1,Ia 64 54 55,Sx 64 62,Mv 12 63]) (.seq (.reg [Mv 65 8,Mv 66 7,Bi 67 .add 66 1,Mv 68 12,Ia 69 65 67,Sx 69 68]) (.seq (.draw [Dm 70 8,Dv 71 (.iadr none 1 (.t 70) (.k (.int .i64 0))) [70],Dr 72 (.ld 1 false (.t 71)) [71] 0 0,Dm 73 0,Dv 74 (.nck (.t 73)) [73],Dv 75 (.fadr 1 (.t 74)) [74],Dr 76 (.ld 1 false (.t 75)) [75] 0 0,Dv 77 (.bin .mul (.t 72) (.t 76)) [72,76],Dm 15 77]) (.seq (.draw [Dm 79 8,Dv 80 (.iadr none 1 (.t 79) (.k (.int .i64 0))) [79],Dr 81 (.ld 1 false (.t 80)) [80] 0 0,Dm 82 15,Dm 83 0,Dv 84 (.nck (.t 83)) [83],Dv 85 (.fadr 0 (.t 84)) [84],Dr 86 (.ld 1 false (.t 85)) [85] 0 0,Dv 87 (.iadr none 1 (.t 86) (.k (.int .i64 0))) [86],Dr 88 (.ld 1 false (.t 87)) [87] 0 0,Dr 89 (.call zfX [.t 81,.t 82,.t 88,.k (.int .u64 0)]) [81,82,88] 0 0,Dm 78 89,Dv 90 (.ext (.t 78) 0) [78],Dv 91 (.ext (.t 78) 1) [78],Dm 11 91]) (.seq (.seq (.reg [iv 16 (.mv (.k (.int .i64 1)))]) (.blk 4 (.loop zaE))) (.seq (.reg [Mv 119 8,Mv 120 7,Bi 121 .sub 120 1,Mv 122 8,Mv 123 7,Ia 124 122 123,Ld 125 124,Mv 126 11,ic 127 (.call zaH [.t 125,.t 126,.k (.int .u64 0)]),Mv 118 127,Ex 128 118 0,Ex 129 118 1,Ia 130 119 121,Sx 130 128,Mv 12 129]) (.reg [Mv 131 8,Mv 132 7,Mv 133 8,Mv 134 7,Bi 135 .add 134 1,Ia 136 133 135,Ld 137 136,Mv 138 12,Bt 139 .add 137 138,Ia 140 131 132,Sx 140 139]))))))))))) (.reg [Bi 141 .add 27 1,Mv 27 141])))
def zdG:AC:=.seq (.reg [iv 6 (.mv (.k (.nsl)))]) (.seq (.reg [Mv 17 0,Nk 18 17,Fa 19 0 18,Ld 20 19,iv 21 (.lenL (.t 20)),Mv 7 21]) (.seq (.reg [Mv 22 7,Bi 23 .add 22 2,ic 24 (.mk 1 [.int .u64 0] (.t 23)),Mv 8 24]) (.seq (.seq (.reg [Mv 25 1,iv 26 (.lenL (.t 25)),iv 27 (.mv (.k (.int .i64 0)))]) (.blk 0 (.loop zax))) (.seq (.draw [Dm 142 0,Dm 143 8,Dm 144 7,Dv 145 (.slice .slc 1 (.t 143) none (some (.t 144)) none) [143,144],Dm 146 8,Dm 147 7,Dv 148 (.iadr none 1 (.t 146) (.t 147)) [146,147],Dr 149 (.ld 1 false (.t 148)) [148] 0 0,Dr 150 (.call zbt [.t 142,.t 145,.t 149]) [142,145,149] 0 0,Dm 6 150]) (.ret)))))
def zgz:AFn:=⟨151,zdG,[.tmp 6],none⟩
def ze5:AC:=.seq (.reg [Bt 20 .lss 19 18]) (.seq (.cond (.t 20) (.skip) (.exit 0)) (.seq (.blk 1 (.seq (.reg [Mv 21 19,Mv 10 21]) (.reg [Mv 23 8,Mv 24 10,Mv 25 2,Mv 26 0,Mv 27 10,ir 28 (.call zhL [.t 26,.t 27]),Mv 29 1,Mv 30 10,ir 31 (.call zhL [.t 29,.t 30]),Mv 32 9,ic 33 (.callv (.t 25) [.t 28,.t 31,.t 32]),Mv 22 33,Ex 34 22 0,Ex 35 22 1,Ia 36 23 24,Sx 36 34,Mv 9 35]))) (.reg [Bi 37 .add 19 1,Mv 19 37])))
def zm5:AC:=.seq (.reg [iv 6 (.mv (.k (.nsl))),iv 7 (.mv (.k (.int .u64 0)))]) (.seq (.reg [Mv 11 0,iv 12 (.lenL (.t 11)),Mv 13 1,iv 14 (.lenL (.t 13)),iv 15 (.mxmn true [.t 12,.t 14]),ic 16 (.mk 1 [.int .u64 0] (.t 15)),Mv 8 16]) (.seq (.reg [iv 9 (.mv (.k (.int .u64 0)))]) (.seq (.seq (.reg [Mv 17 8,iv 18 (.lenL (.t 17)),iv 19 (.mv (.k (.int .i64 0)))]) (.blk 0 (.loop ze5))) (.seq (.reg [Mv 38 8,Mv 39 9,Mv 6 38,Mv 7 39]) (.ret)))))
def zrm:AFn:=⟨40,zm5,[.tmp 6,.tmp 7],none⟩
def zfP:AC:=.seq (.reg [iv 2 (.mv (.k (.bool false)))]) (.seq (.reg [Mv 3 0,Mv 4 0,Bt 5 .neq 3 4,Mv 2 5]) (.ret))
def ziV:AFn:=⟨6,zfP,[.tmp 2],none⟩
def zm6:AC:=.seq (.reg [iv 8 (.mv (.k (.int .u64 0))),iv 9 (.mv (.k (.int .u64 0)))]) (.seq (.reg [Mv 14 1,Mv 15 2,ir 16 (.call zcL [.t 14,.t 15]),Mv 13 16,Ex 17 13 0,Ex 18 13 1,Mv 10 17,Mv 11 18]) (.seq (.reg [Mv 20 11,Mv 21 0,ic 22 (.call zaH [.t 20,.t 21,.k (.int .u64 0)]),Mv 19 22,Ex 23 19 0,Ex 24 19 1,Mv 11 23,Mv 12 24]) (.seq (.reg [Mv 25 10,Mv 26 12,Bt 27 .add 25 26,Mv 10 27]) (.seq (.reg [Mv 29 11,Mv 30 3,ic 31 (.call zaH [.t 29,.t 30,.k (.int .u64 0)]),Mv 28 31,Ex 32 28 0,Ex 33 28 1,Mv 11 32,Mv 12 33]) (.seq (.reg [Mv 34 11,Mv 35 10,Mv 36 12,Bt 37 .add 35 36,Mv 8 34,Mv 9 37]) (.ret))))))
def zro:AFn:=⟨38,zm6,[.tmp 8,.tmp 9],none⟩
def zb0:AC:=.seq (.reg [Mv 2 0,ic 3 (.call zaF [.t 2])]) (.seq (.draw [Dm 4 0,Dv 5 (.nck (.t 4)) [4],Dv 6 (.fadr 1 (.t 5)) [5],Dr 7 (.ld 1 false (.t 6)) [6] 0 0,Dm 8 0,Dv 9 (.nck (.t 8)) [8],Dv 10 (.fadr 0 (.t 9)) [9],Dr 11 (.ld 1 false (.t 10)) [10] 0 0,Dr 12 (.inv (.t 11) "Rate" []) [11] 0 0,Dv 13 (.slice .slc 1 (.t 7) none (some (.t 12)) none) [7,12],Dn (.clear [.int .u8 0] (.t 13)) [13]]) (.reg [Mv 14 0,Mv 15 0,Nk 16 15,Fa 17 0 16,Ld 18 17,ir 19 (.inv (.t 18) "Rate" []),Nk 20 14,Fa 21 3 20,Sx 21 19]))
def zds:AFn:=⟨22,zb0,[],none⟩
def zb1:AC:=.seq (.draw [Dm 2 0,Dv 3 (.nck (.t 2)) [2],Dv 4 (.fadr 0 (.t 3)) [3],Dr 5 (.ld 1 false (.t 4)) [4] 0 0,Dm 6 0,Dv 7 (.nck (.t 6)) [6],Dv 8 (.fadr 1 (.t 7)) [7],Dr 9 (.ld 1 false (.t 8)) [8] 0 0,Dv 10 (.nck (.t 5)) [5],Dm 11 5,Dc 12 (.inv (.t 11) "Permute" [.t 9]) [11,9]]) (.seq (.reg [Mv 13 0,Nk 14 13,Fa 15 4 14,Ld 16 15,Bi 17 .add 16 1,Nk 18 13,Fa 19 4 18,Sx 19 17]) (.reg [Mv 20 0,Nk 21 20,Fa 22 2 21,jc (.st 1 (.t 22) (.k (.int .i64 0)))]))
def zdt:AFn:=⟨23,zb1,[],none⟩
def zcg:AC:=.seq (.reg [iv 2 (.boxv (.t 0)),iv 4 (.mv (.k (.nsl)))]) (.seq (.reg [Fa 5 0 2,Ld 6 5,Mv 7 1,ic 8 (.call zaQ [.t 6,.t 7]),Mv 4 8]) (.ret))
def zd8:AFn:=⟨9,zcg,[.tmp 4],none⟩
def zb2:AC:=.seq (.reg [iv 2 (.boxv (.t 0)),iv 4 (.mv (.k (.nsl))),iv 5 (.mv (.k (.int .i64 0)))]) (.seq (.reg [Mv 10 1,ir 11 (.ld 1 true (.t 2)),iv 12 (.mkfn (.func za0) [.t 11] []),ic 13 (.call zfq [.t 10,.t 12]),Mv 9 13,Ex 14 9 0,Ex 15 9 1,Ex 16 9 2,Mv 6 14,Mv 7 15,Mv 8 16]) (.seq (.reg [Mv 17 6,Mv 18 8,Mv 4 17,Mv 5 18]) (.ret)))
def zdu:AFn:=⟨19,zb2,[.tmp 4,.tmp 5],none⟩
def zcC:AC:=.seq (.reg [iv 2 (.boxv (.t 0)),iv 3 (.boxv (.t 1))]) (.draw [Dv 4 (.fadr 0 (.t 2)) [2],Dr 5 (.ld 1 false (.t 4)) [4] 0 0,Dr 6 (.ld 4 true (.t 3)) [3] 0 0,Dr 7 (.call zeH [.t 6]) [6] 0 0,Dc 8 (.call zbr [.t 5,.t 7]) [5,7]])
def zen:AFn:=⟨9,zcC,[],none⟩
def zaK:AC:=.seq (.reg [Bt 9 .lss 8 7]) (.seq (.cond (.t 9) (.skip) (.exit 0)) (.seq (.blk 1 (.seq (.seq (.draw [Dm 10 0,Dv 11 (.nck (.t 10)) [10],Dv 12 (.fadr 3 (.t 11)) [11],Dr 13 (.ld 1 false (.t 12)) [12] 0 0,Dm 14 0,Dv 15 (.nck (.t 14)) [14],Dv 16 (.fadr 0 (.t 15)) [15],Dr 17 (.ld 1 false (.t 16)) [16] 0 0,Dr 18 (.inv (.t 17) "Rate" []) [17] 0 0,Dv 19 (.bin .eql (.t 13) (.t 18)) [13,18]]) (.cond (.t 19) (.seq (.reg [Mv 20 0,ic 21 (.call zaF [.t 20])]) (.reg [Mv 22 0,Nk 23 22,Fa 24 3 23,jc (.st 1 (.t 24) (.k (.int .i64 0)))])) (.skip))) (.seq (.draw [Dm 25 5,Dm 26 0,Dv 27 (.nck (.t 26)) [26],Dv 28 (.fadr 1 (.t 27)) [27],Dr 29 (.ld 1 false (.t 28)) [28] 0 0,Dm 30 0,Dv 31 (.nck (.t 30)) [30],Dv 32 (.fadr 3 (.t 31)) [31],Dr 33 (.ld 1 false (.t 32)) [32] 0 0,Dv 34 (.iadr none 1 (.t 29) (.t 33)) [29,33],Dr 35 (.ld 1 false (.t 34)) [34] 0 0,Dv 36 (.slit 1 1 [.int .u8 0] [(0,.t 35)]) [35],Dc 37 (.app 1 false (.t 25) (.t 36)) [25,36],Dm 5 37]) (.reg [Mv 38 0,Nk 39 38,Fa 40 3 39,Ld 41 40,Bi 42 .add 41 1,Nk 43 38,Fa 44 3 43,Sx 44 42])))) (.reg [Bi 45 .add 8 1,Mv 8 45])))
def zb3:AC:=.seq (.reg [iv 4 (.mv (.k (.nsl)))]) (.seq (.reg [iv 5 (.mv (.k (.nsl)))]) (.seq (.seq (.reg [Mv 6 1,iv 7 (.mxmn true [.t 6,.k (.int .i64 0)]),iv 8 (.mv (.k (.int .i64 0)))]) (.blk 0 (.loop zaK))) (.seq (.reg [Mv 46 5,Mv 4 46]) (.ret))))
def zdv:AFn:=⟨47,zb3,[.tmp 4],none⟩
def zc9:AC:=.seq (.reg [Bt 15 .lss 14 13]) (.seq (.cond (.t 15) (.skip) (.exit 0)) (.seq (.blk 1 (.seq (.reg [Mv 17 1,ic 18 (.call zf9 [.t 17]),Mv 16 18,Ex 19 16 0,Ex 20 16 1,Ex 21 16 2,ic 9 (.alloc (zaR (.int .u64 0) 4)),jc (.st 4 (.t 9) (.t 19)),Mv 10 20,Mv 11 21]) (.seq (.reg [Mv 22 8,Mv 23 10,Bt 24 .add 22 23,Mv 8 24]) (.seq (.seq (.reg [Mv 25 11,Bi 26 .neq 25 0]) (.cond (.t 26) (.seq (.reg [Mv 27 8,Mv 28 11,iv 4 (.mv (.k (.nsl))),Mv 5 27,Mv 6 28]) (.ret)) (.skip))) (.reg [Mv 29 7,ir 30 (.ld 4 true (.t 9)),iv 31 (.slit 4 1 (zaR (.int .u64 0) 4) [(0,.t 30)]),ic 32 (.app 4 false (.t 29) (.t 31)),Mv 7 32]))))) (.reg [Bi 33 .add 14 1,Mv 14 33])))
def zhv:AC:=.seq (.reg [iv 4 (.mv (.k (.nsl))),iv 5 (.mv (.k (.int .i64 0))),iv 6 (.mv (.k (.int .i64 0)))]) (.seq (.reg [iv 7 (.mv (.k (.nsl)))]) (.seq (.reg [iv 8 (.mv (.k (.int .i64 0)))]) (.seq (.seq (.reg [Mv 12 0,iv 13 (.mxmn true [.t 12,.k (.int .i64 0)]),iv 14 (.mv (.k (.int .i64 0)))]) (.blk 0 (.loop zc9))) (.seq (.reg [Mv 34 7,Mv 35 8,Mv 4 34,Mv 5 35,iv 6 (.mv (.k (.int .i64 0)))]) (.ret)))))
def zk7:AFn:=⟨36,zhv,[.tmp 4,.tmp 5,.tmp 6],none⟩
def zch:AC:=.seq (.reg [iv 1 (.boxv (.t 0)),ic 2 (.alloc (zaR (.int .u8 0) 32))]) (.seq (.reg [Fa 3 0 1,Ld 4 3,ic 5 (.call zaQ [.t 4,.k (.int .i64 32)]),iv 6 (.s2a 32 (.t 5)),ir 7 (.ld 32 true (.t 6)),jc (.st 32 (.t 2) (.t 7))]) (.ret))
def zd9:AFn:=⟨8,zch,[.cell 2 32 true],none⟩
def zaM:AC:=.seq (.reg [Bt 15 .lss 14 13]) (.seq (.cond (.t 15) (.skip) (.exit 0)) (.seq (.blk 1 (.seq (.reg [Ia 16 12 14,Ld 17 16,Mv 6 17]) (.seq (.seq (.reg [Mv 18 0,Nk 19 18,Fa 20 2 19,Ld 21 20,Mv 22 4,Bt 23 .eql 21 22]) (.cond (.t 23) (.reg [Mv 24 0,ic 25 (.call zaF [.t 24])]) (.skip))) (.seq (.draw [Dm 26 0,Dv 27 (.nck (.t 26)) [26],Dv 28 (.fadr 1 (.t 27)) [27],Dr 29 (.ld 1 false (.t 28)) [28] 0 0,Dm 30 0,Dv 31 (.nck (.t 30)) [30],Dv 32 (.fadr 2 (.t 31)) [31],Dr 33 (.ld 1 false (.t 32)) [32] 0 0,Dm 34 6,Dv 35 (.iadr none 1 (.t 29) (.t 33)) [29,33],Dn (.st 1 (.t 35) (.t 34)) [35,34]]) (.seq (.reg [Mv 36 0,Nk 37 36,Fa 38 2 37,Ld 39 38,Bi 40 .add 39 1,Nk 41 36,Fa 42 2 41,Sx 42 40]) (.reg [Mv 43 0,Mv 44 4,Nk 45 43,Fa 46 3 45,Sx 46 44])))))) (.reg [Bi 47 .add 14 1,Mv 14 47])))
def zci:AC:=.seq (.reg [Mv 7 0,Nk 8 7,Fa 9 0 8,Ld 10 9,ir 11 (.inv (.t 10) "Rate" []),Mv 4 11]) (.seq (.reg [Mv 12 1,iv 13 (.lenL (.t 12)),iv 14 (.mv (.k (.int .i64 0)))]) (.blk 0 (.loop zaM)))
def zea:AFn:=⟨48,zci,[],none⟩
def zda:AC:=.seq (.reg [iv 1 (.boxv (.t 0)),iv 2 (.mv (.k (.nsl)))]) (.seq (.seq (.reg [ir 4 (.ld 4 true (.t 1)),ir 5 (.call zdV [.t 4]),iv 6 (.un .not (.t 5))]) (.cond (.t 6) (.seq (.reg [iv 2 (.mv (.k (.nsl)))]) (.ret)) (.skip))) (.seq (.reg [Fa 7 0 1,Ld 8 7,iv 9 (.i2i .u8 (.t 8)),Fa 10 1 1,Ld 11 10,iv 12 (.i2i .u8 (.t 11)),Fa 13 2 1,Ld 14 13,iv 15 (.i2i .u8 (.t 14)),Fa 16 2 1,Ld 17 16,iv 18 (.bin .shr (.t 17) (.k (.int .u64 8))),iv 19 (.i2i .u8 (.t 18)),Fa 20 2 1,Ld 21 20,iv 22 (.bin .shr (.t 21) (.k (.int .u64 16))),iv 23 (.i2i .u8 (.t 22)),Fa 24 2 1,Ld 25 24,iv 26 (.bin .shr (.t 25) (.k (.int .u64 24))),iv 27 (.i2i .u8 (.t 26)),iv 28 (.slit 1 6 [.int .u8 0] [(0,.t 9),(1,.t 12),(2,.t 15),(3,.t 19),(4,.t 23),(5,.t 27)]),Mv 3 28]) (.seq (.reg [Mv 29 3,Fa 30 3 1,Ld 31 30,ic 32 (.app 1 false (.t 29) (.t 31)),Mv 2 32]) (.ret))))
def zkn:AFn:=⟨33,zda,[.tmp 2],none⟩
def zdx:AC:=.seq (.reg [Bi 10 .lss 9 64]) (.seq (.cond (.t 10) (.skip) (.exit 0)) (.seq (.blk 1 (.seq (.reg [Mv 11 9,Mv 5 11]) (.seq (.reg [Mv 12 0,ic 13 (.callv (.t 12) []),ir 14 (.call zhh [.t 13]),ic 6 (.alloc (zaR (.int .u8 0) 32)),jc (.st 32 (.t 6) (.t 14))]) (.seq (.reg [iv 16 (.slice (.arr 32) 1 (.t 6) none none none),ir 17 (.call zbV [.t 16]),Mv 15 17,Ex 18 15 0,Ex 19 15 1,ic 7 (.alloc (zaR (.int .u64 0) 4)),jc (.st 4 (.t 7) (.t 18)),Mv 8 19]) (.seq (.reg [Mv 20 8,Bi 21 .eql 20 0]) (.cond (.t 21) (.seq (.reg [ir 22 (.ld 4 true (.t 7)),Mv 23 5,Bi 24 .add 23 1,jc (.st 4 (.t 2) (.t 22)),Mv 3 24,iv 4 (.mv (.k (.int .i64 0)))]) (.ret)) (.skip))))))) (.reg [Bi 25 .add 9 1,Mv 9 25])))
def ziD:AC:=.seq (.reg [ic 2 (.alloc (zaR (.int .u64 0) 4)),iv 3 (.mv (.k (.int .i64 0))),iv 4 (.mv (.k (.int .i64 0)))]) (.seq (.seq (.reg [iv 9 (.mv (.k (.int .i64 0)))]) (.blk 0 (.loop zdx))) (.seq (.reg [iv 26 (.build (zaR (.int .u64 0) 4) []),jc (.st 4 (.t 2) (.t 26)),iv 3 (.mv (.k (.int .i64 64))),iv 4 (.mv (.k (.int .i64 11)))]) (.ret)))
def zmR:AFn:=⟨27,ziD,[.cell 2 4 true,.tmp 3,.tmp 4],none⟩
def zbT:AC:=.seq (.reg [iv 1 (.boxv (.t 0)),iv 2 (.mv (.k (.bool false)))]) (.seq (.seq (.reg [Fa 5 0 1,Ld 6 5,Fa 7 1 1,Ld 8 7,Fa 9 2 1,Ld 10 9,iv 11 (.build [.int .i64 0,.int .i64 0,.int .i64 0,.str ⟨#[]⟩] [(0,1,.t 6),(1,1,.t 8),(2,1,.t 10)]),ir 12 (.call zdw [.t 11]),Bi 13 .neq 12 0]) (.cond (.t 13) (.seq (.reg [iv 2 (.mv (.k (.bool false)))]) (.ret)) (.skip))) (.seq (.seq (.reg [Fa 14 0 1,Ld 15 14,Bi 16 .neq 15 1]) (.cond (.t 16) (.seq (.reg [Fa 17 3 1,Ld 18 17,iv 19 (.lenL (.t 18)),Bi 20 .eql 19 0,Mv 2 20]) (.ret)) (.skip))) (.seq (.reg [Fa 22 1 1,Ld 23 22,Fa 24 3 1,Ld 25 24,ir 26 (.call zdf [.t 23,.t 25]),Mv 21 26,Ex 27 21 0,Ex 28 21 1,Mv 3 27,Mv 4 28]) (.seq (.reg [Mv 29 3,Fa 30 2 1,Ld 31 30,Bt 32 .eql 29 31,Mv 33 32,Gv 34 (.fadr 1 (.t 1)) 33 true [],Gr 35 (.ld 1 false (.t 34)) 33 true [] 0 0,Gv 36 (.fadr 3 (.t 1)) 33 true [],Gr 37 (.ld 1 false (.t 36)) 33 true [] 0 0,Gr 38 (.call zev [.t 35,.t 37]) 33 true [] 0 0,Gv 39 (.bin .eql (.t 38) (.k (.int .i64 0))) 33 true [],iv 40 (.pick (.t 33) (.t 39) (.k (.bool false))),Mv 2 40]) (.ret)))))
def ziY:AFn:=⟨41,zbT,[.tmp 2],none⟩
def zjE:AC:=.seq (.reg [ic 1 (.box (.t 0)),ic 2 (.alloc (zaR (.int .u8 0) 32))]) (.seq (.reg [iv 3 (.iadr (some 32) 1 (.t 1) (.k (.int .i64 31))),Ld 4 3,iv 5 (.bin .and (.t 4) (.k (.int .u8 63))),iv 6 (.iadr (some 32) 1 (.t 1) (.k (.int .i64 31))),Sx 6 5]) (.seq (.reg [ir 7 (.ld 32 true (.t 1)),jc (.st 32 (.t 2) (.t 7))]) (.ret)))
def znX:AFn:=⟨8,zjE,[.cell 2 32 true],none⟩
def znY:AC:=.seq (.reg [ic 2 (.alloc (zaR (.int .u64 0) 4))]) (.seq (.reg [Mv 3 0,iv 4 (.build (zaR (.int .u64 0) 4) [(0,1,.t 3)]),ir 5 (.call zdP [.t 4]),jc (.st 4 (.t 2) (.t 5))]) (.ret))
def zio:AFn:=⟨6,znY,[.cell 2 4 true],none⟩
def zdh:AC:=.seq (.reg [iv 2 (.boxv (.t 0))]) (.seq (.reg [Mv 8 1,ir 9 (.call zeL [.t 8]),Mv 7 9,Ex 10 7 0,Ex 11 7 1,ic 4 (.alloc (zaR (.int .u64 0) 25)),jc (.st 25 (.t 4) (.t 10)),Mv 5 11]) (.seq (.seq (.reg [Mv 12 5,Bi 13 .neq 12 0]) (.cond (.t 13) (.ret) (.skip))) (.seq (.reg [ir 14 (.ld 25 true (.t 4)),ir 15 (.call za6 [.t 14]),ir 16 (.call zbH [.t 15]),ic 6 (.alloc (zaR (.int .u8 0) 200)),jc (.st 200 (.t 6) (.t 16))]) (.reg [Mv 17 1,iv 18 (.slice (.arr 200) 1 (.t 6) none none none),ic 19 (.copy 1 (.t 17) (.t 18))]))))
def zfF:AFn:=⟨20,zdh,[],none⟩
def zeN:AC:=.seq (.reg [iv 1 (.boxv (.t 0)),iv 2 (.mv (.k (.int .i64 0)))]) (.seq (.reg [iv 2 (.mv (.k (.int .i64 136)))]) (.ret))
def zhw:AFn:=⟨3,zeN,[.tmp 2],none⟩
def zeb:AC:=.seq (.reg [iv 1 (.boxv (.t 0)),iv 2 (.mv (.k (.int .i64 0)))]) (.seq (.reg [iv 2 (.mv (.k (.int .i64 200)))]) (.ret))
def zgZ:AFn:=⟨3,zeb,[.tmp 2],none⟩
def zgJ:AC:=.seq (.reg [ic 2 (.alloc (zaR (.int .u64 0) 25)),iv 3 (.mv (.k (.int .i64 0)))]) (.seq (.seq (.reg [Mv 4 0,iv 5 (.lenL (.t 4)),Bi 6 .neq 5 200]) (.cond (.t 6) (.seq (.reg [iv 7 (.build (zaR (.int .u64 0) 25) []),jc (.st 25 (.t 2) (.t 7)),iv 3 (.mv (.k (.int .i64 1)))]) (.ret)) (.skip))) (.seq (.reg [Mv 8 0,ir 9 (.call zdy [.t 8]),iv 10 (.s2a 25 (.t 9)),ir 11 (.ld 25 true (.t 10)),jc (.st 25 (.t 2) (.t 11)),iv 3 (.mv (.k (.int .i64 0)))]) (.ret)))
def zko:AFn:=⟨12,zgJ,[.cell 2 25 true,.tmp 3],none⟩
def zm8:AC:=.seq (.reg [iv 2 (.boxv (.t 0)),iv 3 (.boxv (.t 1)),ic 4 (.alloc (zaR (.int .u64 0) 4))]) (.seq (.reg [Fa 5 0 2,ir 6 (.ld 4 true (.t 5)),Fa 7 0 3,ir 8 (.ld 4 true (.t 7)),ir 9 (.call zgh [.t 6,.t 8]),ir 10 (.call zdQ [.t 9]),iv 11 (.build (zaR (.int .u64 0) 4) [(0,4,.t 10)]),jc (.st 4 (.t 4) (.t 11))]) (.ret))
def zhx:AFn:=⟨12,zm8,[.cell 4 4 true],none⟩
def zqv:AC:=.seq (.reg [iv 1 (.boxv (.t 0)),ic 2 (.alloc (zaR (.int .u64 0) 4))]) (.seq (.draw [Dr 3 (.ld 4 true (.t 1)) [1] 0 0,Dr 4 (.call zcd [.t 3]) [3] 0 0,Dr 5 (.call zcd [.t 4]) [4] 0 0,Dr 6 (.ld 4 true (.t 1)) [1] 0 0,Dr 7 (.call zc5 [.t 5,.t 6]) [5,6] 0 0,Dn (.st 4 (.t 2) (.t 7)) [2,7]]) (.ret))
def zkp:AFn:=⟨8,zqv,[.cell 2 4 true],none⟩
def zkG:AC:=.seq (.reg [iv 1 (.boxv (.t 0)),ic 2 (.alloc (zaR (.int .u64 0) 4))]) (.seq (.reg [ir 3 (.ld 4 true (.t 1)),ir 4 (.ld 4 true (.t 1)),ir 5 (.call zc5 [.t 3,.t 4]),jc (.st 4 (.t 2) (.t 5))]) (.ret))
def zfG:AFn:=⟨6,zkG,[.cell 2 4 true],none⟩
def zm9:AC:=.seq (.reg [iv 2 (.boxv (.t 0)),iv 3 (.boxv (.t 1)),ic 4 (.alloc (zaR (.int .u64 0) 4))]) (.seq (.reg [Fa 5 0 2,ir 6 (.ld 4 true (.t 5)),Fa 7 0 3,ir 8 (.ld 4 true (.t 7)),ir 9 (.call zcS [.t 6,.t 8]),iv 10 (.build (zaR (.int .u64 0) 4) [(0,4,.t 9)]),jc (.st 4 (.t 4) (.t 10))]) (.ret))
def zhy:AFn:=⟨11,zm9,[.cell 4 4 true],none⟩
def zjF:AC:=.seq (.reg [iv 1 (.boxv (.t 0)),ic 2 (.alloc (zaR (.int .u64 0) 4))]) (.seq (.reg [ir 4 (.call zbP []),ic 3 (.alloc (zaR (.int .u64 0) 4)),jc (.st 4 (.t 3) (.t 4))]) (.seq (.reg [iv 5 (.iadr (some 4) 1 (.t 3) (.k (.int .i64 0))),Ld 6 5,iv 7 (.bin .sub (.t 6) (.k (.int .u64 2))),iv 8 (.iadr (some 4) 1 (.t 3) (.k (.int .i64 0))),Sx 8 7]) (.seq (.draw [Dr 9 (.ld 4 true (.t 1)) [1] 0 0,Dv 10 (.slice (.arr 4) 1 (.t 3) none none none) [3],Dr 11 (.call zhZ [.t 9,.t 10]) [9,10] 0 0,Dn (.st 4 (.t 2) (.t 11)) [2,11]]) (.ret))))
def zfj:AFn:=⟨12,zjF,[.cell 2 4 true],none⟩
def zml:AC:=.seq (.seq (.reg [Mv 11 6,Bi 12 .geq 11 0]) (.cond (.t 12) (.skip) (.exit 0))) (.seq (.blk 1 (.seq (.reg [ir 15 (.ld 4 true (.t 5)),ir 16 (.call zcd [.t 15]),jc (.st 4 (.t 5) (.t 16))]) (.seq (.reg [Mv 17 1,Mv 18 6,Bi 19 .quo 18 64,Ia 20 17 19,Ld 21 20,Mv 22 6,Bi 23 .rem 22 64,Bt 24 .shr 21 23,iv 25 (.bin .and (.t 24) (.k (.int .u64 1))),iv 26 (.bin .eql (.t 25) (.k (.int .u64 1)))]) (.cond (.t 26) (.reg [ir 27 (.ld 4 true (.t 5)),ir 28 (.ld 4 true (.t 2)),ir 29 (.call zc5 [.t 27,.t 28]),jc (.st 4 (.t 5) (.t 29))]) (.skip))))) (.reg [Mv 13 6,Bi 14 .sub 13 1,Mv 6 14]))
def zna:AC:=.seq (.reg [iv 2 (.boxv (.t 0)),ic 4 (.alloc (zaR (.int .u64 0) 4))]) (.seq (.reg [ir 7 (.call ziy [.k (.int .u64 1)]),ic 5 (.alloc (zaR (.int .u64 0) 4)),jc (.st 4 (.t 5) (.t 7))]) (.seq (.seq (.reg [Mv 8 1,ir 9 (.call zfQ [.t 8]),Bi 10 .sub 9 1,Mv 6 10]) (.blk 0 (.loop zml))) (.seq (.reg [ir 30 (.ld 4 true (.t 5)),jc (.st 4 (.t 4) (.t 30))]) (.ret))))
def zhB:AFn:=⟨31,zna,[.cell 4 4 true],none⟩
def zPZ:FuncId→Option AFn
  | 5=>some zez
  | 6=>some zeA
  | 9=>some zo8
  | 10=>some zkD
  | 12=>some zhb
  | 13=>some ziA
  | 18=>some zkE
  | 19=>some zkF
  | 32=>some zsI
  | 33=>some zxh
  | 34=>some zh7
  | 35=>some zpa
  | 36=>some zm2
  | 37=>some zc1
  | 38=>some zcW
  | 39=>some zcz
  | 40=>some zgG
  | 41=>some zcX
  | 42=>some zc2
  | 59=>some zl0
  | 60=>some zia
  | 61=>some zqs
  | 62=>some zcA
  | 63=>some zl3
  | 64=>some zl4
  | 65=>some zfa
  | 66=>some zjC
  | 67=>some zpd
  | 68=>some zdO
  | 69=>some zm4
  | 70=>some ziC
  | 71=>some zdq
  | 72=>some zmV
  | 73=>some zgm
  | 74=>some zqb
  | 75=>some zg1
  | 97=>some ze0
  | 106=>some zog
  | 107=>some zoh
  | 108=>some zhJ
  | 109=>some zjc
  | 110=>some zkr
  | 111=>some zer
  | 112=>some zmX
  | 113=>some zkt
  | 114=>some zol
  | 115=>some zis
  | 116=>some zlj
  | 117=>some zlk
  | 118=>some zg2
  | 130=>some zhN
  | 131=>some zgo
  | 132=>some zgp
  | 144=>some ze1
  | 147=>some zg3
  | 148=>some zit
  | 149=>some zqc
  | 150=>some zfp
  | 151=>some zop
  | 152=>some zjf
  | 153=>some zfK
  | 154=>some zg4
  | 155=>some zor
  | 156=>some zuh
  | 157=>some zo4
  | 158=>some zgD
  | 159=>some zqk
  | 160=>some zsy
  | 161=>some zju
  | 162=>some zjv
  | 163=>some zjw
  | 164=>some zql
  | 165=>some zlM
  | 166=>some zqm
  | 168=>some zo5
  | 170=>some zjy
  | 173=>some zey
  | 180=>some zgE
  | 181=>some zh3
  | 182=>some zh4
  | 190=>some zqn
  | 191=>some ze9
  | 192=>some zg9
  | 193=>some zdJ
  | 194=>some zha
  | 195=>some zqo
  | 196=>some zsC
  | 197=>some zm1
  | 198=>some zqp
  | 199=>some zkB
  | 200=>some zlT
  | 201=>some zkC
  | 202=>some zku
  | 203=>some zsc
  | 204=>some zjm
  | 211=>some zjn
  | 212=>some zkv
  | 213=>some zjo
  | 214=>some zhU
  | 215=>some zfM
  | 224=>some zgy
  | 225=>some zg5
  | 226=>some zg6
  | 227=>some ziv
  | 228=>some zjq
  | 229=>some zhV
  | 231=>some zsf
  | 232=>some zqi
  | 233=>some zt3
  | 234=>some zg7
  | 235=>some zwK
  | 236=>some ziw
  | 237=>some zkw
  | 243=>some ze4
  | 244=>some zt6
  | 245=>some zhW
  | 246=>some zwR
  | 247=>some zgz
  | 248=>some zrm
  | 249=>some ziV
  | 250=>some zro
  | 271=>some zds
  | 272=>some zdt
  | 273=>some zd8
  | 274=>some zdu
  | 275=>some zen
  | 276=>some zdv
  | 277=>some zk7
  | 278=>some zd9
  | 279=>some zea
  | 280=>some zkn
  | 281=>some zmR
  | 282=>some ziY
  | 283=>some znX
  | 295=>some zio
  | 304=>some zfF
  | 305=>some zhw
  | 306=>some zgZ
  | 307=>some zko
  | 312=>some zhx
  | 313=>some zkp
  | 319=>some zfG
  | 320=>some zhy
  | 326=>some zfj
  | 335=>some zhB
  | _=>none
def zOW:FuncId→Av.Mode
  | 18=>⟨false,false,true,false⟩
  | 19=>⟨false,false,false,false⟩
  | 32=>⟨false,false,true,false⟩
  | 35=>⟨false,false,true,false⟩
  | 36=>⟨false,false,true,false⟩
  | 37=>⟨false,false,false,false⟩
  | 38=>⟨false,false,false,false⟩
  | 39=>⟨false,false,false,false⟩
  | 41=>⟨false,false,false,false⟩
  | 42=>⟨false,false,false,false⟩
  | 62=>⟨true,false,false,false⟩
  | 63=>⟨false,false,true,false⟩
  | 65=>⟨false,false,true,false⟩
  | 66=>⟨false,false,true,false⟩
  | 68=>⟨false,false,false,false⟩
  | 70=>⟨false,false,false,false⟩
  | 71=>⟨false,false,false,false⟩
  | 74=>⟨true,false,false,false⟩
  | 75=>⟨false,false,false,false⟩
  | 79=>⟨false,false,false,true⟩
  | 83=>⟨true,false,false,false⟩
  | 85=>⟨true,false,false,false⟩
  | 108=>⟨false,false,false,false⟩
  | 110=>⟨false,false,true,false⟩
  | 111=>⟨false,false,true,false⟩
  | 112=>⟨false,false,true,false⟩
  | 115=>⟨false,false,false,false⟩
  | 118=>⟨false,false,false,false⟩
  | 125=>⟨true,false,false,false⟩
  | 130=>⟨false,false,true,false⟩
  | 147=>⟨false,false,false,false⟩
  | 148=>⟨false,false,false,false⟩
  | 150=>⟨true,false,false,false⟩
  | 151=>⟨false,false,false,true⟩
  | 152=>⟨false,false,false,false⟩
  | 156=>⟨true,false,false,false⟩
  | 158=>⟨true,false,false,false⟩
  | 159=>⟨true,false,false,false⟩
  | 179=>⟨true,true,false,true⟩
  | 193=>⟨true,false,false,false⟩
  | 194=>⟨true,false,false,false⟩
  | 196=>⟨true,false,false,false⟩
  | 229=>⟨true,false,false,false⟩
  | 233=>⟨true,false,false,false⟩
  | 234=>⟨true,false,false,false⟩
  | 236=>⟨true,false,false,false⟩
  | 244=>⟨true,false,false,false⟩
  | 246=>⟨true,false,false,false⟩
  | 247=>⟨true,false,false,false⟩
  | 248=>⟨true,false,false,false⟩
  | 271=>⟨false,false,false,false⟩
  | 272=>⟨false,false,false,false⟩
  | 273=>⟨false,false,false,false⟩
  | 274=>⟨false,false,false,false⟩
  | 275=>⟨false,false,false,false⟩
  | 276=>⟨false,false,false,false⟩
  | 277=>⟨false,false,false,false⟩
  | 278=>⟨false,false,false,false⟩
  | 279=>⟨false,false,false,false⟩
  | 281=>⟨false,false,false,false⟩
  | 284=>⟨false,false,false,false⟩
  | 286=>⟨false,false,false,false⟩
  | 287=>⟨false,false,false,false⟩
  | 288=>⟨false,false,false,false⟩
  | 289=>⟨false,false,false,false⟩
  | 290=>⟨false,false,false,false⟩
  | 291=>⟨false,false,false,false⟩
  | 292=>⟨false,false,false,false⟩
  | 293=>⟨false,false,false,false⟩
  | 304=>⟨false,false,false,false⟩
  | 308=>⟨false,false,false,false⟩
  | 309=>⟨false,false,false,false⟩
  | 310=>⟨false,false,false,false⟩
  | 311=>⟨false,false,false,false⟩
  | 317=>⟨false,false,true,false⟩
  | 318=>⟨false,false,false,false⟩
  | 327=>⟨false,false,false,false⟩
  | 328=>⟨false,false,false,false⟩
  | 329=>⟨false,false,false,false⟩
  | 335=>⟨true,false,false,false⟩
  | 355=>⟨false,false,false,false⟩
  | _=>Mode.pure
def zFg:Nat→Option (List zaa)
  | 3=>some ([.int .u64 1,.int .u64 32898,.int .u64 9223372036854808714,.int .u64 9223372039002292224,.int .u64 32907,.int .u64 2147483649,.int .u64 9223372039002292353,.int .u64 9223372036854808585,.int .u64 138,.int .u64 136,.int .u64 2147516425,.int .u64 2147483658,.int .u64 2147516555,.int .u64 9223372036854775947,.int .u64 9223372036854808713,.int .u64 9223372036854808579,.int .u64 9223372036854808578,.int .u64 9223372036854775936,.int .u64 32778,.int .u64 9223372039002259466,.int .u64 9223372039002292353,.int .u64 9223372036854808704,.int .u64 2147483649,.int .u64 9223372039002292232])
  | 0=>some ((Go.Lib.pow10Tab.map fun z=>zaa.int .u64 z))
  | _=>none
def zLu:List (TypeId × String × FuncId):=[(230,"Width",zbM),(230,"Rate",zb9),(230,"Permute",zbs),(109,"avouch/transcript.tell",za7),(109,"avouch/transcript.bytes",zaZ),(109,"avouch/transcript.fields",zaP)]
def zHC:List (TypeId × String × FuncId × Nat):=[(109,"Ratchet",zaO,0),(109,"Calls",zet,0)]
def zIs (t : TypeId) (n : String) : Option (List (Nat × Nat × Bool) × FuncId) := match (zLu.find? fun r => r.1 == t && r.2.1 == n) with
  | some r=>some ([],r.2.2)
  | none=>(zHC.find? fun r=>r.1==t&&r.2.1==n).map fun r=>([(r.2.2.2,1,false)],r.2.2.1)
def zOY:FuncId→Option zJh
  | 11=>some (zwX)
  | 167=>some (zMG)
  | 230=>some (zMW)
  | _=>none
def ctx:Ctx:={fns:=zPZ,mode:=zOW,glob:=zFg,meth:=zIs,ext:=zOY,qinv:=fun n=>n== "Width"||n== "Rate"||n== "Calls"}
abbrev zar (f:FuncId) (m:Mode) (n:Nat) (c:AC) (r:List zwI):Prop:=∀ (L:Lim) (a:List zaa) (h:zab),zag ctx L f a h=zCT ctx L m h n c r (zkl m h a)
theorem zrt:ctx.ext zdW=some (zwX):=rfl
theorem znb:ctx.ext zaH=some (zMG):=rfl
theorem znc:ctx.ext zbX=some (zMW):=rfl
@[simp] theorem zEP:ctx.meth 230 "Width"=some ([],zbM):=rfl
@[simp] theorem zFi:ctx.meth 230 "Rate"=some ([],zb9):=rfl
@[simp] theorem zBn:ctx.meth 230 "Permute"=some ([],zbs):=rfl
@[simp] theorem zFj:ctx.meth 109 "avouch/transcript.tell"=some ([],za7):=rfl
@[simp] theorem zEQ:ctx.meth 109 "avouch/transcript.bytes"=some ([],zaZ):=rfl
@[simp] theorem zB2:ctx.meth 109 "avouch/transcript.fields"=some ([],zaP):=rfl
@[simp] theorem zBv:ctx.meth 109 "Ratchet"=some ([(0,1,false)],zaO):=rfl
@[simp] theorem zEV:ctx.meth 109 "Calls"=some ([(0,1,false)],zet):=rfl
theorem zhi:zar zbx Mode.pure 80 za8 [.tmp 4]:=fun L a h=>zad h L rfl rfl a
@[simp] theorem zqD:zac ctx zbx=true:=rfl
theorem zqE:zar zct Mode.pure 39 zfz [.tmp 2,.tmp 3,.tmp 4]:=fun L a h=>zad h L rfl rfl a
@[simp] theorem zAo:zac ctx zct=true:=rfl
theorem znt:zar zck Mode.pure 34 zgX [.cell 2 3 true]:=fun L a h=>zad h L rfl rfl a
@[simp] theorem zxB:zac ctx zck=true:=rfl
theorem zj2:zar za2 Mode.pure 6 zel [.tmp 0]:=fun L a h=>zad h L rfl rfl a
@[simp] theorem ztW:zac ctx za2=true:=rfl
theorem zdC:zar zcu Mode.pure 42 zcy [.tmp 2]:=fun L a h=>zad h L rfl rfl a
@[simp] theorem zvN:zac ctx zcu=true:=rfl
theorem zhQ:zar zdb (⟨false,false,true,false⟩) 64 zde [.tmp 4,.tmp 5,.tmp 6]:=fun L a h=>zad h L rfl rfl a
@[simp] theorem zxC:zac ctx zdb=false:=rfl
theorem znv:zar zeI (⟨false,false,false,false⟩) 70 zbE [.cell 4 2 true]:=fun L a h=>zad h L rfl rfl a
@[simp] theorem zxD:zac ctx zeI=false:=rfl
theorem ztj:zar zj7 (⟨false,false,true,false⟩) 21 zkh [.tmp 2,.tmp 3,.tmp 4]:=fun L a h=>zad h L rfl rfl a
@[simp] theorem zC1:zac ctx zj7=false:=rfl
theorem zws:zar zoD Mode.pure 36 zh6 [.cell 4 32 true,.tmp 5,.tmp 6]:=fun L a h=>zad h L rfl rfl a
@[simp] theorem zFP:zac ctx zoD=true:=rfl
theorem zkS:zar zb6 Mode.pure 8 zeT [.tmp 2]:=fun L a h=>zad h L rfl rfl a
@[simp] theorem zuX:zac ctx zb6=true:=rfl
theorem zqI:zar zhn (⟨false,false,true,false⟩) 6 zki [.tmp 2]:=fun L a h=>zad h L rfl rfl a
@[simp] theorem zAr:zac ctx zhn=false:=rfl
@[simp] theorem zzh:zac ctx zmY=false:=rfl
theorem zfr:zar za3 (⟨false,false,false,false⟩) 59 zat [.tmp 6]:=fun L a h=>zad h L rfl rfl a
@[simp] theorem znV:zac ctx za3=false:=rfl
theorem zfb:zar zaV (⟨false,false,false,false⟩) 28 zaX [.tmp 4,.tmp 5]:=fun L a h=>zad h L rfl rfl a
@[simp] theorem znA:zac ctx zaV=false:=rfl
theorem zeu:zar zaL (⟨false,false,false,false⟩) 42 zaD [.tmp 4,.tmp 5]:=fun L a h=>zad h L rfl rfl a
@[simp] theorem zmw:zac ctx zaL=false:=rfl
theorem zji:zar zcv Mode.pure 10 zdM [.cell 2 32 true]:=fun L a h=>zad h L rfl rfl a
@[simp] theorem ztn:zac ctx zcv=true:=rfl
theorem zfc:zar zaW (⟨false,false,false,false⟩) 23 zaY [.tmp 2]:=fun L a h=>zad h L rfl rfl a
@[simp] theorem znC:zac ctx zaW=false:=rfl
theorem zfs:zar za4 (⟨false,false,false,false⟩) 8 zbz [.tmp 2]:=fun L a h=>zad h L rfl rfl a
@[simp] theorem znW:zac ctx za4=false:=rfl
theorem zoy:zar zfw Mode.pure 34 zh8 [.tmp 2,.tmp 3,.tmp 4]:=fun L a h=>zad h L rfl rfl a
@[simp] theorem zya:zac ctx zfw=true:=rfl
theorem zkW:zar zc4 Mode.pure 34 zeV [.tmp 2,.tmp 3,.tmp 4]:=fun L a h=>zad h L rfl rfl a
@[simp] theorem zu2:zac ctx zc4=true:=rfl
theorem zr4:zar zgA Mode.pure 16 zl1 [.cell 2 32 true]:=fun L a h=>zad h L rfl rfl a
@[simp] theorem zBw:zac ctx zgA=true:=rfl
@[simp] theorem zmz:zac ctx zbn=true:=rfl
theorem zoA:zar zfx (⟨false,false,true,false⟩) 14 zib [.tmp 4]:=fun L a h=>zad h L rfl rfl a
@[simp] theorem zyc:zac ctx zfx=false:=rfl
theorem zoB:zar zfy Mode.pure 3 zic [.tmp 0]:=fun L a h=>zad h L rfl rfl a
@[simp] theorem zye:zac ctx zfy=true:=rfl
@[simp] theorem zq2:zac ctx ze6=false:=rfl
@[simp] theorem zwx:zac ctx zjr=false:=rfl
@[simp] theorem zAy:zac ctx zoU=true:=rfl
theorem zgw:zar zbo (⟨false,false,false,false⟩) 8 zcb [.tmp 2]:=fun L a h=>zad h L rfl rfl a
@[simp] theorem zpI:zac ctx zbo=false:=rfl
theorem zpJ:zar zdf Mode.pure 33 zcD [.tmp 4,.tmp 5]:=fun L a h=>zad h L rfl rfl a
@[simp] theorem zzi:zac ctx zdf=true:=rfl
theorem zlu:zar za5 (⟨false,false,false,false⟩) 32 zcB [.tmp 4]:=fun L a h=>zad h L rfl rfl a
@[simp] theorem zvP:zac ctx za5=false:=rfl
theorem zfZ:zar zav (⟨false,false,false,false⟩) 16 zbR [.tmp 4]:=fun L a h=>zad h L rfl rfl a
@[simp] theorem zpf:zac ctx zav=false:=rfl
theorem zpL:zar zev Mode.pure 44 zeq [.tmp 4]:=fun L a h=>zad h L rfl rfl a
@[simp] theorem zzk:zac ctx zev=true:=rfl
theorem zjj:zar zcx Mode.pure 7 zdB [.cell 2 4 true]:=fun L a h=>zad h L rfl rfl a
@[simp] theorem ztp:zac ctx zcx=true:=rfl
theorem zr7:zar zgC (⟨true,false,false,false⟩) 24 zlh [.tmp 2]:=fun L a h=>zad h L rfl rfl a
@[simp] theorem zBx:zac ctx zgC=true:=rfl
theorem zj8:zar zcJ (⟨false,false,false,false⟩) 15 zcG [.tmp 2]:=fun L a h=>zad h L rfl rfl a
@[simp] theorem zt0:zac ctx zcJ=false:=rfl
theorem zqK:zar zho Mode.pure 43 zfo [.cell 2 4 true,.tmp 3,.tmp 4]:=fun L a h=>zad h L rfl rfl a
@[simp] theorem zAC:zac ctx zho=true:=rfl
theorem zqL:zar zhp Mode.pure 29 zjV [.tmp 2,.tmp 3]:=fun L a h=>zad h L rfl rfl a
@[simp] theorem zAD:zac ctx zhp=true:=rfl
theorem zkZ:zar zc6 (⟨false,false,false,false⟩) 43 zeR []:=fun L a h=>zad h L rfl rfl a
@[simp] theorem zu7:zac ctx zc6=false:=rfl
theorem zmB:zar zcR Mode.pure 19 zfW [.cell 2 32 true]:=fun L a h=>zad h L rfl rfl a
@[simp] theorem zwT:zac ctx zcR=true:=rfl
theorem znM:zar zeM (⟨false,false,true,false⟩) 33 zgM [.tmp 4,.tmp 5]:=fun L a h=>zad h L rfl rfl a
@[simp] theorem zxI:zac ctx zeM=false:=rfl
@[simp] theorem zqO:zac ctx zex=false:=rfl
@[simp] theorem zzy:zac ctx zm0=false:=rfl
@[simp] theorem zxJ:zac ctx zkA=true:=rfl
theorem zqP:zar zhq Mode.pure 6 zjX [.tmp 2]:=fun L a h=>zad h L rfl rfl a
@[simp] theorem zAL:zac ctx zhq=true:=rfl
theorem zlF:zar zdp (⟨false,false,false,false⟩) 51 zcr [.tmp 8]:=fun L a h=>zad h L rfl rfl a
@[simp] theorem zvQ:zac ctx zdp=false:=rfl
theorem zoS:zar zdH Mode.pure 20 zb5 [.cell 2 3 true]:=fun L a h=>zad h L rfl rfl a
@[simp] theorem zyA:zac ctx zdH=true:=rfl
theorem zoT:zar zcS Mode.pure 91 zhM [.cell 4 4 true]:=fun L a h=>zad h L rfl rfl a
@[simp] theorem zyB:zac ctx zcS=true:=rfl
theorem zkc:zar zbN (⟨false,false,false,false⟩) 11 zec [.tmp 6]:=fun L a h=>zad h L rfl rfl a
@[simp] theorem zt8:zac ctx zbN=false:=rfl
@[simp] theorem zvl:zac ctx zhu=false:=rfl
@[simp] theorem ztq:zac ctx zgd=true:=rfl
@[simp] theorem ztr:zac ctx zge=true:=rfl
@[simp] theorem zq8:zac ctx zeW=true:=rfl
theorem zkd:zar za1 (⟨false,false,false,false⟩) 26 zed [.tmp 4]:=fun L a h=>zad h L rfl rfl a
@[simp] theorem zua:zac ctx za1=false:=rfl
theorem zlJ:zar zco (⟨false,false,false,false⟩) 33 zdn [.tmp 4]:=fun L a h=>zad h L rfl rfl a
@[simp] theorem zvR:zac ctx zco=false:=rfl
theorem zsm:zar zdw Mode.pure 36 zln [.tmp 2]:=fun L a h=>zad h L rfl rfl a
@[simp] theorem zBA:zac ctx zdw=true:=rfl
@[simp] theorem zsn:zac ctx zbO=true:=rfl
theorem zky:zar zcp (⟨false,false,false,true⟩) 22 zhg [.tmp 6]:=fun L a h=>zad h L rfl rfl a
@[simp] theorem zAP:zac ctx zcp=false:=rfl
theorem zmJ:zar zbc (⟨false,false,false,false⟩) 23 zfY []:=fun L a h=>zad h L rfl rfl a
@[simp] theorem zw2:zac ctx zbc=false:=rfl
theorem ziQ:zar za6 Mode.pure 12 zdi [.cell 2 25 true]:=fun L a h=>zad h L rfl rfl a
@[simp] theorem zsW:zac ctx za6=true:=rfl
theorem zke:zar zbH Mode.pure 7 zee [.cell 2 200 true]:=fun L a h=>zad h L rfl rfl a
@[simp] theorem zub:zac ctx zbH=true:=rfl
theorem zqQ:zar zbP Mode.pure 2 zj1 [.cell 0 4 true]:=fun L a h=>zad h L rfl rfl a
@[simp] theorem zAS:zac ctx zbP=true:=rfl
theorem zvo:zar ziX (⟨true,false,false,false⟩) 88 zp1 [.tmp 2,.tmp 3]:=fun L a h=>zad h L rfl rfl a
@[simp] theorem zEZ:zac ctx ziX=true:=rfl
theorem zqR:zar zdP Mode.pure 16 zkf [.cell 2 4 true]:=fun L a h=>zad h L rfl rfl a
@[simp] theorem zAU:zac ctx zdP=true:=rfl
theorem zjs:zar zby (⟨true,false,false,false⟩) 33 zdI [.tmp 4]:=fun L a h=>zad h L rfl rfl a
@[simp] theorem zts:zac ctx zby=true:=rfl
theorem zsp:zar zdy (⟨true,false,false,false⟩) 33 zlL [.tmp 2]:=fun L a h=>zad h L rfl rfl a
@[simp] theorem zBB:zac ctx zdy=true:=rfl
theorem ztt:zar zjD Mode.pure 10 znO [.tmp 4]:=fun L a h=>zad h L rfl rfl a
@[simp] theorem zD1:zac ctx zjD=true:=rfl
theorem zmK:zar zbU Mode.pure 11 zdZ [.tmp 2]:=fun L a h=>zad h L rfl rfl a
@[simp] theorem zw3:zac ctx zbU=true:=rfl
theorem zg8:zar zbV Mode.pure 26 zd0 [.cell 2 4 true,.tmp 3]:=fun L a h=>zad h L rfl rfl a
@[simp] theorem zw4:zac ctx zbV=true:=rfl
theorem zmL:zar zbW Mode.pure 11 zf6 [.tmp 2]:=fun L a h=>zad h L rfl rfl a
@[simp] theorem zw5:zac ctx zbW=true:=rfl
theorem zst:zar zin Mode.pure 31 ze8 [.cell 2 12 true,.tmp 3]:=fun L a h=>zad h L rfl rfl a
@[simp] theorem zBC:zac ctx zin=true:=rfl
theorem zoZ:zar zfi Mode.pure 16 zh2 [.tmp 0]:=fun L a h=>zad h L rfl rfl a
@[simp] theorem zyG:zac ctx zfi=true:=rfl
theorem zsu:zar zeX Mode.pure 38 zlN [.tmp 8,.tmp 9]:=fun L a h=>zad h L rfl rfl a
@[simp] theorem zBD:zac ctx zeX=true:=rfl
theorem zqS:zar zdQ Mode.pure 15 zhr [.cell 2 4 true]:=fun L a h=>zad h L rfl rfl a
@[simp] theorem zAZ:zac ctx zdQ=true:=rfl
theorem zmM:zar zdR Mode.pure 25 zaI [.tmp 2]:=fun L a h=>zad h L rfl rfl a
@[simp] theorem zw7:zac ctx zdR=true:=rfl
@[simp] theorem ztu:zac ctx zgf=true:=rfl
@[simp] theorem zvw:zac ctx zhz=true:=rfl
@[simp] theorem zvy:zac ctx zhA=true:=rfl
theorem zsx:zar zip Mode.pure 14 zlQ [.tmp 2,.tmp 3]:=fun L a h=>zad h L rfl rfl a
@[simp] theorem zBE:zac ctx zip=true:=rfl
theorem zh1:zar zbA Mode.pure 9 zcT [.tmp 4]:=fun L a h=>zad h L rfl rfl a
@[simp] theorem zrd:zac ctx zbA=true:=rfl
theorem zjJ:zar zcF Mode.pure 16 zej [.cell 4 25 true]:=fun L a h=>zad h L rfl rfl a
@[simp] theorem ztC:zac ctx zcF=true:=rfl
theorem zgi:zar zaN (⟨true,false,false,false⟩) 8 zca [.tmp 2]:=fun L a h=>zad h L rfl rfl a
@[simp] theorem zpk:zac ctx zaN=true:=rfl
theorem zjK:zar zbI (⟨true,false,false,false⟩) 34 zek [.tmp 6]:=fun L a h=>zad h L rfl rfl a
@[simp] theorem ztD:zac ctx zbI=true:=rfl
theorem zrv:zar zgh Mode.pure 25 zlR [.cell 4 4 true]:=fun L a h=>zad h L rfl rfl a
@[simp] theorem zBo:zac ctx zgh=true:=rfl
theorem zs1:zar zfQ (⟨true,false,false,false⟩) 24 znS [.tmp 2]:=fun L a h=>zad h L rfl rfl a
@[simp] theorem zB6:zac ctx zfQ=true:=rfl
theorem zpl:zar zep Mode.pure 26 ziS [.cell 4 4 true,.tmp 5]:=fun L a h=>zad h L rfl rfl a
@[simp] theorem zyX:zac ctx zep=true:=rfl
theorem zrw:zar zir Mode.pure 3 zlS [.tmp 0]:=fun L a h=>zad h L rfl rfl a
@[simp] theorem zBp:zac ctx zir=true:=rfl
theorem zne:zar zeC Mode.pure 25 zdd [.cell 4 12 true,.tmp 5]:=fun L a h=>zad h L rfl rfl a
@[simp] theorem zxu:zac ctx zeC=true:=rfl
theorem zn6:zar zfl Mode.pure 15 zh5 [.cell 6 12 true]:=fun L a h=>zad h L rfl rfl a
@[simp] theorem zxQ:zac ctx zfl=true:=rfl
theorem znf:zar zeD Mode.pure 24 zgW [.tmp 0]:=fun L a h=>zad h L rfl rfl a
@[simp] theorem zxv:zac ctx zeD=true:=rfl
theorem zng:zar zeE Mode.pure 10 zgV [.cell 2 12 true]:=fun L a h=>zad h L rfl rfl a
@[simp] theorem zxw:zac ctx zeE=true:=rfl
theorem zs2:zar zjI Mode.pure 3 znI [.cell 0 12 true]:=fun L a h=>zad h L rfl rfl a
@[simp] theorem zCc:zac ctx zjI=true:=rfl
theorem zmn:zar zcL Mode.pure 51 zf0 [.tmp 4,.tmp 5]:=fun L a h=>zad h L rfl rfl a
@[simp] theorem zv2:zac ctx zcL=true:=rfl
@[simp] theorem zv3:zac ctx zi8=true:=rfl
@[simp] theorem zxx:zac ctx zkq=true:=rfl
@[simp] theorem zv4:zac ctx zi9=true:=rfl
@[simp] theorem zuC:zac ctx zhI=true:=rfl
@[simp] theorem zsR:zac ctx zfI=true:=rfl
theorem zi2:zar zcq Mode.pure 19 zdE [.tmp 4]:=fun L a h=>zad h L rfl rfl a
@[simp] theorem zs4:zac ctx zcq=true:=rfl
theorem zjO:zar zcH Mode.pure 45 zef [.cell 2 25 true]:=fun L a h=>zad h L rfl rfl a
@[simp] theorem ztG:zac ctx zcH=true:=rfl
theorem zjP:zar zcI Mode.pure 42 zeg [.cell 2 25 true]:=fun L a h=>zad h L rfl rfl a
@[simp] theorem ztH:zac ctx zcI=true:=rfl
theorem zlb:zar zdl Mode.pure 36 zfu [.cell 2 25 true]:=fun L a h=>zad h L rfl rfl a
@[simp] theorem zvJ:zac ctx zdl=true:=rfl
theorem zmp:zar zdU Mode.pure 12 zf2 [.tmp 2]:=fun L a h=>zad h L rfl rfl a
@[simp] theorem zv7:zac ctx zdU=true:=rfl
theorem zfH:zar zbt (⟨true,false,false,false⟩) 31 zb7 [.tmp 6]:=fun L a h=>zad h L rfl rfl a
@[simp] theorem zuE:zac ctx zbt=true:=rfl
theorem zs6:zar zhK Mode.pure 13 znK [.tmp 2]:=fun L a h=>zad h L rfl rfl a
@[simp] theorem zCi:zac ctx zhK=true:=rfl
theorem zrL:zar zgn Mode.pure 2 zlC [.cell 0 12 true]:=fun L a h=>zad h L rfl rfl a
@[simp] theorem zBr:zac ctx zgn=true:=rfl
theorem zuF:zar zjd (⟨true,false,false,false⟩) 27 zpR [.tmp 4]:=fun L a h=>zad h L rfl rfl a
@[simp] theorem zER:zac ctx zjd=true:=rfl
theorem zjR:zar zbK (⟨true,false,false,false⟩) 8 zeh [.tmp 2]:=fun L a h=>zad h L rfl rfl a
@[simp] theorem ztJ:zac ctx zbK=true:=rfl
theorem zv8:zar zoi Mode.pure 13 zsg [.cell 6 12 true]:=fun L a h=>zad h L rfl rfl a
@[simp] theorem zFr:zac ctx zoi=true:=rfl
theorem zle:zar zbk (⟨true,false,false,false⟩) 64 zfv [.tmp 6]:=fun L a h=>zad h L rfl rfl a
@[simp] theorem zvK:zac ctx zbk=true:=rfl
@[simp] theorem zxy:zac ctx zks=true:=rfl
theorem zhF:zar zbd Mode.pure 17 zcP [.tmp 4]:=fun L a h=>zad h L rfl rfl a
@[simp] theorem zqX:zac ctx zbd=true:=rfl
theorem zuJ:zar zmc (⟨true,false,false,false⟩) 11 zpU [.tmp 4,.tmp 5]:=fun L a h=>zad h L rfl rfl a
@[simp] theorem zES:zac ctx zmc=true:=rfl
theorem zkL:zar zc3 Mode.pure 20 zb8 [.tmp 4]:=fun L a h=>zad h L rfl rfl a
@[simp] theorem zuK:zac ctx zc3=true:=rfl
theorem zwb:zar zhL (⟨true,false,false,false⟩) 13 zoO [.tmp 4]:=fun L a h=>zad h L rfl rfl a
@[simp] theorem zFt:zac ctx zhL=true:=rfl
theorem zi6:zar zaG (⟨true,false,false,false⟩) 151 zdG [.tmp 6]:=fun L a h=>zad h L rfl rfl a
@[simp] theorem zta:zac ctx zaG=true:=rfl
theorem ztb:zar zjY (⟨true,false,false,false⟩) 40 zm5 [.tmp 6,.tmp 7]:=fun L a h=>zad h L rfl rfl a
@[simp] theorem zCq:zac ctx zjY=true:=rfl
theorem zms:zar zcO Mode.pure 6 zfP [.tmp 2]:=fun L a h=>zad h L rfl rfl a
@[simp] theorem zwd:zac ctx zcO=true:=rfl
theorem ztc:zar zfX Mode.pure 38 zm6 [.tmp 8,.tmp 9]:=fun L a h=>zad h L rfl rfl a
@[simp] theorem zCt:zac ctx zfX=true:=rfl
theorem zgq:zar zaO (⟨false,false,false,false⟩) 22 zb0 []:=fun L a h=>zad h L rfl rfl a
@[simp] theorem zpz:zac ctx zaO=false:=rfl
theorem zgr:zar zaF (⟨false,false,false,false⟩) 23 zb1 []:=fun L a h=>zad h L rfl rfl a
@[simp] theorem zpA:zac ctx zaF=false:=rfl
theorem zgN:zar zaZ (⟨false,false,false,false⟩) 9 zcg [.tmp 4]:=fun L a h=>zad h L rfl rfl a
@[simp] theorem zqd:zac ctx zaZ=false:=rfl
theorem zgs:zar zaP (⟨false,false,false,false⟩) 19 zb2 [.tmp 4,.tmp 5]:=fun L a h=>zad h L rfl rfl a
@[simp] theorem zpC:zac ctx zaP=false:=rfl
theorem zhj:zar za7 (⟨false,false,false,false⟩) 9 zcC []:=fun L a h=>zad h L rfl rfl a
@[simp] theorem zqF:zac ctx za7=false:=rfl
theorem zgt:zar zaQ (⟨false,false,false,false⟩) 47 zb3 [.tmp 4]:=fun L a h=>zad h L rfl rfl a
@[simp] theorem zpD:zac ctx zaQ=false:=rfl
theorem zot:zar zfq (⟨false,false,false,false⟩) 36 zhv [.tmp 4,.tmp 5,.tmp 6]:=fun L a h=>zad h L rfl rfl a
@[simp] theorem zx9:zac ctx zfq=false:=rfl
theorem zgO:zar za0 (⟨false,false,false,false⟩) 8 zch [.cell 2 32 true]:=fun L a h=>zad h L rfl rfl a
@[simp] theorem zqe:zac ctx za0=false:=rfl
theorem zgP:zar zbr (⟨false,false,false,false⟩) 48 zci []:=fun L a h=>zad h L rfl rfl a
@[simp] theorem zqf:zac ctx zbr=false:=rfl
theorem znw:zar zeH Mode.pure 33 zda [.tmp 2]:=fun L a h=>zad h L rfl rfl a
@[simp] theorem zxE:zac ctx zeH=true:=rfl
theorem zpF:zar zf9 (⟨false,false,false,false⟩) 27 ziD [.cell 2 4 true,.tmp 3,.tmp 4]:=fun L a h=>zad h L rfl rfl a
@[simp] theorem zzg:zac ctx zf9=false:=rfl
theorem zmv:zar zdV Mode.pure 41 zbT [.tmp 2]:=fun L a h=>zad h L rfl rfl a
@[simp] theorem zwt:zac ctx zdV=true:=rfl
theorem zqH:zar zhh Mode.pure 8 zjE [.cell 2 32 true]:=fun L a h=>zad h L rfl rfl a
@[simp] theorem zAq:zac ctx zhh=true:=rfl
@[simp] theorem zvO:zac ctx ziy=true:=rfl
theorem ziK:zar zbs (⟨false,false,false,false⟩) 20 zdh []:=fun L a h=>zad h L rfl rfl a
@[simp] theorem zsT:zac ctx zbs=false:=rfl
theorem zkT:zar zb9 Mode.pure 3 zeN [.tmp 2]:=fun L a h=>zad h L rfl rfl a
@[simp] theorem zuZ:zac ctx zb9=true:=rfl
theorem zj4:zar zbM Mode.pure 3 zeb [.tmp 2]:=fun L a h=>zad h L rfl rfl a
@[simp] theorem ztZ:zac ctx zbM=true:=rfl
theorem znB:zar zeL Mode.pure 12 zgJ [.cell 2 25 true,.tmp 3]:=fun L a h=>zad h L rfl rfl a
@[simp] theorem zxF:zac ctx zeL=true:=rfl
@[simp] theorem zsU:zac ctx zcd=true:=rfl
@[simp] theorem zu1:zac ctx zc5=true:=rfl
@[simp] theorem zu3:zac ctx zhZ=true:=rfl
end Go.Av
