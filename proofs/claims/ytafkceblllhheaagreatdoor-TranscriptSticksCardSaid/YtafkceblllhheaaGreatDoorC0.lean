/- The functions of the program as the machine's code, printed by a program of mine. -/
import Derived.Test.YtafkceblllhheaaGreatDoorV6
set_option maxRecDepth 100000
namespace Go.Av
abbrev Mv (a b:Nat):AI:=iv a (.mv (.t b))
abbrev Ld (a b:Nat):AI:=ir a (.ld 1 false (.t b))
abbrev Nk (a b:Nat):AI:=iv a (.nck (.t b))
abbrev Fa (a o b:Nat):AI:=iv a (.fadr o (.t b))
abbrev Ex (a b i:Nat):AI:=iv a (.ext (.t b) i)
abbrev Bt (a:Nat) (o:BinOp) (b c:Nat):AI:=iv a (.bin o (.t b) (.t c))
abbrev Bi (a:Nat) (o:BinOp) (b:Nat) (n:Int):AI:=iv a (.bin o (.t b) (.k (.int .i64 n)))
abbrev Ia (a b c:Nat):AI:=iv a (.iadr none 1 (.t b) (.t c))
abbrev Sx (a b:Nat):AI:=jc (.st 1 (.t a) (.t b))
abbrev Dv (a:Nat) (o:VOp) (u:List Nat):AI:=⟨some a,.v o,none,u,0,0⟩
abbrev Dr (a:Nat) (o:ROp) (u:List Nat) (l h:Nat):AI:=⟨some a,.r o,none,u,l,h⟩
abbrev Dc (a:Nat) (o:COp) (u:List Nat):AI:=⟨some a,.c o,none,u,0,0⟩
abbrev Dn (o:COp) (u:List Nat):AI:=⟨none,.c o,none,u,0,0⟩
abbrev Gv (a:Nat) (o:VOp) (g:Nat) (w:Bool) (u:List Nat):AI:=⟨some a,.v o,some (g,w),u,0,0⟩
abbrev Gr (a:Nat) (o:ROp) (g:Nat) (w:Bool) (u:List Nat) (l h:Nat):AI:=⟨some a,.r o,some (g,w),u,l,h⟩
abbrev Gc (a:Nat) (o:COp) (g:Nat) (w:Bool) (u:List Nat):AI:=⟨some a,.c o,some (g,w),u,0,0⟩
abbrev Dm (a b:Nat):AI:=⟨some a,.v (.mv (.t b)),none,[b],0,0⟩
abbrev Gm (a b g:Nat) (w:Bool):AI:=⟨some a,.v (.mv (.t b)),some (g,w),[b,g],0,0⟩
def zxG:FuncId:=1
def za7:FuncId:=6
def zbL:FuncId:=9
def zcn:FuncId:=11
def zeK:FuncId:=13
def zaH:FuncId:=15
def za8:FuncId:=17
def zaM:FuncId:=19
def zhk:FuncId:=20
def zbu:FuncId:=21
def zeL:FuncId:=22
def zaV:FuncId:=24
def zaW:FuncId:=25
def zfm:FuncId:=26
def zcs:FuncId:=28
def zaB:FuncId:=29
def zbc:FuncId:=30
def zcS:FuncId:=31
def zaz:FuncId:=33
def zax:FuncId:=34
def zjO:FuncId:=36
def zom:FuncId:=37
def zb3:FuncId:=38
def zmT:FuncId:=39
def zaQ:FuncId:=43
def za0:FuncId:=44
def za9:FuncId:=45
def zcK:FuncId:=47
def zeN:FuncId:=48
def zfn:FuncId:=49
def zfo:FuncId:=50
def zaI:FuncId:=51
def zdZ:FuncId:=52
def zgc:FuncId:=53
def zcu:FuncId:=54
def zgo:FuncId:=55
def zdj:FuncId:=60
def zaw:FuncId:=61
def zew:FuncId:=62
def zfq:FuncId:=64
def zc8:FuncId:=65
def zgq:FuncId:=66
def zbo:FuncId:=67
def ze6:FuncId:=68
def zi8:FuncId:=69
def zot:FuncId:=70
def zbM:FuncId:=74
def zeO:FuncId:=75
def zdA:FuncId:=76
def zhp:FuncId:=77
def zbW:FuncId:=78
def zcT:FuncId:=79
def zhq:FuncId:=93
def zdq:FuncId:=94
def zdF:FuncId:=95
def zhr:FuncId:=96
def zhs:FuncId:=97
def zdb:FuncId:=98
def zcV:FuncId:=99
def zez:FuncId:=100
def zmU:FuncId:=101
def zkt:FuncId:=102
def zis:FuncId:=108
def zbD:FuncId:=109
def zdH:FuncId:=110
def zeA:FuncId:=111
def zbR:FuncId:=112
def zd5:FuncId:=113
def zfu:FuncId:=114
def ze9:FuncId:=115
def zaN:FuncId:=116
def zd6:FuncId:=117
def zj2:FuncId:=140
def zbX:FuncId:=141
def zbY:FuncId:=142
def ziu:FuncId:=143
def za6:FuncId:=144
def zcv:FuncId:=145
def zbS:FuncId:=146
def zcw:FuncId:=147
def zbg:FuncId:=148
def zba:FuncId:=149
def zbN:FuncId:=150
def zji:FuncId:=151
def zbB:FuncId:=152
def zcx:FuncId:=158
def zbZ:FuncId:=159
def zgy:FuncId:=160
def zcM:FuncId:=161
def zhB:FuncId:=166
def zgf:FuncId:=167
def zgg:FuncId:=168
def ze0:FuncId:=176
def zij:FuncId:=180
def zeE:FuncId:=181
def zfg:FuncId:=182
def zeF:FuncId:=183
def zeG:FuncId:=184
def zjz:FuncId:=185
def zcH:FuncId:=186
def zaT:FuncId:=187
def zbG:FuncId:=188
def zfT:FuncId:=189
def zgh:FuncId:=195
def zhC:FuncId:=196
def zhD:FuncId:=197
def zhE:FuncId:=204
def zgj:FuncId:=205
def ziR:FuncId:=206
def zbI:FuncId:=207
def znZ:FuncId:=208
def zbm:FuncId:=209
def zcI:FuncId:=210
def zcJ:FuncId:=211
def zdo:FuncId:=212
def zdT:FuncId:=213
def zbw:FuncId:=214
def zdU:FuncId:=215
def ziS:FuncId:=220
def zkh:FuncId:=221
def ziT:FuncId:=222
def zhF:FuncId:=223
def zfK:FuncId:=224
def zc5:FuncId:=230
def zhH:FuncId:=231
def zaL:FuncId:=232
def zbf:FuncId:=233
def zl3:FuncId:=234
def zki:FuncId:=235
def zcN:FuncId:=240
def zfW:FuncId:=241
def zjH:FuncId:=242
def za4:FuncId:=260
def zaU:FuncId:=261
def zbb:FuncId:=262
def za5:FuncId:=263
def zin:FuncId:=275
def zbv:FuncId:=282
def zb2:FuncId:=283
def zbJ:FuncId:=284
def zeI:FuncId:=285
def zcd:FuncId:=297
def zc7:FuncId:=298
def zhK:FuncId:=313
def zIK:ByteArray:=⟨#[0,1,2,2,3,3,3,3,4,4,4,4,4,4,4,4,5,5,5,5,5,5,5,5,5,5,5,5,5,5,5,5,6,6,6,6,6,6,6,6,6,6,6,6,6,6,6,6,6,6,6,6,6,6,6,6,6,6,6,6,6,6,6,6,7,7,7,7,7,7,7,7,7,7,7,7,7,7,7,7,7,7,7,7,7,7,7,7,7,7,7,7,7,7,7,7,7,7,7,7,7,7,7,7,7,7,7,7,7,7,7,7,7,7,7,7,7,7,7,7,7,7,7,7,7,7,7,7,8,8,8,8,8,8,8,8,8,8,8,8,8,8,8,8,8,8,8,8,8,8,8,8,8,8,8,8,8,8,8,8,8,8,8,8,8,8,8,8,8,8,8,8,8,8,8,8,8,8,8,8,8,8,8,8,8,8,8,8,8,8,8,8,8,8,8,8,8,8,8,8,8,8,8,8,8,8,8,8,8,8,8,8,8,8,8,8,8,8,8,8,8,8,8,8,8,8,8,8,8,8,8,8,8,8,8,8,8,8,8,8,8,8,8,8,8,8,8,8,8,8,8,8,8,8,8,8]⟩
def zqK:AC:=.reg [ir 0 (.call zxG [])]
def zku:AFn:=⟨1,zqK,[],none⟩
def zak:AC:=.seq (.reg [Bt 43 .lss 42 41]) (.seq (.cond (.t 43) (.skip) (.exit 0)) (.seq (.blk 1 (.seq (.reg [iv 44 (.iadr none 4 (.t 40) (.t 42)),ir 45 (.ld 4 true (.t 44)),ic 9 (.alloc [.int .i64 0,.int .i64 0,.int .i64 0,.nsl]),jc (.st 4 (.t 9) (.t 45))]) (.seq (.reg [Mv 46 5,ic 47 (.call zaH [.t 46]),Mv 48 5,ir 49 (.call zaB [.t 48]),Mv 50 5,ir 51 (.call zaM [.t 50]),Mv 10 47,Mv 11 49,Mv 12 51]) (.seq (.reg [iv 13 (.mv (.k (.int .i64 0))),iv 14 (.mv (.k (.nsl)))]) (.seq (.seq (.reg [Fa 52 0 9,Ld 53 52,Bi 54 .lss 53 0,Mv 55 54,Gv 56 (.fadr 0 (.t 9)) 55 false [],Gr 57 (.ld 1 false (.t 56)) 55 false [] 0 0,Gv 58 (.bin .gtr (.t 57) (.k (.int .i64 3))) 55 false [],iv 59 (.pick (.t 55) (.k (.bool true)) (.t 58))]) (.cond (.t 59) (.reg [Mv 60 5,ic 61 (.call za8 [.t 60]),Mv 13 61]) (.reg [Mv 63 5,ir 64 (.ld 4 true (.t 9)),ic 65 (.call zeK [.t 63,.t 64]),Mv 62 65,Ex 66 62 0,Ex 67 62 1,Mv 13 66,Mv 14 67]))) (.seq (.reg [Mv 68 10,Bi 69 .neq 68 0,Mv 70 69,Gv 71 (.mv (.t 13)) 70 true [],Gv 72 (.mv (.t 10)) 70 true [],Gv 73 (.bin .neq (.t 71) (.t 72)) 70 true [],Gv 74 (.mv (.t 73)) 70 true [],Gv 75 (.mv (.t 14)) 74 false [],Gv 76 (.lenL (.t 75)) 74 false [],Gv 77 (.bin .neq (.t 76) (.k (.int .i64 0))) 74 false [],Gv 78 (.pick (.t 74) (.k (.bool true)) (.t 77)) 70 true [],Gv 79 (.mv (.t 78)) 70 true [],Gv 80 (.mv (.t 5)) 79 false [],Gr 81 (.call zaB [.t 80]) 79 false [] 0 0,Gv 82 (.mv (.t 11)) 79 false [],Gv 83 (.bin .neq (.t 81) (.t 82)) 79 false [],Gv 84 (.pick (.t 79) (.k (.bool true)) (.t 83)) 70 true [],Gv 85 (.mv (.t 84)) 70 true [],Gv 86 (.mv (.t 5)) 85 false [],Gr 87 (.call zaM [.t 86]) 85 false [] 0 0,Gv 88 (.mv (.t 12)) 85 false [],Gv 89 (.bin .neq (.t 87) (.t 88)) 85 false [],Gv 90 (.pick (.t 85) (.k (.bool true)) (.t 89)) 70 true [],iv 91 (.pick (.t 70) (.t 90) (.k (.bool false))),Mv 92 91,Gv 93 (.mv (.t 5)) 92 false [],Gc 94 (.call zaH [.t 93]) 92 false [],Gv 95 (.mv (.t 13)) 92 false [],Gv 96 (.bin .neq (.t 94) (.t 95)) 92 false [],iv 97 (.pick (.t 92) (.k (.bool true)) (.t 96))]) (.cond (.t 97) (.seq (.reg [iv 4 (.mv (.k (.bool false)))]) (.ret)) (.skip)))))))) (.reg [Bi 98 .add 42 1,Mv 42 98])))
def zaA:AC:=.seq (.reg [iv 4 (.mv (.k (.bool false)))]) (.seq (.seq (.reg [ir 15 (.call zbL []),iv 16 (.un .not (.t 15)),Mv 17 16,Gv 18 (.mv (.t 0)) 17 false [],Gv 19 (.lenL (.t 18)) 17 false [],Gv 20 (.bin .gtr (.t 19) (.k (.int .i64 1000))) 17 false [],iv 21 (.pick (.t 17) (.k (.bool true)) (.t 20)),Mv 22 21,Gv 23 (.mv (.t 1)) 22 false [],Gr 24 (.call zcS [.t 23,.k (.int .i64 20)]) 22 false [] 0 0,Gv 25 (.un .not (.t 24)) 22 false [],iv 26 (.pick (.t 22) (.k (.bool true)) (.t 25))]) (.cond (.t 26) (.seq (.reg [ir 27 (.call zbL []),Mv 4 27]) (.ret)) (.skip))) (.seq (.reg [Mv 29 0,ic 30 (.call zcn [.k (.int .i64 1),.t 29]),Mv 28 30,Ex 31 28 0,Ex 32 28 1,Ex 33 28 2,Mv 5 31,Mv 6 32,Mv 7 33]) (.seq (.seq (.reg [Mv 34 7,Bi 35 .neq 34 0]) (.cond (.t 35) (.seq (.reg [Mv 36 5,iv 37 (.eq .ptr false (.t 36) (.k (.nilp))),Mv 4 37]) (.ret)) (.skip))) (.seq (.seq (.reg [Mv 38 5,iv 39 (.eq .ptr false (.t 38) (.k (.nilp)))]) (.cond (.t 39) (.seq (.reg [iv 4 (.mv (.k (.bool false)))]) (.ret)) (.skip))) (.seq (.seq (.reg [Mv 40 1,iv 41 (.lenL (.t 40)),iv 42 (.mv (.k (.int .i64 0)))]) (.blk 0 (.loop zak))) (.seq (.reg [iv 4 (.mv (.k (.bool true)))]) (.ret)))))))
def zc2:AFn:=⟨99,zaA,[.tmp 4],none⟩
def zel:AC:=.seq (.reg [iv 0 (.mv (.k (.bool false)))]) (.seq (.reg [iv 10 (.slit 1 16 [.int .u8 0] [(0,.k (.int .u8 1)),(1,.k (.int .u8 1)),(2,.k (.int .u8 1)),(3,.k (.int .u8 0)),(4,.k (.int .u8 0)),(5,.k (.int .u8 0)),(6,.k (.int .u8 0)),(7,.k (.int .u8 0)),(8,.k (.int .u8 2)),(9,.k (.int .u8 1)),(10,.k (.int .u8 32)),(11,.k (.int .u8 0)),(12,.k (.int .u8 0)),(13,.k (.int .u8 0)),(14,.k (.int .u8 0)),(15,.k (.int .u8 0))]),Mv 1 10]) (.seq (.reg [Mv 12 1,ic 13 (.call zcn [.k (.int .i64 1),.t 12]),Mv 11 13,Ex 14 11 0,Ex 15 11 1,Ex 16 11 2,Mv 2 14,Mv 3 15,Mv 4 16]) (.seq (.reg [Mv 18 1,ic 19 (.call zcn [.k (.int .i64 1),.t 18]),Mv 17 19,Ex 20 17 0,Ex 21 17 1,Ex 22 17 2,Mv 5 20,Mv 6 21,Mv 7 22]) (.seq (.seq (.reg [Mv 23 4,Bi 24 .neq 23 0,Mv 25 24,Gv 26 (.mv (.t 7)) 25 false [],Gv 27 (.bin .neq (.t 26) (.k (.int .i64 0))) 25 false [],iv 28 (.pick (.t 25) (.k (.bool true)) (.t 27)),Mv 29 28,Gv 30 (.mv (.t 2)) 29 false [],Gv 31 (.eq .ptr false (.t 30) (.k (.nilp))) 29 false [],iv 32 (.pick (.t 29) (.k (.bool true)) (.t 31)),Mv 33 32,Gv 34 (.mv (.t 5)) 33 false [],Gv 35 (.eq .ptr false (.t 34) (.k (.nilp))) 33 false [],iv 36 (.pick (.t 33) (.k (.bool true)) (.t 35)),Mv 37 36,Gv 38 (.mv (.t 2)) 37 false [],Gv 39 (.slit 1 1 [.int .u8 0] [(0,.k (.int .u8 1))]) 37 false [],Gc 40 (.call zaz [.t 38,.k (.int .i64 1),.t 39]) 37 false [],Gv 41 (.bin .neq (.t 40) (.k (.int .i64 0))) 37 false [],iv 42 (.pick (.t 37) (.k (.bool true)) (.t 41)),Mv 43 42,Gv 44 (.mv (.t 5)) 43 false [],Gv 45 (.slit 1 1 [.int .u8 0] [(0,.k (.int .u8 2))]) 43 false [],Gc 46 (.call zaz [.t 44,.k (.int .i64 1),.t 45]) 43 false [],Gv 47 (.bin .neq (.t 46) (.k (.int .i64 0))) 43 false [],iv 48 (.pick (.t 43) (.k (.bool true)) (.t 47))]) (.cond (.t 48) (.seq (.reg [iv 0 (.mv (.k (.bool false)))]) (.ret)) (.skip))) (.seq (.reg [Mv 50 2,ic 51 (.call zax [.t 50,.k (.int .i64 32)]),Mv 49 51,Ex 52 49 0,Ex 53 49 1,Mv 8 52,Mv 4 53]) (.seq (.reg [Mv 55 5,ic 56 (.call zax [.t 55,.k (.int .i64 32)]),Mv 54 56,Ex 57 54 0,Ex 58 54 1,Mv 9 57,Mv 7 58]) (.seq (.reg [Mv 59 4,Bi 60 .eql 59 0,Mv 61 60,Gv 62 (.mv (.t 7)) 61 true [],Gv 63 (.bin .eql (.t 62) (.k (.int .i64 0))) 61 true [],iv 64 (.pick (.t 61) (.t 63) (.k (.bool false))),Mv 65 64,Gv 66 (.mv (.t 8)) 65 true [],Gv 67 (.lenL (.t 66)) 65 true [],Gv 68 (.bin .eql (.t 67) (.k (.int .i64 32))) 65 true [],iv 69 (.pick (.t 65) (.t 68) (.k (.bool false))),Mv 70 69,Gv 71 (.mv (.t 9)) 70 true [],Gv 72 (.lenL (.t 71)) 70 true [],Gv 73 (.bin .eql (.t 72) (.k (.int .i64 32))) 70 true [],iv 74 (.pick (.t 70) (.t 73) (.k (.bool false))),Mv 75 74,Gv 76 (.mv (.t 8)) 75 true [],Gr 77 (.b2s (.t 76)) 75 true [] 0 0,Gv 78 (.mv (.t 9)) 75 true [],Gr 79 (.b2s (.t 78)) 75 true [] 0 0,Gv 80 (.bin .neq (.t 77) (.t 79)) 75 true [],iv 81 (.pick (.t 75) (.t 80) (.k (.bool false))),Mv 0 81]) (.ret))))))))
def zg9:AFn:=⟨82,zel,[.tmp 0],none⟩
def zeP:AC:=.seq (.reg [iv 4 (.mv (.k (.nilp))),iv 5 (.mv (.k (.int .i64 0))),iv 6 (.mv (.k (.int .i64 0)))]) (.seq (.seq (.reg [Mv 11 0,Bi 12 .neq 11 1,Mv 13 12,Gv 14 (.mv (.t 0)) 13 true [],Gv 15 (.bin .neq (.t 14) (.k (.int .i64 2))) 13 true [],iv 16 (.pick (.t 13) (.t 15) (.k (.bool false)))]) (.cond (.t 16) (.seq (.reg [iv 4 (.mv (.k (.nilp))),iv 5 (.mv (.k (.int .i64 (-1)))),iv 6 (.mv (.k (.int .i64 15)))]) (.ret)) (.skip))) (.seq (.reg [Mv 18 1,ic 19 (.call zjO [.t 18]),Mv 17 19,Ex 20 17 0,Ex 21 17 1,Ex 22 17 2,Mv 7 20,Mv 8 21,Mv 9 22]) (.seq (.seq (.reg [Mv 23 9,Bi 24 .neq 23 0]) (.cond (.t 24) (.seq (.reg [Mv 25 8,Mv 26 9,iv 4 (.mv (.k (.nilp))),Mv 5 25,Mv 6 26]) (.ret)) (.skip))) (.seq (.reg [Mv 27 7,iv 28 (.build [.nilp,.int .u8 0,.int .u8 0,.int .u8 0,.int .u8 0,.int .u8 0,.int .u8 0,.int .u8 0,.int .u8 0,.int .u8 0,.int .u8 0,.int .u8 0,.int .u8 0,.int .u8 0,.int .u8 0,.int .u8 0,.int .u8 0,.int .u8 0,.int .u8 0,.int .u8 0,.int .u8 0,.int .u8 0,.int .u8 0,.int .u8 0,.int .u8 0,.int .u8 0,.int .u8 0,.int .u8 0,.int .u8 0,.int .u8 0,.int .u8 0,.int .u8 0,.int .u8 0,.nif] [(0,1,.t 27)]),ic 29 (.box (.t 28)),Mv 10 29]) (.seq (.reg [Mv 31 10,Mv 32 0,Mv 33 7,ir 34 (.call zb3 [.t 33]),ir 35 (.call zom [.t 32,.t 34]),Mv 30 35,Ex 36 30 0,Ex 37 30 1,Ex 38 30 2,Nk 39 31,Fa 40 1 39,jc (.st 32 (.t 40) (.t 36))]) (.seq (.reg [Mv 41 10,Mv 42 10,Nk 43 42,Fa 44 1 43,ir 45 (.ld 32 true (.t 44)),ic 46 (.call zhk [.t 45]),iv 47 (.build [.nilp] [(0,1,.t 46)]),iv 48 (.mkif 84 (.t 47)),Nk 49 41,Fa 50 33 49,Sx 50 48]) (.seq (.seq (.reg [Mv 51 0,Bi 52 .eql 51 2]) (.cond (.t 52) (.reg [Mv 53 10,Mv 54 10,Nk 55 54,Fa 56 1 55,ir 57 (.ld 32 true (.t 56)),ic 58 (.call zmT [.t 57]),iv 59 (.build [.nilp] [(0,1,.t 58)]),iv 60 (.mkif 88 (.t 59)),Nk 61 53,Fa 62 33 61,Sx 62 60]) (.skip))) (.seq (.reg [Mv 63 10,Mv 4 63,iv 5 (.mv (.k (.int .i64 (-1)))),iv 6 (.mv (.k (.int .i64 0)))]) (.ret)))))))))
def zkv:AFn:=⟨64,zeP,[.tmp 4,.tmp 5,.tmp 6],none⟩
def zd4:AC:=.seq (.reg [Bt 45 .lss 44 43]) (.seq (.cond (.t 45) (.skip) (.exit 1)) (.seq (.blk 2 (.seq (.reg [iv 46 (.iadr none 4 (.t 42) (.t 44)),ir 47 (.ld 4 true (.t 46)),ic 10 (.alloc (zaS (.int .u64 0) 4)),jc (.st 4 (.t 10) (.t 47))]) (.seq (.reg [ir 48 (.ld 4 true (.t 10)),ir 49 (.call zcs [.t 48]),ic 11 (.alloc (zaS (.int .u8 0) 32)),jc (.st 32 (.t 11) (.t 49))]) (.reg [Mv 50 7,iv 51 (.slice (.arr 32) 1 (.t 11) none none none),ic 52 (.app 1 false (.t 50) (.t 51)),Mv 7 52])))) (.reg [Bi 53 .add 44 1,Mv 44 53])))
def zcp:AC:=.seq (.reg [iv 3 (.boxv (.t 1)),iv 4 (.mv (.k (.int .i64 0))),iv 5 (.mv (.k (.nsl)))]) (.seq (.reg [iv 6 (.mv (.k (.nsl)))]) (.seq (.reg [iv 7 (.mv (.k (.nsl)))]) (.seq (.reg [iv 8 (.mv (.k (.int .i64 0)))]) (.seq (.seq (.reg [Fa 12 0 3,Ld 13 12]) (.blk 0 (.seq (.reg [Bi 17 .eql 13 0,Mv 16 17]) (.cond (.t 16) (.seq (.reg [Mv 18 0,Fa 19 1 3,Ld 20 19,Fa 21 3 3,Ld 22 21,ic 23 (.call zaz [.t 18,.t 20,.t 22]),Mv 4 23,iv 5 (.mv (.k (.nsl)))]) (.ret)) (.seq (.reg [Bi 25 .eql 13 1,Mv 24 25]) (.cond (.t 24) (.reg [Mv 27 0,Fa 28 2 3,Ld 29 28,ic 30 (.call zax [.t 27,.t 29]),Mv 26 30,Ex 31 26 0,Ex 32 26 1,Mv 7 31,Mv 8 32]) (.seq (.reg [Bi 34 .eql 13 2,Mv 33 34]) (.cond (.t 33) (.seq (.reg [Mv 36 0,Fa 37 2 3,Ld 38 37,ic 39 (.call zaQ [.t 36,.t 38]),Mv 35 39,Ex 40 35 0,Ex 41 35 1,Mv 6 40,Mv 8 41]) (.seq (.reg [Mv 42 6,iv 43 (.lenL (.t 42)),iv 44 (.mv (.k (.int .i64 0)))]) (.blk 1 (.loop zd4)))) (.seq (.reg [Mv 14 0,ic 15 (.call za0 [.t 14]),Mv 4 15,iv 5 (.mv (.k (.nsl)))]) (.ret)))))))))) (.seq (.reg [Mv 54 8,Mv 55 7,Mv 4 54,Mv 5 55]) (.ret))))))
def zkw:AFn:=⟨56,zcp,[.tmp 4,.tmp 5],none⟩
def zb6:AC:=.seq (.reg [iv 2 (.mv (.k (.int .i64 0)))]) (.seq (.reg [Mv 3 0,Nk 4 3,Fa 5 0 4,Ld 6 5,ic 7 (.call za9 [.t 6,.k (.int .i64 0)]),Mv 2 7]) (.ret))
def zdI:AFn:=⟨8,zb6,[.tmp 2],none⟩
def zbA:AC:=.seq (.reg [iv 2 (.mv (.k (.int .i64 0)))]) (.seq (.reg [Mv 3 0,Nk 4 3,Fa 5 0 4,Ld 6 5,ic 7 (.call zcK [.t 6]),Mv 2 7]) (.ret))
def zc3:AFn:=⟨8,zbA,[.tmp 2],none⟩
def zhX:AC:=.seq (.reg [ic 2 (.alloc (zaS (.int .u8 0) 32))]) (.seq (.reg [Mv 3 0,Nk 4 3,Fa 5 1 4,ir 6 (.ld 32 true (.t 5)),jc (.st 32 (.t 2) (.t 6))]) (.ret))
def zdJ:AFn:=⟨7,zhX,[.cell 2 32 true],none⟩
def zck:AC:=.seq (.reg [iv 2 (.mv (.k (.int .i64 0)))]) (.seq (.reg [Mv 3 0,Nk 4 3,Fa 5 0 4,Ld 6 5,ir 7 (.call zeN [.t 6]),Mv 2 7]) (.ret))
def zef:AFn:=⟨8,zck,[.tmp 2],none⟩
def zj1:AC:=.seq (.reg [iv 1 (.boxv (.t 0)),iv 2 (.mv (.k (.nilp)))]) (.seq (.draw [ir 3 (.call zfo []),Dv 4 (.slice (.arr 32) 1 (.t 1) none none none) [1],Dc 5 (.call zfn [.t 3,.t 4]) [3,4],Dm 2 5]) (.ret))
def zoQ:AFn:=⟨6,zj1,[.tmp 2],none⟩
def zaX:AC:=.seq (.reg [Bt 15 .lss 14 13]) (.seq (.cond (.t 15) (.skip) (.exit 0)) (.seq (.blk 1 (.seq (.reg [Ia 16 12 14,Ld 17 16,Mv 6 17]) (.seq (.seq (.reg [Mv 18 0,Nk 19 18,Fa 20 2 19,Ld 21 20,Mv 22 4,Bt 23 .eql 21 22]) (.cond (.t 23) (.reg [Mv 24 0,ic 25 (.call zaI [.t 24])]) (.skip))) (.seq (.draw [Dm 26 0,Dv 27 (.nck (.t 26)) [26],Dv 28 (.fadr 1 (.t 27)) [27],Dr 29 (.ld 1 false (.t 28)) [28] 0 0,Dm 30 0,Dv 31 (.nck (.t 30)) [30],Dv 32 (.fadr 2 (.t 31)) [31],Dr 33 (.ld 1 false (.t 32)) [32] 0 0,Dm 34 6,Dv 35 (.iadr none 1 (.t 29) (.t 33)) [29,33],Dn (.st 1 (.t 35) (.t 34)) [35,34]]) (.seq (.reg [Mv 36 0,Nk 37 36,Fa 38 2 37,Ld 39 38,Bi 40 .add 39 1,Nk 41 36,Fa 42 2 41,Sx 42 40]) (.reg [Mv 43 0,Mv 44 4,Nk 45 43,Fa 46 3 45,Sx 46 44])))))) (.reg [Bi 47 .add 14 1,Mv 14 47])))
def zcl:AC:=.seq (.reg [Mv 7 0,Nk 8 7,Fa 9 0 8,Ld 10 9,ir 11 (.inv (.t 10) "Rate" []),Mv 4 11]) (.seq (.reg [Mv 12 1,iv 13 (.lenL (.t 12)),iv 14 (.mv (.k (.int .i64 0)))]) (.blk 0 (.loop zaX)))
def zeg:AFn:=⟨48,zcl,[],none⟩
def zde:AC:=.seq (.reg [iv 1 (.boxv (.t 0)),iv 2 (.mv (.k (.nsl)))]) (.seq (.seq (.reg [ir 4 (.ld 4 true (.t 1)),ir 5 (.call zdZ [.t 4]),iv 6 (.un .not (.t 5))]) (.cond (.t 6) (.seq (.reg [iv 2 (.mv (.k (.nsl)))]) (.ret)) (.skip))) (.seq (.reg [Fa 7 0 1,Ld 8 7,iv 9 (.i2i .u8 (.t 8)),Fa 10 1 1,Ld 11 10,iv 12 (.i2i .u8 (.t 11)),Fa 13 2 1,Ld 14 13,iv 15 (.i2i .u8 (.t 14)),Fa 16 2 1,Ld 17 16,iv 18 (.bin .shr (.t 17) (.k (.int .u64 8))),iv 19 (.i2i .u8 (.t 18)),Fa 20 2 1,Ld 21 20,iv 22 (.bin .shr (.t 21) (.k (.int .u64 16))),iv 23 (.i2i .u8 (.t 22)),Fa 24 2 1,Ld 25 24,iv 26 (.bin .shr (.t 25) (.k (.int .u64 24))),iv 27 (.i2i .u8 (.t 26)),iv 28 (.slit 1 6 [.int .u8 0] [(0,.t 9),(1,.t 12),(2,.t 15),(3,.t 19),(4,.t 23),(5,.t 27)]),Mv 3 28]) (.seq (.reg [Mv 29 3,Fa 30 3 1,Ld 31 30,ic 32 (.app 1 false (.t 29) (.t 31)),Mv 2 32]) (.ret))))
def zkx:AFn:=⟨33,zde,[.tmp 2],none⟩
def zb7:AC:=.seq (.reg [Mv 2 0,ic 3 (.call zaI [.t 2])]) (.seq (.draw [Dm 4 0,Dv 5 (.nck (.t 4)) [4],Dv 6 (.fadr 1 (.t 5)) [5],Dr 7 (.ld 1 false (.t 6)) [6] 0 0,Dm 8 0,Dv 9 (.nck (.t 8)) [8],Dv 10 (.fadr 0 (.t 9)) [9],Dr 11 (.ld 1 false (.t 10)) [10] 0 0,Dr 12 (.inv (.t 11) "Rate" []) [11] 0 0,Dv 13 (.slice .slc 1 (.t 7) none (some (.t 12)) none) [7,12],Dn (.clear [.int .u8 0] (.t 13)) [13]]) (.reg [Mv 14 0,Mv 15 0,Nk 16 15,Fa 17 0 16,Ld 18 17,ir 19 (.inv (.t 18) "Rate" []),Nk 20 14,Fa 21 3 20,Sx 21 19]))
def zdK:AFn:=⟨22,zb7,[],none⟩
def zaR:AC:=.seq (.reg [Bt 9 .lss 8 7]) (.seq (.cond (.t 9) (.skip) (.exit 0)) (.seq (.blk 1 (.seq (.seq (.draw [Dm 10 0,Dv 11 (.nck (.t 10)) [10],Dv 12 (.fadr 3 (.t 11)) [11],Dr 13 (.ld 1 false (.t 12)) [12] 0 0,Dm 14 0,Dv 15 (.nck (.t 14)) [14],Dv 16 (.fadr 0 (.t 15)) [15],Dr 17 (.ld 1 false (.t 16)) [16] 0 0,Dr 18 (.inv (.t 17) "Rate" []) [17] 0 0,Dv 19 (.bin .eql (.t 13) (.t 18)) [13,18]]) (.cond (.t 19) (.seq (.reg [Mv 20 0,ic 21 (.call zaI [.t 20])]) (.reg [Mv 22 0,Nk 23 22,Fa 24 3 23,jc (.st 1 (.t 24) (.k (.int .i64 0)))])) (.skip))) (.seq (.draw [Dm 25 5,Dm 26 0,Dv 27 (.nck (.t 26)) [26],Dv 28 (.fadr 1 (.t 27)) [27],Dr 29 (.ld 1 false (.t 28)) [28] 0 0,Dm 30 0,Dv 31 (.nck (.t 30)) [30],Dv 32 (.fadr 3 (.t 31)) [31],Dr 33 (.ld 1 false (.t 32)) [32] 0 0,Dv 34 (.iadr none 1 (.t 29) (.t 33)) [29,33],Dr 35 (.ld 1 false (.t 34)) [34] 0 0,Dv 36 (.slit 1 1 [.int .u8 0] [(0,.t 35)]) [35],Dc 37 (.app 1 false (.t 25) (.t 36)) [25,36],Dm 5 37]) (.reg [Mv 38 0,Nk 39 38,Fa 40 3 39,Ld 41 40,Bi 42 .add 41 1,Nk 43 38,Fa 44 3 43,Sx 44 42])))) (.reg [Bi 45 .add 8 1,Mv 8 45])))
def zb8:AC:=.seq (.reg [iv 4 (.mv (.k (.nsl)))]) (.seq (.reg [iv 5 (.mv (.k (.nsl)))]) (.seq (.seq (.reg [Mv 6 1,iv 7 (.mxmn true [.t 6,.k (.int .i64 0)]),iv 8 (.mv (.k (.int .i64 0)))]) (.blk 0 (.loop zaR))) (.seq (.reg [Mv 46 5,Mv 4 46]) (.ret))))
def zdL:AFn:=⟨47,zb8,[.tmp 4],none⟩
def zdf:AC:=.seq (.reg [Bt 15 .lss 14 13]) (.seq (.cond (.t 15) (.skip) (.exit 0)) (.seq (.blk 1 (.seq (.reg [Mv 17 1,ic 18 (.call zgc [.t 17]),Mv 16 18,Ex 19 16 0,Ex 20 16 1,Ex 21 16 2,ic 9 (.alloc (zaS (.int .u64 0) 4)),jc (.st 4 (.t 9) (.t 19)),Mv 10 20,Mv 11 21]) (.seq (.reg [Mv 22 8,Mv 23 10,Bt 24 .add 22 23,Mv 8 24]) (.seq (.seq (.reg [Mv 25 11,Bi 26 .neq 25 0]) (.cond (.t 26) (.seq (.reg [Mv 27 8,Mv 28 11,iv 4 (.mv (.k (.nsl))),Mv 5 27,Mv 6 28]) (.ret)) (.skip))) (.reg [Mv 29 7,ir 30 (.ld 4 true (.t 9)),iv 31 (.slit 4 1 (zaS (.int .u64 0) 4) [(0,.t 30)]),ic 32 (.app 4 false (.t 29) (.t 31)),Mv 7 32]))))) (.reg [Bi 33 .add 14 1,Mv 14 33])))
def zhY:AC:=.seq (.reg [iv 4 (.mv (.k (.nsl))),iv 5 (.mv (.k (.int .i64 0))),iv 6 (.mv (.k (.int .i64 0)))]) (.seq (.reg [iv 7 (.mv (.k (.nsl)))]) (.seq (.reg [iv 8 (.mv (.k (.int .i64 0)))]) (.seq (.seq (.reg [Mv 12 0,iv 13 (.mxmn true [.t 12,.k (.int .i64 0)]),iv 14 (.mv (.k (.int .i64 0)))]) (.blk 0 (.loop zdf))) (.seq (.reg [Mv 34 7,Mv 35 8,Mv 4 34,Mv 5 35,iv 6 (.mv (.k (.int .i64 0)))]) (.ret)))))
def zlv:AFn:=⟨36,zhY,[.tmp 4,.tmp 5,.tmp 6],none⟩
def zdM:AC:=.seq (.reg [iv 1 (.boxv (.t 0)),ic 2 (.alloc (zaS (.int .u8 0) 32))]) (.seq (.reg [ir 4 (.ld 4 true (.t 1)),ir 5 (.call zcu [.t 4]),ic 3 (.alloc (zaS (.int .u64 0) 4)),jc (.st 4 (.t 3) (.t 5))]) (.seq (.reg [iv 6 (.slice (.arr 4) 1 (.t 3) none none none),ir 7 (.call zgo [.t 6]),iv 8 (.s2a 32 (.t 7)),ir 9 (.ld 32 true (.t 8)),jc (.st 32 (.t 2) (.t 9))]) (.ret)))
def zgw:AFn:=⟨10,zdM,[.cell 2 32 true],none⟩
def zbE:AC:=.seq (.reg [iv 2 (.mv (.k (.int .i64 0)))]) (.seq (.reg [Mv 3 0,Nk 4 3,Fa 5 33 4,Ld 6 5,ir 7 (.inv (.t 6) "Calls" []),Mv 2 7]) (.ret))
def zdg:AFn:=⟨8,zbE,[.tmp 2],none⟩
def zcD:AC:=.seq (.reg [iv 2 (.mv (.k (.int .i64 0)))]) (.seq (.reg [Mv 3 0,Nk 4 3,Fa 5 4 4,Ld 6 5,Mv 2 6]) (.ret))
def zeB:AFn:=⟨7,zcD,[.tmp 2],none⟩
def zbq:AC:=.seq (.reg [Bt 10 .lss 9 8]) (.seq (.cond (.t 10) (.skip) (.exit 0)) (.seq (.blk 1 (.seq (.reg [iv 11 (.iadr none 4 (.t 7) (.t 9)),ir 12 (.ld 4 true (.t 11)),ic 6 (.alloc [.int .i64 0,.int .i64 0,.int .i64 0,.nsl]),jc (.st 4 (.t 6) (.t 12))]) (.seq (.reg [Fa 13 3 6,Ld 14 13,iv 15 (.lenL (.t 14)),Bi 16 .gtr 15 400,Mv 17 16,Gv 18 (.fadr 2 (.t 6)) 17 false [],Gr 19 (.ld 1 false (.t 18)) 17 false [] 0 0,Gv 20 (.bin .gtr (.t 19) (.k (.int .i64 100))) 17 false [],Gv 21 (.mv (.t 20)) 17 false [],Gv 22 (.fadr 2 (.t 6)) 21 true [],Gr 23 (.ld 1 false (.t 22)) 21 true [] 0 0,Gv 24 (.bin .leq (.t 23) (.k (.int .i64 1048576))) 21 true [],Gv 25 (.pick (.t 21) (.t 24) (.k (.bool false))) 17 false [],iv 26 (.pick (.t 17) (.k (.bool true)) (.t 25))]) (.cond (.t 26) (.seq (.reg [iv 4 (.mv (.k (.bool false)))]) (.ret)) (.skip))))) (.reg [Bi 27 .add 9 1,Mv 9 27])))
def zd7:AC:=.seq (.reg [iv 4 (.mv (.k (.bool false)))]) (.seq (.seq (.reg [Mv 7 0,iv 8 (.lenL (.t 7)),iv 9 (.mv (.k (.int .i64 0)))]) (.blk 0 (.loop zbq))) (.seq (.reg [Mv 28 0,iv 29 (.lenL (.t 28)),Mv 30 1,Bt 31 .leq 29 30,Mv 4 31]) (.ret)))
def zjh:AFn:=⟨32,zd7,[.tmp 4],none⟩
def zat:AC:=.seq (.reg [iv 6 (.mv (.k (.int .i64 0)))]) (.seq (.seq (.reg [Mv 13 0,ic 14 (.call zaH [.t 13]),Mv 7 14]) (.seq (.reg [Mv 15 7,Bi 16 .neq 15 0]) (.cond (.t 16) (.seq (.reg [Mv 17 7,Mv 6 17]) (.ret)) (.skip)))) (.seq (.reg [Mv 19 1,Mv 20 2,ir 21 (.call zdj [.t 19,.t 20]),Mv 18 21,Ex 22 18 0,Ex 23 18 1,Mv 8 22,Mv 9 23]) (.seq (.seq (.reg [Mv 24 9,Bi 25 .neq 24 0]) (.cond (.t 25) (.seq (.reg [Mv 26 0,Nk 27 26,Fa 28 0 27,Ld 29 28,Mv 30 9,ic 31 (.call za9 [.t 29,.t 30]),Mv 6 31]) (.ret)) (.skip))) (.seq (.reg [Mv 32 1,Mv 33 8,Mv 34 2,iv 35 (.build [.int .i64 0,.int .i64 0,.int .i64 0,.nsl] [(0,1,.k (.int .i64 1)),(1,1,.t 32),(2,1,.t 33),(3,1,.t 34)]),ic 10 (.alloc [.int .i64 0,.int .i64 0,.int .i64 0,.nsl]),jc (.st 4 (.t 10) (.t 35))]) (.seq (.seq (.reg [Mv 36 0,ir 37 (.ld 4 true (.t 10)),ic 38 (.call zaw [.t 36,.t 37]),Mv 11 38]) (.seq (.reg [Mv 39 11,Bi 40 .neq 39 0]) (.cond (.t 40) (.seq (.reg [Mv 41 11,Mv 6 41]) (.ret)) (.skip)))) (.seq (.seq (.reg [Mv 42 1,Mv 43 2,ir 44 (.call zew [.t 42,.t 43]),Mv 12 44]) (.seq (.reg [Mv 45 12,Bi 46 .neq 45 0]) (.cond (.t 46) (.seq (.reg [Mv 47 0,Nk 48 47,Fa 49 0 48,Ld 50 49,Mv 51 12,ic 52 (.call za9 [.t 50,.t 51]),Mv 6 52]) (.ret)) (.skip)))) (.seq (.draw [Dm 53 0,Dv 54 (.nck (.t 53)) [53],Dv 55 (.fadr 33 (.t 54)) [54],Dr 56 (.ld 1 false (.t 55)) [55] 0 0,Dr 57 (.ld 4 true (.t 10)) [10] 0 0,Dc 58 (.inv (.t 56) "avouch/transcript.tell" [.t 57]) [56,57]]) (.seq (.reg [iv 6 (.mv (.k (.int .i64 0)))]) (.ret)))))))))
def zc4:AFn:=⟨59,zat,[.tmp 6],none⟩
def za2:AC:=.seq (.reg [iv 4 (.mv (.k (.nsl))),iv 5 (.mv (.k (.int .i64 0)))]) (.seq (.reg [Mv 8 1,iv 9 (.build [.int .i64 0,.int .i64 0,.int .i64 0,.nsl] [(0,1,.k (.int .i64 2)),(1,1,.k (.int .i64 1)),(2,1,.t 8)]),ic 6 (.alloc [.int .i64 0,.int .i64 0,.int .i64 0,.nsl]),jc (.st 4 (.t 6) (.t 9))]) (.seq (.seq (.reg [Mv 10 0,ir 11 (.ld 4 true (.t 6)),ic 12 (.call zaw [.t 10,.t 11]),Mv 7 12]) (.seq (.reg [Mv 13 7,Bi 14 .neq 13 0]) (.cond (.t 14) (.seq (.reg [Mv 15 7,iv 4 (.mv (.k (.nsl))),Mv 5 15]) (.ret)) (.skip)))) (.seq (.draw [Dm 16 0,Dv 17 (.nck (.t 16)) [16],Dv 18 (.fadr 33 (.t 17)) [17],Dr 19 (.ld 1 false (.t 18)) [18] 0 0,Dr 20 (.ld 4 true (.t 6)) [6] 0 0,Dc 21 (.inv (.t 19) "avouch/transcript.tell" [.t 20]) [19,20]]) (.seq (.reg [Mv 22 0,Nk 23 22,Fa 24 33 23,Ld 25 24,Mv 26 1,ic 27 (.inv (.t 25) "avouch/transcript.bytes" [.t 26]),Mv 4 27,iv 5 (.mv (.k (.int .i64 0)))]) (.ret)))))
def zcW:AFn:=⟨28,za2,[.tmp 4,.tmp 5],none⟩
def zj3:AC:=.seq (.reg [iv 2 (.mv (.k (.nilp))),iv 3 (.mv (.k (.int .i64 0))),iv 4 (.mv (.k (.int .i64 0)))]) (.seq (.reg [Mv 9 0,ir 10 (.call zfq [.t 9]),Mv 8 10,Ex 11 8 0,Ex 12 8 1,Ex 13 8 2,Mv 5 11,Mv 6 12,Mv 7 13]) (.seq (.seq (.reg [Mv 14 7,Bi 15 .neq 14 0]) (.cond (.t 15) (.seq (.reg [Mv 16 6,Mv 17 7,iv 2 (.mv (.k (.nilp))),Mv 3 16,Mv 4 17]) (.ret)) (.skip))) (.seq (.reg [Mv 18 5,iv 19 (.build [.nsl,.int .i64 0,.nilp] [(0,1,.t 18)]),ic 20 (.box (.t 19)),Mv 2 20,iv 3 (.mv (.k (.int .i64 (-1)))),iv 4 (.mv (.k (.int .i64 0)))]) (.ret))))
def zso:AFn:=⟨21,zj3,[.tmp 2,.tmp 3,.tmp 4],none⟩
def zhZ:AC:=.seq (.reg [ic 4 (.alloc (zaS (.int .u8 0) 32)),iv 5 (.mv (.k (.int .i64 0))),iv 6 (.mv (.k (.int .i64 0)))]) (.seq (.seq (.reg [Mv 10 0,Bi 11 .neq 10 1,Mv 12 11,Gv 13 (.mv (.t 0)) 12 true [],Gv 14 (.bin .neq (.t 13) (.k (.int .i64 2))) 12 true [],iv 15 (.pick (.t 12) (.t 14) (.k (.bool false)))]) (.cond (.t 15) (.seq (.reg [iv 16 (.build (zaS (.int .u8 0) 32) []),jc (.st 32 (.t 4) (.t 16)),iv 5 (.mv (.k (.int .i64 (-1)))),iv 6 (.mv (.k (.int .i64 15)))]) (.ret)) (.skip))) (.seq (.reg [Mv 18 1,ir 19 (.call zc8 [.t 18]),Mv 17 19,Ex 20 17 0,Ex 21 17 1,Ex 22 17 2,Mv 7 20,Mv 8 21,Mv 9 22]) (.seq (.seq (.reg [Mv 23 9,Bi 24 .neq 23 0]) (.cond (.t 24) (.seq (.reg [iv 25 (.build (zaS (.int .u8 0) 32) []),Mv 26 8,Mv 27 9,jc (.st 32 (.t 4) (.t 25)),Mv 5 26,Mv 6 27]) (.ret)) (.skip))) (.seq (.reg [ic 28 (.slit 1 19 [.int .u8 0] [(0,.k (.int .u8 97)),(1,.k (.int .u8 118)),(2,.k (.int .u8 111)),(3,.k (.int .u8 117)),(4,.k (.int .u8 99)),(5,.k (.int .u8 104)),(6,.k (.int .u8 47)),(7,.k (.int .u8 116)),(8,.k (.int .u8 114)),(9,.k (.int .u8 97)),(10,.k (.int .u8 110)),(11,.k (.int .u8 115)),(12,.k (.int .u8 99)),(13,.k (.int .u8 114)),(14,.k (.int .u8 105)),(15,.k (.int .u8 112)),(16,.k (.int .u8 116)),(17,.k (.int .u8 47)),(18,.k (.int .u8 49))]),ir 29 (.mark (.t 28)),Mv 30 0,iv 31 (.i2i .u8 (.t 30)),iv 32 (.slit 1 1 [.int .u8 0] [(0,.t 31)]),Mv 33 7,iv 34 (.slit 1 3 [.nsl] [(0,.t 29),(1,.t 32),(2,.t 33)]),ir 35 (.call zgq [.t 34]),jc (.st 32 (.t 4) (.t 35)),iv 5 (.mv (.k (.int .i64 (-1)))),iv 6 (.mv (.k (.int .i64 0)))]) (.ret)))))
def zwN:AFn:=⟨36,zhZ,[.cell 4 32 true,.tmp 5,.tmp 6],none⟩
def zeY:AC:=.seq (.reg [iv 2 (.mv (.k (.nsl)))]) (.seq (.reg [Mv 3 0,Nk 4 3,Fa 5 0 4,Ld 6 5,ir 7 (.call zbo [.t 6]),Mv 2 7]) (.ret))
def zh0:AFn:=⟨8,zeY,[.tmp 2],none⟩
def ztk:AC:=.seq (.reg [iv 1 (.boxv (.t 0)),iv 2 (.mv (.k (.nilp)))]) (.seq (.draw [ic 3 (.call zi8 []),Dr 4 (.ld 32 true (.t 1)) [1] 0 1,Dr 5 (.call zot [.t 4]) [4] 1 1,Dv 6 (.slit 4 1 (zaS (.int .u64 0) 4) [(0,.t 5)]) [5],Dc 7 (.call ze6 [.t 3,.t 6]) [3,6],Dm 2 7]) (.ret))
def zmV:AFn:=⟨8,ztk,[.tmp 2],none⟩
def zaC:AC:=.seq (.reg [iv 4 (.mv (.k (.nsl))),iv 5 (.mv (.k (.int .i64 0)))]) (.seq (.reg [Mv 10 1,iv 11 (.build [.int .i64 0,.int .i64 0,.int .i64 0,.nsl] [(0,1,.k (.int .i64 2)),(1,1,.k (.int .i64 3)),(2,1,.t 10)]),ic 6 (.alloc [.int .i64 0,.int .i64 0,.int .i64 0,.nsl]),jc (.st 4 (.t 6) (.t 11))]) (.seq (.seq (.reg [Mv 12 0,ir 13 (.ld 4 true (.t 6)),ic 14 (.call zaw [.t 12,.t 13]),Mv 7 14]) (.seq (.reg [Mv 15 7,Bi 16 .neq 15 0]) (.cond (.t 16) (.seq (.reg [Mv 17 7,iv 4 (.mv (.k (.nsl))),Mv 5 17]) (.ret)) (.skip)))) (.seq (.draw [Dm 18 0,Dv 19 (.nck (.t 18)) [18],Dv 20 (.fadr 33 (.t 19)) [19],Dr 21 (.ld 1 false (.t 20)) [20] 0 0,Dr 22 (.ld 4 true (.t 6)) [6] 0 0,Dc 23 (.inv (.t 21) "avouch/transcript.tell" [.t 22]) [21,22]]) (.seq (.reg [Mv 25 0,Nk 26 25,Fa 27 33 26,Ld 28 27,Mv 29 1,ic 30 (.inv (.t 28) "avouch/transcript.fields" [.t 29]),Mv 24 30,Ex 31 24 0,Ex 32 24 1,Mv 8 31,Mv 9 32]) (.seq (.seq (.reg [Mv 33 9,Bi 34 .neq 33 0]) (.cond (.t 34) (.seq (.reg [Mv 35 0,Nk 36 35,Fa 37 0 36,Ld 38 37,Mv 39 9,ic 40 (.call za9 [.t 38,.t 39]),iv 4 (.mv (.k (.nsl))),Mv 5 40]) (.ret)) (.skip))) (.seq (.reg [Mv 41 8,Mv 4 41,iv 5 (.mv (.k (.int .i64 0)))]) (.ret)))))))
def zcy:AFn:=⟨42,zaC,[.tmp 4,.tmp 5],none⟩
def za3:AC:=.seq (.reg [iv 2 (.mv (.k (.int .i64 0)))]) (.seq (.reg [iv 5 (.build [.int .i64 0,.int .i64 0,.int .i64 0,.nsl] [(0,1,.k (.int .i64 3)),(1,1,.k (.int .i64 0)),(2,1,.k (.int .i64 1))]),ic 3 (.alloc [.int .i64 0,.int .i64 0,.int .i64 0,.nsl]),jc (.st 4 (.t 3) (.t 5))]) (.seq (.reg [Mv 6 0,ir 7 (.ld 4 true (.t 3)),ic 8 (.call zaw [.t 6,.t 7]),Mv 4 8]) (.seq (.seq (.reg [Mv 9 4,Bi 10 .eql 9 0]) (.cond (.t 10) (.seq (.draw [Dm 11 0,Dv 12 (.nck (.t 11)) [11],Dv 13 (.fadr 33 (.t 12)) [12],Dr 14 (.ld 1 false (.t 13)) [13] 0 0,Dr 15 (.ld 4 true (.t 3)) [3] 0 0,Dc 16 (.inv (.t 14) "avouch/transcript.tell" [.t 15]) [14,15]]) (.reg [Mv 17 0,Nk 18 17,Fa 19 33 18,Ld 20 19,ic 21 (.inv (.t 20) "Ratchet" [])])) (.skip))) (.seq (.reg [Mv 22 4,Mv 2 22]) (.ret)))))
def zcY:AFn:=⟨23,za3,[.tmp 2],none⟩
def zcz:AC:=.seq (.reg [iv 4 (.mv (.k (.int .i64 0)))]) (.seq (.seq (.reg [Mv 5 0,Nk 6 5,Fa 7 2 6,Ld 8 7,iv 9 (.eq .ptr false (.t 8) (.k (.nilp))),Mv 10 9,Gv 11 (.mv (.t 1)) 10 true [],Gv 12 (.bin .neq (.t 11) (.k (.int .i64 0))) 10 true [],iv 13 (.pick (.t 10) (.t 12) (.k (.bool false)))]) (.cond (.t 13) (.reg [Mv 14 0,Mv 15 1,iv 16 (.build [.int .i64 0] [(0,1,.t 15)]),iv 17 (.boxv (.t 16)),Nk 18 14,Fa 19 2 18,Sx 19 17]) (.skip))) (.seq (.seq (.reg [Mv 20 0,Nk 21 20,Fa 22 2 21,Ld 23 22,iv 24 (.eq .ptr false (.t 23) (.k (.nilp)))]) (.cond (.t 24) (.seq (.reg [iv 4 (.mv (.k (.int .i64 0)))]) (.ret)) (.skip))) (.seq (.reg [Mv 25 0,Nk 26 25,Fa 27 2 26,Ld 28 27,Nk 29 28,Fa 30 0 29,Ld 31 30,Mv 4 31]) (.ret))))
def ziy:AFn:=⟨32,zcz,[.tmp 4],none⟩
def zcL:AC:=.seq (.reg [iv 2 (.mv (.k (.int .i64 0)))]) (.seq (.draw [Dm 3 0,Dm 4 0,Dv 5 (.nck (.t 4)) [4],Dv 6 (.fadr 1 (.t 5)) [5],Dr 7 (.ld 1 false (.t 6)) [6] 0 0,Dm 8 0,Dv 9 (.nck (.t 8)) [8],Dv 10 (.fadr 0 (.t 9)) [9],Dr 11 (.ld 1 false (.t 10)) [10] 0 0,Dv 12 (.lenL (.t 11)) [11],Dv 13 (.bin .eql (.t 7) (.t 12)) [7,12],Dc 14 (.call zbM [.t 3,.t 13,.k (.int .i64 12)]) [3,13],Dm 2 14]) (.ret))
def zhg:AFn:=⟨15,zcL,[.tmp 2],none⟩
def zg1:AC:=.seq (.reg [iv 2 (.mv (.k (.int .i64 0)))]) (.seq (.reg [Mv 3 0,Nk 4 3,Fa 5 1 4,Ld 6 5,Mv 2 6]) (.ret))
def zkB:AFn:=⟨7,zg1,[.tmp 2],none⟩
def zh8:AC:=.seq (.reg [iv 4 (.mv (.k (.nilp)))]) (.seq (.reg [Mv 8 0,Mv 9 1,ic 10 (.call zeO [.t 8,.t 9]),Mv 7 10,Ex 11 7 0,Ex 12 7 1,Mv 5 11,Mv 6 12]) (.seq (.reg [Mv 13 5,Mv 4 13]) (.ret)))
def zlQ:AFn:=⟨14,zh8,[.tmp 4],none⟩
def zh9:AC:=.seq (.reg [iv 0 (.mv (.k (.nif)))]) (.seq (.reg [iv 1 (.build [] []),iv 2 (.mkif 157 (.t 1)),Mv 0 2]) (.ret))
def zlR:AFn:=⟨3,zh9,[.tmp 0],none⟩
def zcb:AC:=.seq (.draw [Dm 2 0,Dv 3 (.nck (.t 2)) [2],Dv 4 (.fadr 0 (.t 3)) [3],Dr 5 (.ld 1 false (.t 4)) [4] 0 0,Dm 6 0,Dv 7 (.nck (.t 6)) [6],Dv 8 (.fadr 1 (.t 7)) [7],Dr 9 (.ld 1 false (.t 8)) [8] 0 0,Dv 10 (.nck (.t 5)) [5],Dm 11 5,Dc 12 (.inv (.t 11) "Permute" [.t 9]) [11,9]]) (.seq (.reg [Mv 13 0,Nk 14 13,Fa 15 4 14,Ld 16 15,Bi 17 .add 16 1,Nk 18 13,Fa 19 4 18,Sx 19 17]) (.reg [Mv 20 0,Nk 21 20,Fa 22 2 21,jc (.st 1 (.t 22) (.k (.int .i64 0)))]))
def zdP:AFn:=⟨23,zcb,[],none⟩
def zb0:AC:=.seq (.reg [iv 1 (.boxv (.t 0)),iv 2 (.mv (.k (.bool false)))]) (.seq (.seq (.reg [Fa 5 0 1,Ld 6 5,Fa 7 1 1,Ld 8 7,Fa 9 2 1,Ld 10 9,iv 11 (.build [.int .i64 0,.int .i64 0,.int .i64 0,.str ⟨#[]⟩] [(0,1,.t 6),(1,1,.t 8),(2,1,.t 10)]),ir 12 (.call zdA [.t 11]),Bi 13 .neq 12 0]) (.cond (.t 13) (.seq (.reg [iv 2 (.mv (.k (.bool false)))]) (.ret)) (.skip))) (.seq (.seq (.reg [Fa 14 0 1,Ld 15 14,Bi 16 .neq 15 1]) (.cond (.t 16) (.seq (.reg [Fa 17 3 1,Ld 18 17,iv 19 (.lenL (.t 18)),Bi 20 .eql 19 0,Mv 2 20]) (.ret)) (.skip))) (.seq (.reg [Fa 22 1 1,Ld 23 22,Fa 24 3 1,Ld 25 24,ir 26 (.call zdj [.t 23,.t 25]),Mv 21 26,Ex 27 21 0,Ex 28 21 1,Mv 3 27,Mv 4 28]) (.seq (.reg [Mv 29 3,Fa 30 2 1,Ld 31 30,Bt 32 .eql 29 31,Mv 33 32,Gv 34 (.fadr 1 (.t 1)) 33 true [],Gr 35 (.ld 1 false (.t 34)) 33 true [] 0 0,Gv 36 (.fadr 3 (.t 1)) 33 true [],Gr 37 (.ld 1 false (.t 36)) 33 true [] 0 0,Gr 38 (.call zew [.t 35,.t 37]) 33 true [] 0 0,Gv 39 (.bin .eql (.t 38) (.k (.int .i64 0))) 33 true [],iv 40 (.pick (.t 33) (.t 39) (.k (.bool false))),Mv 2 40]) (.ret)))))
def zju:AFn:=⟨41,zb0,[.tmp 2],none⟩
def zdQ:AC:=.seq (.reg [Bi 10 .lss 9 64]) (.seq (.cond (.t 10) (.skip) (.exit 0)) (.seq (.blk 1 (.seq (.reg [Mv 11 9,Mv 5 11]) (.seq (.reg [Mv 12 0,ic 13 (.callv (.t 12) []),ir 14 (.call zhp [.t 13]),ic 6 (.alloc (zaS (.int .u8 0) 32)),jc (.st 32 (.t 6) (.t 14))]) (.seq (.reg [iv 16 (.slice (.arr 32) 1 (.t 6) none none none),ir 17 (.call zbW [.t 16]),Mv 15 17,Ex 18 15 0,Ex 19 15 1,ic 7 (.alloc (zaS (.int .u64 0) 4)),jc (.st 4 (.t 7) (.t 18)),Mv 8 19]) (.seq (.reg [Mv 20 8,Bi 21 .eql 20 0]) (.cond (.t 21) (.seq (.reg [ir 22 (.ld 4 true (.t 7)),Mv 23 5,Bi 24 .add 23 1,jc (.st 4 (.t 2) (.t 22)),Mv 3 24,iv 4 (.mv (.k (.int .i64 0)))]) (.ret)) (.skip))))))) (.reg [Bi 25 .add 9 1,Mv 9 25])))
def ziQ:AC:=.seq (.reg [ic 2 (.alloc (zaS (.int .u64 0) 4)),iv 3 (.mv (.k (.int .i64 0))),iv 4 (.mv (.k (.int .i64 0)))]) (.seq (.seq (.reg [iv 9 (.mv (.k (.int .i64 0)))]) (.blk 0 (.loop zdQ))) (.seq (.reg [iv 26 (.build (zaS (.int .u64 0) 4) []),jc (.st 4 (.t 2) (.t 26)),iv 3 (.mv (.k (.int .i64 64))),iv 4 (.mv (.k (.int .i64 11)))]) (.ret)))
def zmW:AFn:=⟨27,ziQ,[.cell 2 4 true,.tmp 3,.tmp 4],none⟩
def zdR:AC:=.seq (.reg [iv 1 (.boxv (.t 0)),ic 2 (.alloc (zaS (.int .u64 0) 4))]) (.seq (.reg [Fa 3 0 1,ir 4 (.ld 4 true (.t 3)),iv 5 (.build (zaS (.int .u64 0) 4) [(0,1,.k (.int .u64 1))]),ir 6 (.call zcT [.t 4,.t 5]),jc (.st 4 (.t 2) (.t 6))]) (.ret))
def zgI:AFn:=⟨7,zdR,[.cell 2 4 true],none⟩
def zea:AC:=.seq (.reg [Bi 13 .lss 12 8]) (.seq (.cond (.t 13) (.skip) (.exit 2)) (.seq (.blk 3 (.seq (.reg [Mv 14 3,Mv 15 5,iv 16 (.i2i .u8 (.t 15)),iv 17 (.slit 1 1 [.int .u8 0] [(0,.t 16)]),ic 18 (.app 1 false (.t 14) (.t 17)),Mv 3 18]) (.reg [Mv 19 5,iv 20 (.bin .shr (.t 19) (.k (.int .u64 8))),Mv 5 20]))) (.reg [Bi 21 .add 12 1,Mv 12 21])))
def zhy:AC:=.seq (.reg [Bt 9 .lss 8 7]) (.seq (.cond (.t 9) (.skip) (.exit 0)) (.seq (.blk 1 (.seq (.reg [Ia 10 6 8,Ld 11 10,Mv 5 11]) (.seq (.reg [iv 12 (.mv (.k (.int .i64 0)))]) (.blk 2 (.loop zea))))) (.reg [Bi 22 .add 8 1,Mv 8 22])))
def zlT:AC:=.seq (.reg [iv 2 (.mv (.k (.nsl)))]) (.seq (.reg [iv 3 (.mv (.k (.nsl)))]) (.seq (.seq (.reg [Mv 6 0,iv 7 (.lenL (.t 6)),iv 8 (.mv (.k (.int .i64 0)))]) (.blk 0 (.loop zhy))) (.seq (.reg [Mv 23 3,Mv 2 23]) (.ret))))
def zql:AFn:=⟨24,zlT,[.tmp 2],none⟩
def zcE:AC:=.seq (.reg [iv 4 (.mv (.k (.int .i64 0))),iv 5 (.mv (.k (.int .i64 0)))]) (.seq (.reg [Mv 7 0,ir 8 (.call zhq [.t 7]),Mv 6 8]) (.seq (.blk 0 (.seq (.reg [Mv 10 6,Bi 11 .eql 10 0,Mv 9 11]) (.cond (.t 9) (.seq (.reg [iv 4 (.mv (.k (.int .i64 0))),iv 5 (.mv (.k (.int .i64 6)))]) (.ret)) (.seq (.reg [Mv 13 1,iv 14 (.lenL (.t 13)),Mv 15 6,Bt 16 .rem 14 15,Bi 17 .neq 16 0,Mv 12 17]) (.cond (.t 12) (.seq (.reg [iv 4 (.mv (.k (.int .i64 0))),iv 5 (.mv (.k (.int .i64 3)))]) (.ret)) (.seq (.reg [Mv 19 1,iv 20 (.lenL (.t 19)),Bi 21 .eql 20 0,Mv 22 21,Gv 23 (.mv (.t 1)) 22 false [],Gv 24 (.lenL (.t 23)) 22 false [],Gv 25 (.mv (.t 6)) 22 false [],Gv 26 (.bin .quo (.t 24) (.t 25)) 22 false [],Gv 27 (.bin .gtr (.t 26) (.k (.int .i64 1048576))) 22 false [],iv 28 (.pick (.t 22) (.k (.bool true)) (.t 27)),Mv 18 28]) (.cond (.t 18) (.seq (.reg [iv 4 (.mv (.k (.int .i64 0))),iv 5 (.mv (.k (.int .i64 7)))]) (.ret)) (.skip)))))))) (.seq (.reg [Mv 29 1,iv 30 (.lenL (.t 29)),Mv 31 6,Bt 32 .quo 30 31,Mv 4 32,iv 5 (.mv (.k (.int .i64 0)))]) (.ret))))
def zmX:AFn:=⟨33,zcE,[.tmp 4,.tmp 5],none⟩
def zbT:AC:=.seq (.reg [iv 3 (.boxv (.t 1)),iv 4 (.mv (.k (.int .i64 0)))]) (.seq (.draw [Dm 5 0,Dv 6 (.nck (.t 5)) [5],Dv 7 (.fadr 0 (.t 6)) [6],Dr 8 (.ld 1 false (.t 7)) [7] 0 0,Dv 9 (.fadr 0 (.t 3)) [3],Dr 10 (.ld 1 false (.t 9)) [9] 0 0,Dv 11 (.fadr 1 (.t 3)) [3],Dr 12 (.ld 1 false (.t 11)) [11] 0 0,Dv 13 (.fadr 2 (.t 3)) [3],Dr 14 (.ld 1 false (.t 13)) [13] 0 0,Dc 15 (.call zdq [.t 8,.t 10,.t 12,.t 14]) [8,10,12,14],Dm 4 15]) (.ret))
def zds:AFn:=⟨16,zbT,[.tmp 4],none⟩
def zcZ:AC:=.seq (.seq (.reg [Fa 20 1 7,Ld 21 20,iv 22 (.eq .fn true (.t 21) (.k (.nfn))),Mv 23 22,Gv 24 (.mv (.t 8)) 23 true [],Gv 25 (.mv (.t 1)) 23 true [],Gv 26 (.lenL (.t 25)) 23 true [],Gv 27 (.bin .lss (.t 24) (.t 26)) 23 true [],iv 28 (.pick (.t 23) (.t 27) (.k (.bool false)))]) (.cond (.t 28) (.skip) (.exit 0))) (.seq (.blk 1 (.seq (.draw [Dv 33 (.fadr 1 (.t 7)) [7],Dr 34 (.ld 1 false (.t 33)) [33] 0 0,Dm 35 1,Dm 36 8,Dm 37 8,Dv 38 (.fadr 0 (.t 7)) [7],Dr 39 (.ld 1 false (.t 38)) [38] 0 0,Dv 40 (.bin .add (.t 37) (.t 39)) [37,39],Dv 41 (.slice .slc 1 (.t 35) (some (.t 36)) (some (.t 40)) none) [35,36,40],Dc 42 (.callv (.t 34) [.t 41]) [34,41],Dv 43 (.bin .neq (.t 42) (.k (.int .i64 0))) [42]]) (.cond (.t 43) (.seq (.reg [iv 4 (.mv (.k (.int .i64 4)))]) (.ret)) (.skip)))) (.reg [Mv 29 8,Fa 30 0 7,Ld 31 30,Bt 32 .add 29 31,Mv 8 32]))
def zeD:AC:=.seq (.reg [iv 4 (.mv (.k (.int .i64 0)))]) (.seq (.seq (.reg [Mv 10 0,Mv 11 1,ir 12 (.call zdj [.t 10,.t 11]),Mv 9 12,Ex 13 9 0,Ex 14 9 1,Mv 5 13,Mv 6 14]) (.seq (.reg [Mv 15 6,Bi 16 .neq 15 0]) (.cond (.t 16) (.seq (.reg [Mv 17 6,Mv 4 17]) (.ret)) (.skip)))) (.seq (.reg [Mv 18 0,ir 19 (.call zdF [.t 18]),ic 7 (.alloc [.int .i64 0,.nfn,.nsl]),jc (.st 3 (.t 7) (.t 19))]) (.seq (.seq (.reg [iv 8 (.mv (.k (.int .i64 0)))]) (.blk 0 (.loop zcZ))) (.seq (.reg [iv 4 (.mv (.k (.int .i64 0)))]) (.ret)))))
def zmY:AFn:=⟨44,zeD,[.tmp 4],none⟩
def zcq:AC:=.seq (.seq (.reg [Mv 10 0,iv 11 (.lenL (.t 10)),Bi 12 .gtr 11 0]) (.cond (.t 12) (.skip) (.exit 0))) (.seq (.blk 1 (.seq (.seq (.reg [Mv 15 6,Bi 16 .eql 15 1024]) (.cond (.t 16) (.seq (.reg [Mv 17 6,iv 2 (.mv (.k (.nsl))),Mv 3 17,iv 4 (.mv (.k (.int .i64 9)))]) (.ret)) (.skip))) (.seq (.reg [Mv 19 0,ir 20 (.call zhr [.t 19]),Mv 18 20,Ex 21 18 0,Ex 22 18 1,Ex 23 18 2,ic 7 (.alloc [.int .i64 0,.int .i64 0,.int .i64 0,.str ⟨#[]⟩]),jc (.st 4 (.t 7) (.t 21)),Mv 8 22,Mv 9 23]) (.seq (.seq (.reg [Mv 24 9,Bi 25 .neq 24 0]) (.cond (.t 25) (.seq (.reg [Mv 26 6,Mv 27 9,iv 2 (.mv (.k (.nsl))),Mv 3 26,Mv 4 27]) (.ret)) (.skip))) (.seq (.reg [Mv 28 5,ir 29 (.ld 4 true (.t 7)),iv 30 (.slit 4 1 [.int .i64 0,.int .i64 0,.int .i64 0,.str ⟨#[]⟩] [(0,.t 29)]),ic 31 (.app 4 false (.t 28) (.t 30)),Mv 5 31]) (.reg [Mv 32 8,Mv 0 32])))))) (.reg [Mv 13 6,Bi 14 .add 13 1,Mv 6 14]))
def zia:AC:=.seq (.reg [iv 2 (.mv (.k (.nsl))),iv 3 (.mv (.k (.int .i64 0))),iv 4 (.mv (.k (.int .i64 0)))]) (.seq (.reg [iv 5 (.mv (.k (.nsl)))]) (.seq (.seq (.reg [iv 6 (.mv (.k (.int .i64 0)))]) (.blk 0 (.loop zcq))) (.seq (.reg [Mv 33 5,Mv 2 33,iv 3 (.mv (.k (.int .i64 (-1)))),iv 4 (.mv (.k (.int .i64 0)))]) (.ret))))
def zlU:AFn:=⟨34,zia,[.tmp 2,.tmp 3,.tmp 4],none⟩
def zbr:AC:=.seq (.reg [Bt 13 .lss 12 11]) (.seq (.cond (.t 13) (.skip) (.exit 0)) (.seq (.blk 1 (.seq (.reg [Mv 14 12,iv 15 (.iadr none 4 (.t 10) (.t 12)),ir 16 (.ld 4 true (.t 15)),ic 7 (.alloc [.int .i64 0,.int .i64 0,.int .i64 0,.str ⟨#[]⟩]),Mv 6 14,jc (.st 4 (.t 7) (.t 16))]) (.seq (.seq (.reg [Mv 17 6,Bi 18 .eql 17 1024]) (.cond (.t 18) (.seq (.reg [Mv 19 6,iv 2 (.mv (.k (.nsl))),Mv 3 19,iv 4 (.mv (.k (.int .i64 9)))]) (.ret)) (.skip))) (.seq (.reg [ir 21 (.ld 4 true (.t 7)),ir 22 (.call zhs [.t 21]),Mv 20 22,Ex 23 20 0,Ex 24 20 1,Mv 8 23,Mv 9 24]) (.seq (.seq (.reg [Mv 25 9,Bi 26 .neq 25 0]) (.cond (.t 26) (.seq (.reg [Mv 27 6,Mv 28 9,iv 2 (.mv (.k (.nsl))),Mv 3 27,Mv 4 28]) (.ret)) (.skip))) (.reg [Mv 29 5,Mv 30 8,ic 31 (.app 1 false (.t 29) (.t 30)),Mv 5 31])))))) (.reg [Bi 32 .add 12 1,Mv 12 32])))
def zeZ:AC:=.seq (.reg [iv 2 (.mv (.k (.nsl))),iv 3 (.mv (.k (.int .i64 0))),iv 4 (.mv (.k (.int .i64 0)))]) (.seq (.reg [iv 5 (.mv (.k (.nsl)))]) (.seq (.seq (.reg [Mv 10 0,iv 11 (.lenL (.t 10)),iv 12 (.mv (.k (.int .i64 0)))]) (.blk 0 (.loop zbr))) (.seq (.reg [Mv 33 5,Mv 2 33,iv 3 (.mv (.k (.int .i64 (-1)))),iv 4 (.mv (.k (.int .i64 0)))]) (.ret))))
def zib:AFn:=⟨34,zeZ,[.tmp 2,.tmp 3,.tmp 4],none⟩
def zeb:AC:=.seq (.reg [Bt 9 .lss 8 7]) (.seq (.cond (.t 9) (.skip) (.exit 0)) (.seq (.blk 1 (.seq (.reg [Ia 10 6 8,Ld 11 10,Mv 5 11]) (.reg [Mv 12 5,ic 13 (.call zdb [.t 3,.t 12])]))) (.reg [Bi 14 .add 8 1,Mv 8 14])))
def zlV:AC:=.seq (.reg [ic 2 (.alloc (zaS (.int .u8 0) 32))]) (.seq (.reg [ic 3 (.alloc [.int .u64 0,.int .u64 0,.int .u64 0,.int .u64 0,.int .u64 0,.int .u64 0,.int .u64 0,.int .u64 0,.int .u64 0,.int .u64 0,.int .u64 0,.int .u64 0,.int .u64 0,.int .u64 0,.int .u64 0,.int .u64 0,.int .u64 0,.int .u64 0,.int .u64 0,.int .u64 0,.int .u64 0,.int .u64 0,.int .u64 0,.int .u64 0,.int .u64 0,.int .i64 0])]) (.seq (.seq (.reg [Mv 6 0,iv 7 (.lenL (.t 6)),iv 8 (.mv (.k (.int .i64 0)))]) (.blk 0 (.loop zeb))) (.seq (.reg [ir 15 (.call zcV [.t 3]),jc (.st 32 (.t 2) (.t 15))]) (.ret))))
def zqm:AFn:=⟨16,zlV,[.cell 2 32 true],none⟩
def zfB:AC:=.seq (.reg [iv 5 (.slit 4 0 [.int .i64 0,.int .i64 0,.int .i64 0,.str ⟨#[]⟩] []),Mv 6 0,ic 7 (.app 4 false (.t 5) (.t 6)),Mv 2 7]) (.ret)
def zcA:AFn:=⟨8,zfB,[.tmp 2],some (.reg [iv 2 (.mv (.k (.nsl)))],3,4,.cond (.t 4)
  (.seq (.reg [iv 2 (.mv (.k (.nsl)))])
  (.ret))
  (.skip))⟩
def zjv:AC:=.seq (.reg [iv 4 (.mv (.k (.nilp)))]) (.seq (.reg [Mv 8 0,Mv 9 1,ic 10 (.call zez [.t 8,.t 9]),Mv 7 10,Ex 11 7 0,Ex 12 7 1,Mv 5 11,Mv 6 12]) (.seq (.reg [Mv 13 5,Mv 4 13]) (.ret)))
def zfc:AFn:=⟨14,zjv,[.tmp 4],none⟩
def zpY:AC:=.seq (.reg [iv 0 (.mv (.k (.nif)))]) (.seq (.reg [ic 1 (.call zmU []),iv 2 (.build [.nilp] [(0,1,.t 1)]),iv 3 (.mkif 203 (.t 2)),Mv 0 3]) (.ret))
def zjw:AFn:=⟨4,zpY,[.tmp 0],none⟩
def zvy:AC:=.seq (.reg [ic 1 (.box (.t 0)),ic 2 (.alloc (zaS (.int .u64 0) 4))]) (.seq (.reg [iv 3 (.slice (.arr 32) 1 (.t 1) none none none),ir 4 (.call zkt [.t 3]),jc (.st 4 (.t 2) (.t 4))]) (.ret))
def zo9:AFn:=⟨5,zvy,[.cell 2 4 true],none⟩
def zer:AC:=.seq (.reg [iv 6 (.mv (.k (.int .i64 0)))]) (.seq (.seq (.reg [Mv 7 1]) (.cond (.t 7) (.reg [iv 2 (.mv (.k (.int .i64 0)))]) (.skip))) (.seq (.reg [Mv 8 0,Mv 9 2,ic 10 (.call za9 [.t 8,.t 9]),Mv 6 10]) (.ret)))
def zhh:AFn:=⟨11,zer,[.tmp 6],none⟩
def zg2:AC:=.seq (.reg [iv 4 (.mv (.k (.nilp))),iv 5 (.mv (.k (.int .i64 0)))]) (.seq (.seq (.reg [Mv 7 1,iv 8 (.lenL (.t 7)),Mv 9 0,ir 10 (.inv (.t 9) "Width" []),Mv 11 0,ir 12 (.inv (.t 11) "Rate" []),Bt 13 .sub 10 12,Bt 14 .gtr 8 13]) (.cond (.t 14) (.seq (.reg [iv 4 (.mv (.k (.nilp))),iv 5 (.mv (.k (.int .i64 1)))]) (.ret)) (.skip))) (.seq (.draw [Dm 15 0,Dm 16 0,Dr 17 (.inv (.t 16) "Width" []) [16] 0 0,Dc 18 (.mk 1 [.int .u8 0] (.t 17)) [17,17],Dm 19 0,Dr 20 (.inv (.t 19) "Rate" []) [19] 0 1,Dv 21 (.build [.nif,.nsl,.int .i64 0,.int .i64 0,.int .i64 0] [(0,1,.t 15),(1,1,.t 18),(3,1,.t 20)]) [15,18,20],Dc 22 (.box (.t 21)) [21],Dm 6 22]) (.seq (.draw [Dm 23 6,Dv 24 (.nck (.t 23)) [23],Dv 25 (.fadr 1 (.t 24)) [24],Dr 26 (.ld 1 false (.t 25)) [25] 0 0,Dm 27 0,Dr 28 (.inv (.t 27) "Rate" []) [27] 0 0,Dv 29 (.slice .slc 1 (.t 26) (some (.t 28)) none none) [26,28],Dm 30 1,Dc 31 (.copy 1 (.t 29) (.t 30)) [29,30]]) (.seq (.reg [Mv 32 6,Mv 4 32,iv 5 (.mv (.k (.int .i64 0)))]) (.ret)))))
def zkD:AFn:=⟨33,zg2,[.tmp 4,.tmp 5],none⟩
def zlW:AC:=.seq (.reg [iv 1 (.boxv (.t 0)),iv 2 (.mv (.k (.int .i64 0)))]) (.seq (.reg [Fa 6 0 1,Ld 7 6,ir 8 (.call zis [.t 7]),Mv 5 8,Ex 9 5 0,Ex 10 5 1,Mv 3 9,Mv 4 10]) (.seq (.blk 0 (.seq (.reg [Mv 12 3,iv 13 (.lenL (.t 12)),Bi 14 .eql 13 0,Mv 11 14]) (.cond (.t 11) (.seq (.reg [iv 2 (.mv (.k (.int .i64 5)))]) (.ret)) (.seq (.reg [Mv 16 3,Fa 17 1 1,Ld 18 17,ir 19 (.call zbD [.t 16,.t 18]),iv 20 (.un .not (.t 19)),Mv 15 20]) (.cond (.t 15) (.seq (.reg [iv 2 (.mv (.k (.int .i64 6)))]) (.ret)) (.seq (.reg [Fa 22 2 1,Ld 23 22,Bi 24 .lss 23 1,Mv 25 24,Gv 26 (.fadr 2 (.t 1)) 25 false [],Gr 27 (.ld 1 false (.t 26)) 25 false [] 0 0,Gv 28 (.mv (.t 4)) 25 false [],Gv 29 (.bin .gtr (.t 27) (.t 28)) 25 false [],iv 30 (.pick (.t 25) (.k (.bool true)) (.t 29)),Mv 21 30]) (.cond (.t 21) (.seq (.reg [iv 2 (.mv (.k (.int .i64 7)))]) (.ret)) (.seq (.reg [Fa 32 3 1,Ld 33 32,iv 34 (.lenS (.t 33)),Bi 35 .gtr 34 255,Mv 31 35]) (.cond (.t 31) (.seq (.reg [iv 2 (.mv (.k (.int .i64 8)))]) (.ret)) (.skip)))))))))) (.seq (.reg [iv 2 (.mv (.k (.int .i64 0)))]) (.ret))))
def zqn:AFn:=⟨36,zlW,[.tmp 2],none⟩
def zke:AC:=.seq (.reg [ic 1 (.box (.t 0)),ic 2 (.alloc (zaS (.int .u8 0) 32))]) (.seq (.reg [iv 3 (.iadr (some 32) 1 (.t 1) (.k (.int .i64 31))),Ld 4 3,iv 5 (.bin .and (.t 4) (.k (.int .u8 63))),iv 6 (.iadr (some 32) 1 (.t 1) (.k (.int .i64 31))),Sx 6 5]) (.seq (.reg [ir 7 (.ld 32 true (.t 1)),jc (.st 32 (.t 2) (.t 7))]) (.ret)))
def zpa:AFn:=⟨8,zke,[.cell 2 32 true],none⟩
def zec:AC:=.seq (.reg [ic 2 (.alloc (zaS (.int .u64 0) 4)),iv 3 (.mv (.k (.int .i64 0)))]) (.seq (.seq (.reg [Mv 7 0,iv 8 (.lenL (.t 7)),Bi 9 .neq 8 32]) (.cond (.t 9) (.seq (.reg [iv 10 (.build (zaS (.int .u64 0) 4) []),jc (.st 4 (.t 2) (.t 10)),iv 3 (.mv (.k (.int .i64 1)))]) (.ret)) (.skip))) (.seq (.reg [Mv 11 0,ir 12 (.call zdH [.t 11]),iv 13 (.s2a 4 (.t 12)),ir 14 (.ld 4 true (.t 13)),ic 4 (.alloc (zaS (.int .u64 0) 4)),jc (.st 4 (.t 4) (.t 14))]) (.seq (.seq (.draw [Dr 16 (.ld 4 true (.t 4)) [4] 0 1,Dr 17 (.call zbR []) [] 0 1,Dr 18 (.call zeA [.t 16,.t 17]) [16,17] 0 1,Dm 15 18,Dv 19 (.ext (.t 15) 0) [15],Dv 20 (.ext (.t 15) 1) [15],ic 5 (.alloc (zaS (.int .u64 0) 4)),Dn (.st 4 (.t 5) (.t 19)) [5,19],Dm 6 20]) (.seq (.reg [Mv 21 6,iv 22 (.bin .eql (.t 21) (.k (.int .u64 0)))]) (.cond (.t 22) (.seq (.reg [iv 23 (.build (zaS (.int .u64 0) 4) []),jc (.st 4 (.t 2) (.t 23)),iv 3 (.mv (.k (.int .i64 4)))]) (.ret)) (.skip)))) (.seq (.reg [ir 24 (.ld 4 true (.t 4)),ir 25 (.call zd5 [.t 24]),jc (.st 4 (.t 2) (.t 25)),iv 3 (.mv (.k (.int .i64 0)))]) (.ret)))))
def zjx:AFn:=⟨26,zec,[.cell 2 4 true,.tmp 3],none⟩
def zaZ:AC:=.seq (.reg [Bi 23 .lss 22 4]) (.seq (.cond (.t 23) (.skip) (.exit 2)) (.seq (.blk 3 (.seq (.reg [Mv 24 22,iv 25 (.idxA 4 1 false (.t 21) (.t 22)),Mv 11 24,Mv 12 25]) (.reg [Mv 27 11,Mv 28 11,iv 29 (.iadr (some 5) 1 (.t 7) (.t 28)),Ld 30 29,Mv 31 9,Mv 32 12,Mv 33 10,ir 34 (.call ze9 [.t 30,.t 31,.t 32,.t 33]),Mv 26 34,Ex 35 26 0,Ex 36 26 1,iv 37 (.iadr (some 5) 1 (.t 7) (.t 27)),Sx 37 35,Mv 10 36]))) (.reg [Bi 38 .add 22 1,Mv 22 38])))
def zbF:AC:=.seq (.seq (.reg [Mv 57 14,Bi 58 .lss 57 4]) (.cond (.t 58) (.skip) (.exit 4))) (.seq (.blk 5 (.draw [Dm 62 14,Dv 63 (.bin .sub (.t 62) (.k (.int .i64 1))) [62],Dm 64 14,Dv 65 (.iadr (some 5) 1 (.t 7) (.t 64)) [7,64],Dr 66 (.ld 1 false (.t 65)) [65] 0 0,Dm 67 13,Dm 68 14,Dv 69 (.iadr (some 4) 1 (.t 5) (.t 68)) [5,68],Dr 70 (.ld 1 false (.t 69)) [69] 0 0,Dm 71 10,Dr 72 (.call ze9 [.t 66,.t 67,.t 70,.t 71]) [66,67,70,71] 0 0,Dm 61 72,Dv 73 (.ext (.t 61) 0) [61],Dv 74 (.ext (.t 61) 1) [61],Dv 75 (.iadr (some 5) 1 (.t 7) (.t 63)) [7,63],Dn (.st 1 (.t 75) (.t 73)) [75,73],Dm 10 74])) (.reg [Mv 59 14,Bi 60 .add 59 1,Mv 14 60]))
def zcr:AC:=.seq (.reg [Bi 19 .lss 18 4]) (.seq (.cond (.t 19) (.skip) (.exit 0)) (.seq (.blk 1 (.seq (.reg [iv 20 (.idxA 4 1 false (.t 17) (.t 18)),Mv 9 20]) (.seq (.reg [iv 10 (.mv (.k (.int .u64 0)))]) (.seq (.seq (.reg [ir 21 (.ld 4 true (.t 3)),iv 22 (.mv (.k (.int .i64 0)))]) (.blk 2 (.loop zaZ))) (.seq (.reg [iv 39 (.iadr (some 5) 1 (.t 7) (.k (.int .i64 4))),Ld 40 39,Mv 41 10,Bt 42 .add 40 41,iv 43 (.iadr (some 5) 1 (.t 7) (.k (.int .i64 4))),Sx 43 42]) (.seq (.reg [iv 44 (.iadr (some 5) 1 (.t 7) (.k (.int .i64 0))),Ld 45 44,Mv 46 6,Bt 47 .mul 45 46,Mv 13 47]) (.seq (.reg [iv 49 (.iadr (some 5) 1 (.t 7) (.k (.int .i64 0))),Ld 50 49,Mv 51 13,iv 52 (.iadr (some 4) 1 (.t 5) (.k (.int .i64 0))),Ld 53 52,ir 54 (.call ze9 [.t 50,.t 51,.t 53,.k (.int .u64 0)]),Mv 48 54,Ex 55 48 0,Ex 56 48 1,Mv 10 56]) (.seq (.seq (.reg [iv 14 (.mv (.k (.int .i64 1)))]) (.blk 4 (.loop zbF))) (.seq (.reg [iv 77 (.iadr (some 5) 1 (.t 7) (.k (.int .i64 4))),Ld 78 77,Mv 79 10,ic 80 (.call zaN [.t 78,.t 79,.k (.int .u64 0)]),Mv 76 80,Ex 81 76 0,Ex 82 76 1,iv 83 (.iadr (some 5) 1 (.t 7) (.k (.int .i64 3))),Sx 83 81,Mv 10 82]) (.reg [Mv 84 10,iv 85 (.iadr (some 5) 1 (.t 7) (.k (.int .i64 4))),Sx 85 84])))))))))) (.reg [Bi 86 .add 18 1,Mv 18 86])))
def zic:AC:=.seq (.reg [iv 2 (.boxv (.t 0)),iv 3 (.boxv (.t 1)),ic 4 (.alloc (zaS (.int .u64 0) 4))]) (.seq (.reg [ir 15 (.call zbR []),ir 16 (.call zfu []),ic 5 (.alloc (zaS (.int .u64 0) 4)),jc (.st 4 (.t 5) (.t 15)),Mv 6 16]) (.seq (.reg [ic 7 (.alloc (zaS (.int .u64 0) 5))]) (.seq (.seq (.reg [ir 17 (.ld 4 true (.t 2)),iv 18 (.mv (.k (.int .i64 0)))]) (.blk 0 (.loop zcr))) (.seq (.reg [iv 87 (.slice (.arr 5) 1 (.t 7) none (some (.k (.int .i64 4))) none),iv 88 (.s2a 4 (.t 87)),ir 89 (.ld 4 true (.t 88)),ir 90 (.call zd6 [.t 89]),jc (.st 4 (.t 4) (.t 90))]) (.ret)))))
def zlY:AFn:=⟨91,zic,[.cell 4 4 true],none⟩
def zkf:AC:=.seq (.reg [iv 2 (.mv (.k (.int .i64 0)))]) (.seq (.reg [Mv 3 0,ir 4 (.call zdF [.t 3]),iv 5 (.fld 0 1 false (.t 4)),Mv 2 5]) (.ret))
def zpb:AFn:=⟨6,zkf,[.tmp 2],none⟩
def zcB:AC:=.seq (.reg [iv 8 (.mv (.k (.int .i64 0)))]) (.seq (.reg [Mv 11 1,Mv 12 2,Mv 13 3,iv 14 (.build [.int .i64 0,.int .i64 0,.int .i64 0,.str ⟨#[]⟩] [(0,1,.t 11),(1,1,.t 12),(2,1,.t 13)]),ic 9 (.alloc [.int .i64 0,.int .i64 0,.int .i64 0,.str ⟨#[]⟩]),jc (.st 4 (.t 9) (.t 14))]) (.seq (.draw [Dm 15 0,Dm 16 0,Dv 17 (.nck (.t 16)) [16],Dv 18 (.fadr 1 (.t 17)) [17],Dr 19 (.ld 1 false (.t 18)) [18] 0 0,Dm 20 0,Dv 21 (.nck (.t 20)) [20],Dv 22 (.fadr 0 (.t 21)) [21],Dr 23 (.ld 1 false (.t 22)) [22] 0 0,Dv 24 (.lenL (.t 23)) [23],Dv 25 (.bin .lss (.t 19) (.t 24)) [19,24],Dm 26 25,Gm 27 0 26 true,Gv 28 (.nck (.t 27)) 26 true [27,26],Gv 29 (.fadr 0 (.t 28)) 26 true [28,26],Gr 30 (.ld 1 false (.t 29)) 26 true [29,26] 0 0,Gm 31 0 26 true,Gv 32 (.nck (.t 31)) 26 true [31,26],Gv 33 (.fadr 1 (.t 32)) 26 true [32,26],Gr 34 (.ld 1 false (.t 33)) 26 true [33,26] 0 0,Gv 35 (.iadr none 4 (.t 30) (.t 34)) 26 true [30,34,26],Gr 36 (.ld 4 true (.t 35)) 26 true [35,26] 0 0,Gr 37 (.ld 4 true (.t 9)) 26 true [9,26] 0 0,Gr 38 (.call zj2 [.t 36,.t 37]) 26 true [36,37,26] 0 0,Dv 39 (.pick (.t 26) (.t 38) (.k (.bool false))) [26,38],Dc 40 (.call zbM [.t 15,.t 39,.k (.int .i64 10)]) [15,39],Dm 10 40]) (.seq (.seq (.reg [Mv 41 10,Bi 42 .eql 41 0]) (.cond (.t 42) (.reg [Mv 43 0,Nk 44 43,Fa 45 1 44,Ld 46 45,Bi 47 .add 46 1,Nk 48 43,Fa 49 1 48,Sx 49 47]) (.skip))) (.seq (.reg [Mv 50 10,Mv 8 50]) (.ret)))))
def ziz:AFn:=⟨51,zcB,[.tmp 8],none⟩
def zcc:AC:=.seq (.reg [ic 2 (.alloc [.int .i64 0,.nfn,.nsl])]) (.seq (.seq (.reg [Mv 3 0]) (.blk 0 (.seq (.reg [Bi 5 .eql 3 1,Mv 4 5]) (.cond (.t 4) (.seq (.reg [iv 6 (.build [.int .i64 0,.nfn,.nsl] [(0,1,.k (.int .i64 1))]),jc (.st 3 (.t 2) (.t 6))]) (.ret)) (.seq (.reg [Bi 8 .eql 3 2,Mv 7 8]) (.cond (.t 7) (.seq (.reg [iv 9 (.slit 1 1 [.int .i64 0] [(0,.k (.int .i64 8))]),iv 10 (.build [.int .i64 0,.nfn,.nsl] [(0,1,.k (.int .i64 8)),(2,1,.t 9)]),jc (.st 3 (.t 2) (.t 10))]) (.ret)) (.seq (.reg [Bi 12 .eql 3 3,Mv 11 12]) (.cond (.t 11) (.seq (.reg [iv 13 (.slit 1 1 [.int .i64 0] [(0,.k (.int .i64 32))]),iv 14 (.build [.int .i64 0,.nfn,.nsl] [(0,1,.k (.int .i64 32)),(1,1,.k (.fn (.func zbX) [] [])),(2,1,.t 13)]),jc (.st 3 (.t 2) (.t 14))]) (.ret)) (.seq (.reg [Bi 16 .eql 3 4,Mv 15 16]) (.cond (.t 15) (.seq (.reg [iv 17 (.slit 1 4 [.int .i64 0] [(0,.k (.int .i64 31)),(1,.k (.int .i64 31)),(2,.k (.int .i64 31)),(3,.k (.int .i64 3))]),iv 18 (.build [.int .i64 0,.nfn,.nsl] [(0,1,.k (.int .i64 96)),(1,1,.k (.fn (.func zbY) [] [])),(2,1,.t 17)]),jc (.st 3 (.t 2) (.t 18))]) (.ret)) (.skip))))))))))) (.seq (.reg [iv 19 (.build [.int .i64 0,.nfn,.nsl] []),jc (.st 3 (.t 2) (.t 19))]) (.ret)))
def zl0:AFn:=⟨20,zcc,[.cell 2 3 true],none⟩
def zfD:AC:=.seq (.reg [ic 2 (.alloc [.int .i64 0,.int .i64 0,.int .i64 0,.str ⟨#[]⟩]),iv 3 (.mv (.k (.nsl))),iv 4 (.mv (.k (.int .i64 0)))]) (.seq (.reg [Mv 9 0,iv 10 (.build [.nsl,.bool false] [(0,1,.t 9)]),ic 11 (.box (.t 10)),Mv 5 11]) (.seq (.reg [Mv 12 5,ic 13 (.call za6 [.t 12,.k (.int .i64 1)]),Mv 14 5,ic 15 (.call za6 [.t 14,.k (.int .i64 1)]),Mv 16 5,ic 17 (.call za6 [.t 16,.k (.int .i64 4)]),iv 18 (.build [.int .i64 0,.int .i64 0,.int .i64 0,.str ⟨#[]⟩] [(0,1,.t 13),(1,1,.t 15),(2,1,.t 17)]),ic 6 (.alloc [.int .i64 0,.int .i64 0,.int .i64 0,.str ⟨#[]⟩]),jc (.st 4 (.t 6) (.t 18))]) (.seq (.reg [Mv 19 5,ic 20 (.call za6 [.t 19,.k (.int .i64 2)]),Mv 7 20]) (.seq (.reg [Mv 21 5,Mv 22 7,ic 23 (.call zcv [.t 21,.t 22]),ir 24 (.b2s (.t 23)),Fa 25 3 6,Sx 25 24]) (.seq (.seq (.reg [Mv 26 5,Nk 27 26,Fa 28 1 27,Ld 29 28]) (.cond (.t 29) (.seq (.reg [iv 30 (.build [.int .i64 0,.int .i64 0,.int .i64 0,.str ⟨#[]⟩] []),jc (.st 4 (.t 2) (.t 30)),iv 3 (.mv (.k (.nsl))),iv 4 (.mv (.k (.int .i64 2)))]) (.ret)) (.skip))) (.seq (.seq (.reg [ir 31 (.ld 4 true (.t 6)),ir 32 (.call zdA [.t 31]),Mv 8 32]) (.seq (.reg [Mv 33 8,Bi 34 .neq 33 0]) (.cond (.t 34) (.seq (.reg [iv 35 (.build [.int .i64 0,.int .i64 0,.int .i64 0,.str ⟨#[]⟩] []),Mv 36 8,jc (.st 4 (.t 2) (.t 35)),iv 3 (.mv (.k (.nsl))),Mv 4 36]) (.ret)) (.skip)))) (.seq (.draw [Dr 37 (.ld 4 true (.t 6)) [6] 0 0,Dm 38 5,Dv 39 (.nck (.t 38)) [38],Dv 40 (.fadr 0 (.t 39)) [39],Dr 41 (.ld 1 false (.t 40)) [40] 0 0,Dr 42 (.call zbS [.t 41]) [41] 0 0,Dn (.st 4 (.t 2) (.t 37)) [2,37],Dm 3 42,iv 4 (.mv (.k (.int .i64 0)))]) (.ret))))))))
def zpc:AFn:=⟨43,zfD,[.cell 2 4 true,.tmp 3,.tmp 4],none⟩
def zkg:AC:=.seq (.reg [iv 1 (.boxv (.t 0)),iv 2 (.mv (.k (.nsl))),iv 3 (.mv (.k (.int .i64 0)))]) (.seq (.seq (.reg [ir 6 (.ld 4 true (.t 1)),ir 7 (.call zdA [.t 6]),Mv 4 7]) (.seq (.reg [Mv 8 4,Bi 9 .neq 8 0]) (.cond (.t 9) (.seq (.reg [Mv 10 4,iv 2 (.mv (.k (.nsl))),Mv 3 10]) (.ret)) (.skip)))) (.seq (.reg [Fa 11 0 1,Ld 12 11,iv 13 (.i2i .u8 (.t 12)),Fa 14 1 1,Ld 15 14,iv 16 (.i2i .u8 (.t 15)),iv 17 (.slit 1 2 [.int .u8 0] [(0,.t 13),(1,.t 16)]),Fa 18 2 1,Ld 19 18,ic 20 (.call zcw [.t 17,.t 19,.k (.int .i64 4)]),Mv 5 20]) (.seq (.draw [Dm 21 5,Dv 22 (.fadr 3 (.t 1)) [1],Dr 23 (.ld 1 false (.t 22)) [22] 0 0,Dv 24 (.lenS (.t 23)) [23],Dc 25 (.call zcw [.t 21,.t 24,.k (.int .i64 2)]) [21,24],Dv 26 (.fadr 3 (.t 1)) [1],Dr 27 (.ld 1 false (.t 26)) [26] 0 1,Dc 28 (.app 1 false (.t 25) (.t 27)) [25,27],Dm 2 28,iv 3 (.mv (.k (.int .i64 0)))]) (.ret))))
def zpd:AFn:=⟨29,zkg,[.tmp 2,.tmp 3],none⟩
def zbK:AC:=.seq (.reg [Bt 9 .lss 8 7]) (.seq (.cond (.t 9) (.skip) (.exit 0)) (.seq (.blk 1 (.seq (.reg [Ia 10 6 8,Ld 11 10,Mv 5 11]) (.seq (.reg [Mv 12 0,Mv 13 0,Nk 14 13,Fa 15 25 14,Ld 16 15,Mv 17 5,ic 18 (.call zbg [.t 12,.t 16,.t 17])]) (.seq (.reg [Mv 19 0,Nk 20 19,Fa 21 25 20,Ld 22 21,Bi 23 .add 22 1,Nk 24 19,Fa 25 25 24,Sx 25 23]) (.seq (.reg [Mv 26 0,Nk 27 26,Fa 28 25 27,Ld 29 28,Bi 30 .eql 29 136]) (.cond (.t 30) (.reg [Mv 31 0,Mv 32 0,Mv 33 0,Nk 34 33,Fa 35 0 34,ir 36 (.ld 25 true (.t 35)),ir 37 (.call zba [.t 36]),Nk 38 31,Fa 39 0 38,jc (.st 25 (.t 39) (.t 37)),Nk 40 32,Fa 41 25 40,jc (.st 1 (.t 41) (.k (.int .i64 0)))]) (.skip))))))) (.reg [Bi 42 .add 8 1,Mv 8 42])))
def zeS:AC:=.seq (.reg [Mv 6 1,iv 7 (.lenL (.t 6)),iv 8 (.mv (.k (.int .i64 0)))]) (.blk 0 (.loop zbK))
def zhM:AFn:=⟨43,zeS,[],none⟩
def zf0:AC:=.seq (.reg [ic 2 (.alloc (zaS (.int .u8 0) 32))]) (.seq (.reg [Mv 5 0,Nk 6 5,ir 7 (.ld 26 true (.t 6)),ic 3 (.alloc [.int .u64 0,.int .u64 0,.int .u64 0,.int .u64 0,.int .u64 0,.int .u64 0,.int .u64 0,.int .u64 0,.int .u64 0,.int .u64 0,.int .u64 0,.int .u64 0,.int .u64 0,.int .u64 0,.int .u64 0,.int .u64 0,.int .u64 0,.int .u64 0,.int .u64 0,.int .u64 0,.int .u64 0,.int .u64 0,.int .u64 0,.int .u64 0,.int .u64 0,.int .i64 0]),jc (.st 26 (.t 3) (.t 7))]) (.seq (.reg [Fa 8 25 3,Ld 9 8,ic 10 (.call zbg [.t 3,.t 9,.k (.int .u8 6)])]) (.seq (.reg [ic 11 (.call zbg [.t 3,.k (.int .i64 135),.k (.int .u8 128)])]) (.seq (.reg [Fa 12 0 3,ir 13 (.ld 25 true (.t 12)),ir 14 (.call zba [.t 13]),ir 15 (.call zbN [.t 14]),ic 4 (.alloc (zaS (.int .u8 0) 200)),jc (.st 200 (.t 4) (.t 15))]) (.seq (.reg [iv 16 (.slice (.arr 200) 1 (.t 4) none (some (.k (.int .i64 32))) none),iv 17 (.s2a 32 (.t 16)),ir 18 (.ld 32 true (.t 17)),jc (.st 32 (.t 2) (.t 18))]) (.ret))))))
def zi1:AFn:=⟨19,zf0,[.cell 2 32 true],none⟩
def ziG:AC:=.seq (.reg [iv 4 (.mv (.k (.nilp))),iv 5 (.mv (.k (.int .i64 0)))]) (.seq (.seq (.reg [Mv 7 1,iv 8 (.lenL (.t 7)),Mv 9 0,ir 10 (.inv (.t 9) "Width" []),Mv 11 0,ir 12 (.inv (.t 11) "Rate" []),Bt 13 .sub 10 12,Bt 14 .gtr 8 13]) (.cond (.t 14) (.seq (.reg [iv 4 (.mv (.k (.nilp))),iv 5 (.mv (.k (.int .i64 1)))]) (.ret)) (.skip))) (.seq (.draw [Dm 15 0,Dm 16 0,Dr 17 (.inv (.t 16) "Width" []) [16] 0 0,Dc 18 (.mk 4 (zaS (.int .u64 0) 4) (.t 17)) [17,17],Dm 19 0,Dr 20 (.inv (.t 19) "Rate" []) [19] 0 1,Dv 21 (.build [.nif,.nsl,.int .i64 0,.int .i64 0,.int .i64 0] [(0,1,.t 15),(1,1,.t 18),(3,1,.t 20)]) [15,18,20],Dc 22 (.box (.t 21)) [21],Dm 6 22]) (.seq (.draw [Dm 23 6,Dv 24 (.nck (.t 23)) [23],Dv 25 (.fadr 1 (.t 24)) [24],Dr 26 (.ld 1 false (.t 25)) [25] 0 0,Dm 27 0,Dr 28 (.inv (.t 27) "Rate" []) [27] 0 0,Dv 29 (.slice .slc 4 (.t 26) (some (.t 28)) none none) [26,28],Dm 30 1,Dc 31 (.copy 4 (.t 29) (.t 30)) [29,30]]) (.seq (.reg [Mv 32 6,Mv 4 32,iv 5 (.mv (.k (.int .i64 0)))]) (.ret)))))
def zev:AFn:=⟨33,ziG,[.tmp 4,.tmp 5],none⟩
def zs2:AC:=.seq (.reg [iv 0 (.mv (.k (.nilp)))]) (.seq (.reg [iv 1 (.build [.int .u32 0,.int .i32 0,.int .u32 0,.int .u64 0,.int .u64 0,.int .u64 0,.int .u64 0,.int .u64 0,.int .u64 0,.int .u64 0,.int .u64 0,.int .u64 0,.int .u64 0,.int .u64 0,.int .u64 0,.int .u64 0,.int .u64 0,.int .u64 0,.int .u64 0,.int .u64 0,.int .u64 0,.int .u64 0,.int .u64 0,.int .u64 0,.int .u64 0,.int .u64 0,.int .u64 0,.int .u64 0,.int .u64 0,.int .u64 0,.int .u64 0,.int .u64 0,.int .u64 0,.int .u64 0,.int .u64 0,.int .u64 0,.int .u64 0,.int .u64 0,.int .u64 0,.int .u64 0,.int .u64 0,.int .u64 0,.int .u64 0,.int .u64 0,.int .u64 0,.int .u64 0,.int .u64 0,.int .u64 0,.int .u64 0,.int .u64 0,.int .u64 0,.int .u64 0,.int .u64 0,.int .u64 0,.int .u64 0,.int .u64 0,.int .u64 0,.int .u64 0,.int .u64 0,.int .u64 0,.int .u64 0,.int .u64 0,.int .u64 0,.int .u64 0,.int .u64 0,.int .u64 0,.int .u64 0,.int .u64 0,.int .u64 0,.int .u64 0,.int .u64 0,.int .u64 0,.int .u64 0,.int .u64 0,.int .u64 0,.int .u64 0,.int .u64 0,.int .u64 0,.int .u64 0,.int .u64 0,.int .u64 0,.int .u64 0,.int .u64 0,.int .u64 0,.int .u64 0,.int .u64 0,.int .u64 0,.int .u64 0,.int .u64 0,.int .u64 0,.int .u64 0,.int .u64 0,.int .u64 0,.int .u64 0,.int .u64 0,.int .u64 0,.int .u64 0,.int .u64 0,.int .u64 0,.int .u64 0,.int .u64 0,.int .u64 0,.int .u64 0,.int .u64 0,.int .u64 0,.int .u64 0,.int .u64 0,.int .u64 0,.int .u64 0,.int .u64 0,.int .u64 0,.int .u64 0,.int .u64 0,.int .u64 0,.int .u64 0,.int .u64 0,.int .u64 0,.int .u64 0,.int .u64 0,.int .u64 0,.int .u64 0,.int .u64 0,.int .u64 0,.int .u64 0,.int .u64 0,.int .u64 0,.int .u64 0,.int .u64 0,.int .u64 0,.int .u64 0,.int .u64 0,.int .u64 0,.int .u64 0,.int .u64 0,.int .u64 0,.int .u64 0,.int .u64 0,.int .u64 0,.int .u64 0,.int .u64 0,.int .u64 0,.int .u64 0,.int .u64 0,.int .u64 0,.int .u64 0,.int .u64 0,.int .u64 0,.int .u64 0,.int .u64 0,.int .u64 0,.int .u64 0,.int .u64 0,.int .u64 0,.int .u64 0,.int .u64 0,.int .u64 0,.int .u64 0,.int .u64 0,.int .u64 0,.int .u64 0,.int .u64 0,.int .u64 0,.int .u64 0,.int .u64 0,.int .u64 0,.int .u64 0,.int .u64 0,.int .u64 0,.int .u64 0,.int .u64 0,.int .u64 0,.int .u64 0,.int .u64 0,.int .u64 0,.int .u64 0,.int .u64 0,.int .u64 0,.int .u64 0,.int .u64 0,.int .u64 0,.int .u64 0,.int .u64 0,.int .u64 0,.int .u64 0,.int .u64 0,.int .u64 0,.int .u64 0,.int .u64 0,.int .u64 0,.int .u64 0,.int .u64 0,.int .u64 0,.int .u64 0,.int .u64 0,.int .u64 0,.int .u64 0,.int .u64 0,.int .u64 0,.int .u64 0,.int .u64 0,.int .u64 0,.int .u64 0,.int .u64 0,.int .u64 0,.int .u64 0,.int .u64 0,.int .u64 0,.int .u64 0,.int .u64 0,.int .u64 0,.int .u64 0,.int .u64 0,.int .u64 0,.int .u64 0,.int .u64 0,.int .u64 0,.int .u64 0,.int .u64 0,.int .u64 0,.int .u64 0,.int .u64 0,.int .u64 0,.int .u64 0,.int .u64 0,.int .u64 0,.int .u64 0,.int .u64 0,.int .u64 0,.int .u64 0,.int .u64 0,.int .u64 0,.int .u64 0,.int .u64 0,.int .u64 0,.int .u64 0,.int .u64 0,.int .u64 0,.int .u64 0,.int .u64 0,.int .u64 0,.int .u64 0,.int .u64 0,.int .u64 0,.int .u64 0,.int .u64 0,.int .u64 0,.int .u64 0,.int .u64 0,.int .u64 0,.int .u64 0,.int .u64 0,.int .u64 0,.int .u64 0,.int .u64 0,.int .u64 0,.int .u64 0,.int .u64 0,.int .u64 0,.int .u64 0,.int .u64 0,.int .u64 0,.int .u64 0,.int .u64 0,.int .u64 0,.int .u64 0,.int .u64 0,.int .u64 0,.int .u64 0,.int .u64 0,.int .u64 0,.int .u64 0,.int .u64 0,.int .u64 0,.int .u64 0,.int .u64 0,.int .u64 0,.int .u64 0,.int .u64 0,.int .u64 0,.int .u64 0,.int .u64 0,.int .u64 0,.int .u64 0,.int .u64 0,.int .u64 0,.int .u64 0,.int .u64 0,.int .u64 0,.int .u64 0,.int .u64 0,.int .u64 0,.int .u64 0,.int .u64 0,.int .u64 0,.int .u64 0,.int .u64 0,.int .u64 0,.int .u64 0,.int .u64 0,.int .u64 0,.int .u64 0,.int .u64 0,.int .u64 0,.int .u64 0,.int .u64 0,.int .u64 0,.int .u64 0,.int .u64 0,.int .u64 0,.int .u64 0,.int .u64 0,.int .u64 0,.int .u64 0,.int .u64 0,.int .u64 0,.int .u64 0,.int .u64 0,.int .u64 0,.int .u64 0,.int .u64 0,.int .u64 0,.int .u64 0,.int .u64 0,.int .u64 0,.int .u64 0,.int .u64 0,.int .u64 0,.int .u64 0,.int .u64 0,.int .u64 0,.int .u64 0,.int .u64 0,.int .u64 0,.int .u64 0,.int .u64 0,.int .u64 0,.int .u64 0,.int .u64 0,.int .u64 0,.int .u64 0,.int .u64 0,.int .u64 0,.int .u64 0,.int .u64 0,.int .u64 0,.int .u64 0,.int .u64 0,.int .u64 0,.int .u64 0,.int .u64 0,.int .u64 0,.int .u64 0,.int .u64 0,.int .u64 0,.int .u64 0,.int .u64 0,.int .u64 0,.int .u64 0,.int .u64 0,.int .u64 0,.int .u64 0,.int .u64 0,.int .u64 0,.int .u64 0,.int .u64 0,.int .u64 0,.int .u64 0,.int .u64 0,.int .u64 0,.int .u64 0,.int .u64 0,.int .u64 0,.int .u64 0,.int .u64 0,.int .u64 0,.int .u64 0,.int .u64 0,.int .u64 0,.int .u64 0,.int .u64 0,.int .u64 0,.int .u64 0,.int .u64 0,.int .u64 0,.int .u64 0,.int .u64 0,.int .u64 0,.int .u64 0,.int .u64 0,.int .u64 0,.int .u64 0,.int .u64 0,.int .u64 0,.int .u64 0,.int .u64 0,.int .u64 0,.int .u64 0,.int .u64 0,.int .u64 0,.int .u64 0,.int .u64 0,.int .u64 0,.int .u64 0,.int .u64 0,.int .u64 0,.int .u64 0,.int .u64 0,.int .u64 0,.int .u64 0,.int .u64 0,.int .u64 0,.int .u64 0,.int .u64 0,.int .u64 0,.int .u64 0,.int .u64 0,.int .u64 0,.int .u64 0,.int .u64 0,.int .u64 0,.int .u64 0,.int .u64 0,.int .u64 0,.int .u64 0,.int .u64 0,.int .u64 0,.int .u64 0,.int .u64 0,.int .u64 0,.int .u64 0,.int .u64 0,.int .u64 0,.int .u64 0,.int .u64 0,.int .u64 0,.int .u64 0,.int .u64 0,.int .u64 0,.int .u64 0,.int .u64 0,.int .u64 0,.int .u64 0,.int .u64 0,.int .u64 0,.int .u64 0,.int .u64 0,.int .u64 0,.int .u64 0,.int .u64 0,.int .u64 0,.int .u64 0,.int .u64 0,.int .u64 0,.int .u64 0,.int .u64 0,.int .u64 0,.int .u64 0,.int .u64 0,.int .u64 0,.int .u64 0,.int .u64 0,.int .u64 0,.int .u64 0,.int .u64 0,.int .u64 0,.int .u64 0,.int .u64 0,.int .u64 0,.int .u64 0,.int .u64 0,.int .u64 0,.int .u64 0,.int .u64 0,.int .u64 0,.int .u64 0,.int .u64 0,.int .u64 0,.int .u64 0,.int .u64 0,.int .u64 0,.int .u64 0,.int .u64 0,.int .u64 0,.int .u64 0,.int .u64 0,.int .u64 0,.int .u64 0,.int .u64 0,.int .u64 0,.int .u64 0,.int .u64 0,.int .u64 0,.int .u64 0,.int .u64 0,.int .u64 0,.int .u64 0,.int .u64 0,.int .u64 0,.int .u64 0,.int .u64 0,.int .u64 0,.int .u64 0,.int .u64 0,.int .u64 0,.int .u64 0,.int .u64 0,.int .u64 0,.int .u64 0,.int .u64 0,.int .u64 0,.int .u64 0,.int .u64 0,.int .u64 0,.int .u64 0,.int .u64 0,.int .u64 0,.int .u64 0,.int .u64 0,.int .u64 0,.int .u64 0,.int .u64 0,.int .u64 0,.int .u64 0,.int .u64 0,.int .u64 0,.int .u64 0,.int .u64 0,.int .u64 0,.int .u64 0,.int .u64 0,.int .u64 0,.int .u64 0,.int .u64 0,.int .u64 0,.int .u64 0,.int .u64 0,.int .u64 0,.int .u64 0,.int .u64 0,.int .u64 0,.int .u64 0,.int .u64 0,.int .u64 0,.int .u64 0,.int .u64 0,.int .u64 0,.int .u64 0,.int .u64 0,.int .u64 0,.int .u64 0,.int .u64 0,.int .u64 0,.int .u64 0,.int .u64 0,.int .u64 0,.int .u64 0,.int .u64 0,.int .u64 0,.int .u64 0,.int .u64 0,.int .u64 0,.int .u64 0,.int .u64 0,.int .u64 0,.int .u64 0,.int .u64 0,.int .u64 0,.int .u64 0,.int .u64 0,.int .u64 0,.int .u64 0,.int .u64 0,.int .u64 0,.int .u64 0,.int .u64 0,.int .u64 0,.int .u64 0,.int .u64 0,.int .u64 0,.int .u64 0,.int .u64 0,.int .u64 0,.int .u64 0,.int .u64 0,.int .u64 0,.int .u64 0,.int .u64 0,.int .u64 0,.int .u64 0,.int .u64 0,.int .u64 0,.int .u64 0,.int .u64 0,.int .u64 0,.int .u64 0,.int .u64 0,.int .u64 0,.int .u64 0,.int .u64 0,.int .u64 0,.int .u64 0,.int .u64 0,.int .u64 0,.int .u64 0,.int .u64 0,.int .u64 0,.int .u64 0,.int .u64 0,.int .u64 0,.int .u64 0,.int .u64 0,.int .u64 0,.int .u64 0,.int .u64 0,.int .u64 0,.int .u64 0,.int .u64 0,.int .u64 0,.int .u64 0,.int .u64 0,.int .u64 0,.int .u64 0,.int .u64 0,.int .u64 0,.int .u64 0,.int .u64 0,.int .u64 0,.int .u64 0,.int .u64 0,.int .u64 0,.int .u64 0,.int .u64 0,.int .u64 0,.int .u64 0,.int .u64 0,.int .u64 0,.int .u64 0,.int .u64 0,.int .u64 0,.int .u64 0,.int .u64 0,.int .u64 0,.int .u64 0,.int .u64 0,.int .u64 0,.int .u64 0,.int .u64 0,.int .u64 0,.int .u64 0,.int .u64 0,.int .u64 0,.int .u64 0,.int .u64 0,.int .u64 0,.int .u64 0,.int .u64 0,.int .u64 0,.int .u64 0,.int .u64 0,.int .u64 0,.int .u64 0,.int .u64 0,.int .u64 0,.int .u64 0,.int .u64 0,.int .u64 0,.int .u64 0,.int .u64 0,.int .u64 0,.int .u64 0,.int .u64 0,.int .u64 0,.int .u64 0,.int .u64 0,.int .u64 0,.int .u64 0,.int .u64 0,.int .u64 0,.int .u64 0,.int .u64 0,.int .u64 0,.int .u64 0,.int .u64 0,.int .u64 0,.int .u64 0,.int .u64 0,.int .u64 0,.int .u64 0,.int .u64 0,.int .u64 0,.int .u64 0,.int .u64 0,.int .u64 0,.int .u64 0,.int .u64 0,.int .u64 0,.int .u64 0,.int .u64 0,.int .u64 0,.int .u64 0,.int .u64 0,.int .u64 0,.int .u64 0,.int .u64 0,.int .u64 0,.int .u64 0,.int .u64 0,.int .u64 0,.int .u64 0,.int .u64 0,.int .u64 0,.int .u64 0,.int .u64 0,.int .u64 0,.int .u64 0,.int .u64 0,.int .u64 0,.int .u64 0,.int .u64 0,.int .u64 0,.int .u64 0,.int .u64 0,.int .u64 0,.int .u64 0,.int .u64 0,.int .u64 0,.int .u64 0,.int .u64 0,.int .u64 0,.int .u64 0,.int .u64 0,.int .u64 0,.int .u64 0,.int .u64 0,.int .u64 0,.int .u64 0,.int .u64 0,.int .u64 0,.int .u64 0,.int .u64 0,.int .u64 0,.int .u64 0,.int .u64 0,.int .u64 0,.int .u64 0,.int .u64 0,.int .u64 0,.int .u64 0,.int .u64 0,.int .u64 0,.int .u64 0,.int .u64 0,.int .u64 0,.int .u64 0,.int .u64 0,.int .u64 0,.int .u64 0,.int .u64 0,.int .u64 0,.int .u64 0,.int .u64 0,.int .u64 0,.int .u64 0,.int .u64 0,.int .u64 0,.int .u64 0,.int .u64 0,.int .u64 0,.int .u64 0,.int .u64 0,.int .u64 0,.int .u64 0,.int .u64 0,.int .u64 0,.int .u64 0,.int .u64 0,.int .u64 0,.int .u64 0,.int .u64 0,.int .u64 0,.int .u64 0,.int .u64 0,.int .u64 0,.int .u64 0,.int .u64 0,.int .u64 0,.int .u64 0,.int .u64 0,.int .u64 0,.int .u64 0,.int .u64 0,.int .u64 0,.int .u64 0,.int .u64 0,.int .u64 0,.int .u64 0,.int .u64 0,.int .u64 0,.int .u64 0,.int .u64 0,.int .u64 0,.int .u64 0,.int .u64 0,.int .u64 0,.int .u64 0,.int .u64 0,.int .u64 0,.int .u64 0,.int .u64 0,.int .u64 0,.int .u64 0,.int .u64 0,.int .u64 0,.int .u64 0,.int .u64 0,.int .u64 0,.int .u64 0,.int .u64 0,.int .u64 0] []),ic 2 (.box (.t 1)),Mv 0 2]) (.ret))
def zmR:AFn:=⟨3,zs2,[.tmp 0],none⟩
def zqy:AC:=.seq (.reg [ic 2 (.alloc (zaS (.int .u64 0) 4))]) (.seq (.reg [ir 6 (.call zbR []),ic 3 (.alloc (zaS (.int .u64 0) 4)),jc (.st 4 (.t 3) (.t 6))]) (.seq (.reg [iv 8 (.slice (.arr 4) 1 (.t 3) none none none),ir 9 (.call zji [.t 8]),Mv 7 9,Ex 10 7 0,Ex 11 7 1,Mv 4 10,Mv 5 11]) (.seq (.reg [Mv 12 4,Mv 13 0,ir 14 (.call zdH [.t 13]),ir 15 (.call zbB [.t 12,.t 14]),iv 16 (.s2a 4 (.t 15)),ir 17 (.ld 4 true (.t 16)),ir 18 (.call zd5 [.t 17]),jc (.st 4 (.t 2) (.t 18))]) (.ret))))
def zkk:AFn:=⟨19,zqy,[.cell 2 4 true],none⟩
def zlc:AC:=.seq (.reg [iv 2 (.mv (.k (.nsl))),iv 3 (.mv (.k (.int .i64 0)))]) (.seq (.seq (.reg [Mv 4 0]) (.blk 0 (.seq (.reg [Bi 6 .eql 4 1,Mv 5 6]) (.cond (.t 5) (.seq (.reg [iv 7 (.slit 1 4 [.int .i64 0] [(0,.k (.int .i64 1)),(1,.k (.int .i64 2)),(2,.k (.int .i64 3)),(3,.k (.int .i64 4))]),Mv 2 7,iv 3 (.mv (.k (.int .i64 1048576)))]) (.ret)) (.seq (.reg [Bi 9 .eql 4 2,Mv 8 9]) (.cond (.t 8) (.seq (.reg [iv 10 (.slit 1 2 [.int .i64 0] [(0,.k (.int .i64 1)),(1,.k (.int .i64 3))]),Mv 2 10,iv 3 (.mv (.k (.int .i64 1048576)))]) (.ret)) (.seq (.reg [Bi 12 .eql 4 3,Mv 11 12]) (.cond (.t 11) (.seq (.reg [iv 13 (.slit 1 1 [.int .i64 0] [(0,.k (.int .i64 0))]),Mv 2 13,iv 3 (.mv (.k (.int .i64 1)))]) (.ret)) (.skip))))))))) (.seq (.reg [iv 2 (.mv (.k (.nsl))),iv 3 (.mv (.k (.int .i64 0)))]) (.ret)))
def zp6:AFn:=⟨14,zlc,[.tmp 2,.tmp 3],none⟩
def zcQ:AC:=.seq (.reg [iv 4 (.mv (.k (.bool false)))]) (.seq (.reg [Mv 5 0,Mv 6 1,ir 7 (.call zcx [.t 5,.t 6]),Bi 8 .geq 7 0,Mv 4 8]) (.ret))
def ze3:AFn:=⟨9,zcQ,[.tmp 4],none⟩
def zdX:AC:=.seq (.reg [Bt 14 .lss 13 12]) (.seq (.cond (.t 14) (.skip) (.exit 0)) (.seq (.blk 1 (.seq (.reg [Mv 15 13,Ia 16 11 13,Ld 17 16,Mv 4 15,Mv 5 17]) (.draw [Dm 18 3,Dm 19 4,Dv 20 (.bin .quo (.t 19) (.k (.int .i64 8))) [19],Dv 21 (.iadr none 1 (.t 18) (.t 20)) [18,20],Dr 22 (.ld 1 false (.t 21)) [21] 0 0,Dm 23 5,Dv 24 (.i2i .u64 (.t 23)) [23],Dm 25 4,Dv 26 (.bin .rem (.t 25) (.k (.int .i64 8))) [25],Dv 27 (.bin .mul (.k (.int .i64 8)) (.t 26)) [26],Dv 28 (.bin .shl (.t 24) (.t 27)) [24,27],Dv 29 (.bin .or (.t 22) (.t 28)) [22,28],Dv 30 (.iadr none 1 (.t 18) (.t 20)) [18,20],Dn (.st 1 (.t 30) (.t 29)) [30,29]]))) (.reg [Bi 31 .add 13 1,Mv 13 31])))
def zle:AC:=.seq (.reg [iv 2 (.mv (.k (.nsl)))]) (.seq (.reg [Mv 6 0,iv 7 (.lenL (.t 6)),Bi 8 .add 7 7,Bi 9 .quo 8 8,ic 10 (.mk 1 [.int .u64 0] (.t 9)),Mv 3 10]) (.seq (.seq (.reg [Mv 11 0,iv 12 (.lenL (.t 11)),iv 13 (.mv (.k (.int .i64 0)))]) (.blk 0 (.loop zdX))) (.seq (.reg [Mv 32 3,Mv 2 32]) (.ret))))
def zp8:AFn:=⟨33,zle,[.tmp 2],none⟩
def zcR:AC:=.seq (.reg [Bi 8 .lss 7 4]) (.seq (.cond (.t 8) (.skip) (.exit 0)) (.seq (.blk 1 (.seq (.reg [Mv 9 7,Mv 6 9]) (.draw [Dm 11 6,Dm 12 6,Dv 13 (.iadr (some 4) 1 (.t 2) (.t 12)) [2,12],Dr 14 (.ld 1 false (.t 13)) [13] 0 0,Dm 15 6,Dv 16 (.iadr (some 4) 1 (.t 3) (.t 15)) [3,15],Dr 17 (.ld 1 false (.t 16)) [16] 0 0,Dm 18 5,Dc 19 (.call zbZ [.t 14,.t 17,.t 18]) [14,17,18],Dm 10 19,Dv 20 (.ext (.t 10) 0) [10],Dv 21 (.ext (.t 10) 1) [10],Dv 22 (.iadr (some 4) 1 (.t 4) (.t 11)) [4,11],Dn (.st 1 (.t 22) (.t 20)) [22,20],Dm 5 21]))) (.reg [Bi 23 .add 7 1,Mv 7 23])))
def ziI:AC:=.seq (.reg [iv 2 (.boxv (.t 0)),iv 3 (.boxv (.t 1)),ic 4 (.alloc (zaS (.int .u64 0) 4)),iv 5 (.mv (.k (.int .u64 0)))]) (.seq (.seq (.reg [iv 7 (.mv (.k (.int .i64 0)))]) (.blk 0 (.loop zcR))) (.seq (.reg [ir 24 (.ld 4 true (.t 4)),Mv 25 5,jc (.st 4 (.t 4) (.t 24)),Mv 5 25]) (.ret)))
def zmS:AFn:=⟨26,ziI,[.cell 4 4 true,.tmp 5],none⟩
def zjM:AC:=.seq (.reg [ic 0 (.alloc (zaS (.int .u64 0) 4))]) (.seq (.reg [iv 1 (.build (zaS (.int .u64 0) 4) [(0,1,.k (.int .u64 4891460686036598785)),(1,1,.k (.int .u64 2896914383306846353)),(2,1,.k (.int .u64 13281191951274694749)),(3,1,.k (.int .u64 3486998266802970665))]),jc (.st 4 (.t 0) (.t 1))]) (.ret))
def zok:AFn:=⟨2,zjM,[.cell 0 4 true],none⟩
def zdi:AC:=.seq (.reg [Bi 6 .lss 5 512]) (.seq (.cond (.t 6) (.skip) (.exit 0)) (.seq (.blk 1 (.reg [ir 7 (.ld 4 true (.t 3)),ir 8 (.ld 4 true (.t 3)),ir 9 (.call zgy [.t 7,.t 8]),ir 10 (.call zd6 [.t 9]),jc (.st 4 (.t 3) (.t 10))])) (.reg [Bi 11 .add 5 1,Mv 5 11])))
def zjN:AC:=.seq (.reg [iv 1 (.boxv (.t 0)),ic 2 (.alloc (zaS (.int .u64 0) 4))]) (.seq (.reg [iv 4 (.build (zaS (.int .u64 0) 4) [(0,1,.k (.int .u64 1))]),ic 3 (.alloc (zaS (.int .u64 0) 4)),jc (.st 4 (.t 3) (.t 4))]) (.seq (.seq (.reg [iv 5 (.mv (.k (.int .i64 0)))]) (.blk 0 (.loop zdi))) (.seq (.reg [ir 12 (.ld 4 true (.t 1)),ir 13 (.ld 4 true (.t 3)),ir 14 (.call zcT [.t 12,.t 13]),iv 15 (.build (zaS (.int .u64 0) 4) [(0,4,.t 14)]),jc (.st 4 (.t 2) (.t 15))]) (.ret))))
def zol:AFn:=⟨16,zjN,[.cell 2 4 true],none⟩
def zco:AC:=.seq (.reg [Bi 6 .lss 5 6]) (.seq (.cond (.t 6) (.skip) (.exit 0)) (.seq (.blk 1 (.reg [Mv 7 2,Mv 8 1,Mv 9 2,Bt 10 .mul 8 9,iv 11 (.bin .sub (.k (.int .u64 2)) (.t 10)),Bt 12 .mul 7 11,Mv 2 12])) (.reg [Bi 13 .add 5 1,Mv 5 13])))
def zhN:AC:=.seq (.reg [iv 0 (.mv (.k (.int .u64 0)))]) (.seq (.reg [ir 3 (.call zbR []),iv 4 (.idxA 4 1 false (.t 3) (.k (.int .i64 0))),Mv 1 4,iv 2 (.mv (.k (.int .u64 1)))]) (.seq (.seq (.reg [iv 5 (.mv (.k (.int .i64 0)))]) (.blk 0 (.loop zco))) (.seq (.reg [Mv 14 2,iv 15 (.un .neg (.t 14)),Mv 0 15]) (.ret))))
def zlf:AFn:=⟨16,zhN,[.tmp 0],none⟩
def zlg:AC:=.seq (.reg [iv 8 (.mv (.k (.int .u64 0))),iv 9 (.mv (.k (.int .u64 0)))]) (.seq (.reg [Mv 14 1,Mv 15 2,ir 16 (.call zcM [.t 14,.t 15]),Mv 13 16,Ex 17 13 0,Ex 18 13 1,Mv 10 17,Mv 11 18]) (.seq (.reg [Mv 20 11,Mv 21 0,ic 22 (.call zaN [.t 20,.t 21,.k (.int .u64 0)]),Mv 19 22,Ex 23 19 0,Ex 24 19 1,Mv 11 23,Mv 12 24]) (.seq (.reg [Mv 25 10,Mv 26 12,Bt 27 .add 25 26,Mv 10 27]) (.seq (.reg [Mv 29 11,Mv 30 3,ic 31 (.call zaN [.t 29,.t 30,.k (.int .u64 0)]),Mv 28 31,Ex 32 28 0,Ex 33 28 1,Mv 11 32,Mv 12 33]) (.seq (.reg [Mv 34 11,Mv 35 10,Mv 36 12,Bt 37 .add 35 36,Mv 8 34,Mv 9 37]) (.ret))))))
def zp9:AFn:=⟨38,zlg,[.tmp 8,.tmp 9],none⟩
def zhl:AC:=.seq (.reg [iv 1 (.boxv (.t 0)),ic 2 (.alloc (zaS (.int .u64 0) 4))]) (.seq (.seq (.draw [Dr 6 (.ld 4 true (.t 1)) [1] 0 1,Dr 7 (.call zbR []) [] 0 1,Dr 8 (.call zeA [.t 6,.t 7]) [6,7] 0 1,Dm 5 8,Dv 9 (.ext (.t 5) 0) [5],Dv 10 (.ext (.t 5) 1) [5],ic 3 (.alloc (zaS (.int .u64 0) 4)),Dn (.st 4 (.t 3) (.t 9)) [3,9],Dm 4 10]) (.seq (.reg [Mv 11 4,iv 12 (.bin .eql (.t 11) (.k (.int .u64 0)))]) (.cond (.t 12) (.seq (.reg [ir 13 (.ld 4 true (.t 3)),jc (.st 4 (.t 2) (.t 13))]) (.ret)) (.skip)))) (.seq (.reg [ir 14 (.ld 4 true (.t 1)),jc (.st 4 (.t 2) (.t 14))]) (.ret)))
def zon:AFn:=⟨15,zhl,[.cell 2 4 true],none⟩
def ziJ:AC:=.seq (.seq (.reg [Mv 9 7,Mv 10 1,Bt 11 .lss 9 10]) (.cond (.t 11) (.skip) (.exit 0))) (.seq (.blk 1 (.seq (.seq (.reg [Fa 14 2 2,Ld 15 14,Bi 16 .eql 15 136]) (.cond (.t 16) (.seq (.reg [ir 17 (.ld 4 true (.t 2)),ir 18 (.call ze0 [.t 17]),jc (.st 4 (.t 2) (.t 18))]) (.seq (.reg [Fa 19 1 2,jc (.st 1 (.t 19) (.k (.int .i64 0)))]) (.reg [Fa 20 2 2,jc (.st 1 (.t 20) (.k (.int .i64 0)))]))) (.skip))) (.seq (.reg [Mv 21 6,Fa 22 0 2,Ld 23 22,Fa 24 2 2,Ld 25 24,Ia 26 23 25,Ld 27 26,iv 28 (.slit 1 1 [.int .u8 0] [(0,.t 27)]),ic 29 (.app 1 false (.t 21) (.t 28)),Mv 6 29]) (.reg [Fa 30 2 2,Ld 31 30,Bi 32 .add 31 1,Fa 33 2 2,Sx 33 32])))) (.reg [Mv 12 7,Bi 13 .add 12 1,Mv 7 13]))
def zi4:AC:=.seq (.reg [ic 2 (.box (.t 0)),ic 4 (.alloc [.nsl,.int .i64 0,.int .i64 0,.int .i64 0]),iv 5 (.mv (.k (.nsl)))]) (.seq (.reg [iv 8 (.slit 1 0 [.int .u8 0] []),Mv 6 8]) (.seq (.seq (.reg [iv 7 (.mv (.k (.int .i64 0)))]) (.blk 0 (.loop ziJ))) (.seq (.reg [ir 34 (.ld 4 true (.t 2)),Mv 35 6,jc (.st 4 (.t 4) (.t 34)),Mv 5 35]) (.ret))))
def ze4:AFn:=⟨36,zi4,[.cell 4 4 true,.tmp 5],none⟩
def znb:AC:=.seq (.reg [ic 2 (.box (.t 0)),ic 3 (.box (.t 1)),iv 4 (.mv (.k (.bool false)))]) (.seq (.reg [Fa 5 3 2,jc (.st 1 (.t 5) (.k (.str ⟨#[]⟩))),Fa 6 3 3,jc (.st 1 (.t 6) (.k (.str ⟨#[]⟩)))]) (.seq (.reg [ir 7 (.ld 4 true (.t 2)),ir 8 (.ld 4 true (.t 3)),iv 9 (.eq (.agg [.i,.i,.i,.s]) false (.t 7) (.t 8)),Mv 4 9]) (.ret)))
def zr1:AFn:=⟨10,znb,[.tmp 4],none⟩
def zdY:AC:=.seq (.reg [iv 2 (.mv (.k (.int .i64 0)))]) (.seq (.reg [Mv 6 0,ir 7 (.call zbW [.t 6]),Mv 5 7,Ex 8 5 0,Ex 9 5 1,ic 3 (.alloc (zaS (.int .u64 0) 4)),jc (.st 4 (.t 3) (.t 8)),Mv 4 9]) (.seq (.reg [Mv 10 4,Mv 2 10]) (.ret)))
def zi5:AFn:=⟨11,zdY,[.tmp 2],none⟩
def zf1:AC:=.seq (.reg [iv 2 (.mv (.k (.int .i64 0)))]) (.seq (.reg [Mv 6 0,ir 7 (.call ziu [.t 6]),Mv 5 7,Ex 8 5 0,Ex 9 5 1,ic 3 (.alloc (zaS (.int .u64 0) 12)),jc (.st 12 (.t 3) (.t 8)),Mv 4 9]) (.seq (.reg [Mv 10 4,Mv 2 10]) (.ret)))
def zi6:AFn:=⟨11,zf1,[.tmp 2],none⟩
def ze5:AC:=.seq (.reg [ic 2 (.alloc (zaS (.int .u64 0) 12)),iv 3 (.mv (.k (.int .i64 0)))]) (.seq (.reg [ir 7 (.call zij []),Mv 4 7]) (.seq (.reg [Mv 9 4,Mv 10 0,ir 11 (.call zeE [.t 9,.t 10]),Mv 8 11,Ex 12 8 0,Ex 13 8 1,ic 5 (.alloc (zaS (.int .u64 0) 12)),jc (.st 12 (.t 5) (.t 12)),Mv 6 13]) (.seq (.blk 0 (.seq (.reg [Mv 15 6,Bi 16 .neq 15 0,Mv 14 16]) (.cond (.t 14) (.seq (.reg [iv 17 (.build (zaS (.int .u64 0) 12) []),Mv 18 6,jc (.st 12 (.t 2) (.t 17)),Mv 3 18]) (.ret)) (.seq (.draw [Dm 20 4,Dr 21 (.ld 12 true (.t 5)) [5] 0 0,ir 22 (.call zeF []),Dr 23 (.call zeG [.t 22]) [22] 0 0,Dr 24 (.call zfg [.t 20,.t 21,.t 23]) [20,21,23] 0 0,ir 25 (.call zjz []),Dv 26 (.fld 0 12 true (.t 25)) [25],Dv 27 (.eq (.agg (zaS .i 12)) true (.t 24) (.t 26)) [24,26],Dm 19 27]) (.cond (.t 19) (.seq (.reg [iv 28 (.build (zaS (.int .u64 0) 12) []),jc (.st 12 (.t 2) (.t 28)),iv 3 (.mv (.k (.int .i64 4)))]) (.ret)) (.skip)))))) (.seq (.reg [ir 29 (.ld 12 true (.t 5)),iv 30 (.build (zaS (.int .u64 0) 12) [(0,12,.t 29)]),jc (.st 12 (.t 2) (.t 30)),iv 3 (.mv (.k (.int .i64 0)))]) (.ret)))))
def zqa:AFn:=⟨31,ze5,[.cell 2 12 true,.tmp 3],none⟩
def zct:AC:=.seq (.reg [Bt 13 .lss 12 11]) (.seq (.cond (.t 13) (.skip) (.exit 0)) (.seq (.blk 1 (.seq (.reg [Mv 14 12,Ia 15 10 12,Ld 16 15,Mv 6 14,Mv 7 16]) (.reg [Mv 17 5,Mv 18 7,iv 19 (.i2i .i64 (.t 18)),Mv 20 6,iv 21 (.bin .mul (.k (.int .i64 8)) (.t 20)),Bt 22 .shl 19 21,Bt 23 .or 17 22,Mv 5 23]))) (.reg [Bi 24 .add 12 1,Mv 12 24])))
def zei:AC:=.seq (.reg [iv 4 (.mv (.k (.int .i64 0)))]) (.seq (.reg [iv 5 (.mv (.k (.int .i64 0)))]) (.seq (.seq (.reg [Mv 8 0,Mv 9 1,ic 10 (.call zcv [.t 8,.t 9]),iv 11 (.lenL (.t 10)),iv 12 (.mv (.k (.int .i64 0)))]) (.blk 0 (.loop zct))) (.seq (.reg [Mv 25 5,Mv 4 25]) (.ret))))
def zg6:AFn:=⟨26,zei,[.tmp 4],none⟩
def zdp:AC:=.seq (.reg [iv 4 (.mv (.k (.nsl)))]) (.seq (.seq (.reg [Mv 6 0,Nk 7 6,Fa 8 0 7,Ld 9 8,iv 10 (.lenL (.t 9)),Mv 11 1,Bt 12 .lss 10 11]) (.cond (.t 12) (.seq (.reg [Mv 13 0,Nk 14 13,Fa 15 1 14,jc (.st 1 (.t 15) (.k (.bool true)))]) (.reg [iv 1 (.mv (.k (.int .i64 0)))])) (.skip))) (.seq (.reg [Mv 16 0,Nk 17 16,Fa 18 0 17,Ld 19 18,Mv 20 1,Mv 21 1,iv 22 (.slice .slc 1 (.t 19) none (some (.t 20)) (some (.t 21))),Mv 5 22]) (.seq (.reg [Mv 23 0,Mv 24 0,Nk 25 24,Fa 26 0 25,Ld 27 26,Mv 28 1,iv 29 (.slice .slc 1 (.t 27) (some (.t 28)) none none),Nk 30 23,Fa 31 0 30,Sx 31 29]) (.seq (.reg [Mv 32 5,Mv 4 32]) (.ret)))))
def zio:AFn:=⟨33,zdp,[.tmp 4],none⟩
def zjQ:AC:=.seq (.reg [iv 5 (.slit 1 0 [.int .u8 0] []),Mv 6 0,ic 7 (.app 1 false (.t 5) (.t 6)),Mv 2 7]) (.ret)
def zfp:AFn:=⟨8,zjQ,[.tmp 2],some (.reg [iv 2 (.mv (.k (.nsl)))],3,4,.cond (.t 4)
  (.seq (.reg [iv 2 (.mv (.k (.nsl)))])
  (.ret))
  (.skip))⟩
def zbU:AC:=.seq (.reg [Bt 10 .lss 9 8]) (.seq (.cond (.t 10) (.skip) (.exit 0)) (.seq (.blk 1 (.seq (.reg [Mv 11 9,Mv 7 11]) (.reg [Mv 12 0,Mv 13 1,Mv 14 7,iv 15 (.bin .mul (.k (.int .i64 8)) (.t 14)),Bt 16 .shr 13 15,iv 17 (.i2i .u8 (.t 16)),iv 18 (.slit 1 1 [.int .u8 0] [(0,.t 17)]),ic 19 (.app 1 false (.t 12) (.t 18)),Mv 0 19]))) (.reg [Bi 20 .add 9 1,Mv 9 20])))
def zhm:AC:=.seq (.reg [iv 6 (.mv (.k (.nsl)))]) (.seq (.seq (.reg [Mv 8 2,iv 9 (.mv (.k (.int .i64 0)))]) (.blk 0 (.loop zbU))) (.seq (.reg [Mv 21 0,Mv 6 21]) (.ret)))
def zop:AFn:=⟨22,zhm,[.tmp 6],none⟩
def zf2:AC:=.draw [Dm 6 0,Dm 7 1,Dv 8 (.bin .quo (.t 7) (.k (.int .i64 8))) [7],Dv 9 (.nck (.t 6)) [6],Dv 10 (.fadr 0 (.t 9)) [9],Dv 11 (.iadr (some 25) 1 (.t 10) (.t 8)) [10,8],Dr 12 (.ld 1 false (.t 11)) [11] 0 0,Dm 13 2,Dv 14 (.i2i .u64 (.t 13)) [13],Dm 15 1,Dv 16 (.bin .rem (.t 15) (.k (.int .i64 8))) [15],Dv 17 (.bin .mul (.k (.int .i64 8)) (.t 16)) [16],Dv 18 (.bin .shl (.t 14) (.t 17)) [14,17],Dv 19 (.bin .xor (.t 12) (.t 18)) [12,18],Dv 20 (.nck (.t 6)) [6],Dv 21 (.fadr 0 (.t 20)) [20],Dv 22 (.iadr (some 25) 1 (.t 21) (.t 8)) [21,8],Dn (.st 1 (.t 22) (.t 19)) [22,19]]
def zi7:AFn:=⟨23,zf2,[],none⟩
def za1:AC:=.seq (.reg [Bi 5 .lss 4 24]) (.seq (.cond (.t 5) (.skip) (.exit 0)) (.seq (.blk 1 (.seq (.reg [Mv 6 4,Mv 3 6]) (.reg [ir 7 (.ld 25 true (.t 1)),Mv 8 3,ir 9 (.call zcH [.t 7,.t 8]),jc (.st 25 (.t 1) (.t 9))]))) (.reg [Bi 10 .add 4 1,Mv 4 10])))
def zdm:AC:=.seq (.reg [ic 1 (.box (.t 0)),ic 2 (.alloc (zaS (.int .u64 0) 25))]) (.seq (.seq (.reg [iv 4 (.mv (.k (.int .i64 0)))]) (.blk 0 (.loop za1))) (.seq (.reg [ir 11 (.ld 25 true (.t 1)),jc (.st 25 (.t 2) (.t 11))]) (.ret)))
def zfL:AFn:=⟨12,zdm,[.cell 2 25 true],none⟩
def zej:AC:=.seq (.reg [ic 1 (.box (.t 0)),ic 2 (.alloc (zaS (.int .u8 0) 200))]) (.seq (.reg [iv 3 (.slice (.arr 25) 1 (.t 1) none none none),ir 4 (.call zgo [.t 3]),iv 5 (.s2a 200 (.t 4)),ir 6 (.ld 200 true (.t 5)),jc (.st 200 (.t 2) (.t 6))]) (.ret))
def zg7:AFn:=⟨7,zej,[.cell 2 200 true],none⟩
def zc9:AC:=.seq (.reg [Bi 46 .lss 45 6]) (.seq (.cond (.t 46) (.skip) (.exit 0)) (.seq (.blk 1 (.reg [Mv 47 5,Mv 48 0,iv 49 (.iadr none 1 (.t 48) (.k (.int .i64 0))),Ld 50 49,Mv 51 5,Bt 52 .mul 50 51,iv 53 (.bin .sub (.k (.int .u64 2)) (.t 52)),Bt 54 .mul 47 53,Mv 5 54])) (.reg [Bi 55 .add 45 1,Mv 45 55])))
def zf3:AC:=.seq (.reg [Bt 76 .lss 75 74]) (.seq (.cond (.t 76) (.skip) (.exit 2)) (.seq (.blk 3 (.reg [Mv 77 4,Mv 78 4,Mv 79 4,Nk 80 79,Fa 81 2 80,Ld 82 81,ir 83 (.call zbG [.t 78,.t 82,.k (.int .u64 0)]),Nk 84 77,Fa 85 2 84,Sx 85 83])) (.reg [Bi 86 .add 75 1,Mv 75 86])))
def zpv:AC:=.seq (.reg [iv 2 (.mv (.k (.nilp))),iv 3 (.mv (.k (.int .i64 0)))]) (.seq (.seq (.reg [Mv 6 0,iv 7 (.lenL (.t 6)),Bi 8 .lss 7 1,Mv 9 8,Gv 10 (.mv (.t 0)) 9 false [],Gv 11 (.lenL (.t 10)) 9 false [],Gv 12 (.bin .gtr (.t 11) (.k (.int .i64 16))) 9 false [],iv 13 (.pick (.t 9) (.k (.bool true)) (.t 12)),Mv 14 13,Gv 15 (.mv (.t 0)) 14 false [],Gv 16 (.iadr none 1 (.t 15) (.k (.int .i64 0))) 14 false [],Gr 17 (.ld 1 false (.t 16)) 14 false [] 0 0,Gv 18 (.bin .and (.t 17) (.k (.int .u64 1))) 14 false [],Gv 19 (.bin .eql (.t 18) (.k (.int .u64 0))) 14 false [],iv 20 (.pick (.t 14) (.k (.bool true)) (.t 19)),Mv 21 20,Gv 22 (.mv (.t 0)) 21 false [],Gv 23 (.mv (.t 0)) 21 false [],Gv 24 (.lenL (.t 23)) 21 false [],Gv 25 (.bin .sub (.t 24) (.k (.int .i64 1))) 21 false [],Gv 26 (.iadr none 1 (.t 22) (.t 25)) 21 false [],Gr 27 (.ld 1 false (.t 26)) 21 false [] 0 0,Gv 28 (.bin .eql (.t 27) (.k (.int .u64 0))) 21 false [],iv 29 (.pick (.t 21) (.k (.bool true)) (.t 28)),Mv 30 29,Gv 31 (.mv (.t 0)) 30 false [],Gv 32 (.lenL (.t 31)) 30 false [],Gv 33 (.bin .eql (.t 32) (.k (.int .i64 1))) 30 false [],Gv 34 (.mv (.t 33)) 30 false [],Gv 35 (.mv (.t 0)) 34 true [],Gv 36 (.iadr none 1 (.t 35) (.k (.int .i64 0))) 34 true [],Gr 37 (.ld 1 false (.t 36)) 34 true [] 0 0,Gv 38 (.bin .eql (.t 37) (.k (.int .u64 1))) 34 true [],Gv 39 (.pick (.t 34) (.t 38) (.k (.bool false))) 30 false [],iv 40 (.pick (.t 30) (.k (.bool true)) (.t 39))]) (.cond (.t 40) (.seq (.reg [iv 2 (.mv (.k (.nilp))),iv 3 (.mv (.k (.int .i64 1)))]) (.ret)) (.skip))) (.seq (.reg [Mv 41 0,ir 42 (.call zaT [.t 41]),iv 43 (.build [.nsl,.int .u64 0,.nsl] [(0,1,.t 42)]),ic 44 (.box (.t 43)),Mv 4 44]) (.seq (.reg [iv 5 (.mv (.k (.int .u64 1)))]) (.seq (.seq (.reg [iv 45 (.mv (.k (.int .i64 0)))]) (.blk 0 (.loop zc9))) (.seq (.reg [Mv 56 4,Mv 57 5,iv 58 (.un .neg (.t 57)),Nk 59 56,Fa 60 1 59,Sx 60 58]) (.seq (.reg [Mv 61 4,Mv 62 0,iv 63 (.lenL (.t 62)),ic 64 (.mk 1 [.int .u64 0] (.t 63)),Nk 65 61,Fa 66 2 65,Sx 66 64]) (.seq (.reg [Mv 67 4,Nk 68 67,Fa 69 2 68,Ld 70 69,iv 71 (.iadr none 1 (.t 70) (.k (.int .i64 0))),jc (.st 1 (.t 71) (.k (.int .u64 1)))]) (.seq (.seq (.reg [Mv 72 0,iv 73 (.lenL (.t 72)),iv 74 (.bin .mul (.k (.int .i64 128)) (.t 73)),iv 75 (.mv (.k (.int .i64 0)))]) (.blk 2 (.loop zf3))) (.seq (.reg [Mv 87 4,Mv 2 87,iv 3 (.mv (.k (.int .i64 0)))]) (.ret))))))))))
def ztT:AFn:=⟨88,zpv,[.tmp 2,.tmp 3],none⟩
def zce:AC:=.seq (.seq (.reg [Mv 16 6,Bi 17 .geq 16 0]) (.cond (.t 17) (.skip) (.exit 0))) (.seq (.blk 1 (.reg [Mv 20 0,Mv 21 5,Mv 22 1,Mv 23 6,Bi 24 .quo 23 64,Ia 25 22 24,Ld 26 25,Mv 27 6,Bi 28 .rem 27 64,Bt 29 .shr 26 28,iv 30 (.bin .and (.t 29) (.k (.int .u64 1))),ir 31 (.call zbG [.t 20,.t 21,.t 30]),Mv 5 31])) (.reg [Mv 18 6,Bi 19 .sub 18 1,Mv 6 19]))
def zdz:AC:=.seq (.reg [iv 4 (.mv (.k (.nsl)))]) (.seq (.reg [Mv 7 0,Nk 8 7,Fa 9 0 8,Ld 10 9,iv 11 (.lenL (.t 10)),ic 12 (.mk 1 [.int .u64 0] (.t 11)),Mv 5 12]) (.seq (.seq (.reg [Mv 13 1,ir 14 (.call zfT [.t 13]),Bi 15 .sub 14 1,Mv 6 15]) (.blk 0 (.loop zce))) (.seq (.reg [Mv 32 5,Mv 4 32]) (.ret))))
def zgr:AFn:=⟨33,zdz,[.tmp 4],none⟩
def zcf:AC:=.seq (.reg [Bt 9 .lss 8 7]) (.seq (.cond (.t 9) (.skip) (.exit 0)) (.seq (.blk 1 (.seq (.reg [Mv 10 8,Mv 5 10]) (.seq (.reg [Mv 11 1,Mv 12 0,Mv 13 5,Ia 14 12 13,Ld 15 14,Bt 16 .eql 11 15]) (.cond (.t 16) (.seq (.reg [Mv 17 5,Mv 4 17]) (.ret)) (.skip))))) (.reg [Bi 18 .add 8 1,Mv 8 18])))
def zdB:AC:=.seq (.reg [iv 4 (.mv (.k (.int .i64 0)))]) (.seq (.seq (.reg [Mv 6 0,iv 7 (.lenL (.t 6)),iv 8 (.mv (.k (.int .i64 0)))]) (.blk 0 (.loop zcf))) (.seq (.reg [iv 4 (.mv (.k (.int .i64 (-1))))]) (.ret)))
def zgs:AFn:=⟨19,zdB,[.tmp 4],none⟩
def zd0:AC:=.seq (.reg [Bi 8 .lss 7 4]) (.seq (.cond (.t 8) (.skip) (.exit 0)) (.seq (.blk 1 (.seq (.reg [Mv 9 7,Mv 6 9]) (.draw [Dm 11 6,Dm 12 6,Dv 13 (.iadr (some 4) 1 (.t 2) (.t 12)) [2,12],Dr 14 (.ld 1 false (.t 13)) [13] 0 0,Dm 15 6,Dv 16 (.iadr (some 4) 1 (.t 3) (.t 15)) [3,15],Dr 17 (.ld 1 false (.t 16)) [16] 0 0,Dm 18 5,Dc 19 (.call zaN [.t 14,.t 17,.t 18]) [14,17,18],Dm 10 19,Dv 20 (.ext (.t 10) 0) [10],Dv 21 (.ext (.t 10) 1) [10],Dv 22 (.iadr (some 4) 1 (.t 4) (.t 11)) [4,11],Dn (.st 1 (.t 22) (.t 20)) [22,20],Dm 5 21]))) (.reg [Bi 23 .add 7 1,Mv 7 23])))
def zlk:AC:=.seq (.reg [iv 2 (.boxv (.t 0)),iv 3 (.boxv (.t 1)),ic 4 (.alloc (zaS (.int .u64 0) 4))]) (.seq (.reg [iv 5 (.mv (.k (.int .u64 0)))]) (.seq (.seq (.reg [iv 7 (.mv (.k (.int .i64 0)))]) (.blk 0 (.loop zd0))) (.seq (.reg [ir 24 (.ld 4 true (.t 4)),jc (.st 4 (.t 4) (.t 24))]) (.ret))))
def zqc:AFn:=⟨25,zlk,[.cell 4 4 true],none⟩
def zf8:AC:=.seq (.reg [iv 4 (.mv (.k (.int .u64 0))),iv 5 (.mv (.k (.int .u64 0)))]) (.seq (.reg [Mv 14 0,iv 15 (.bin .and (.t 14) (.k (.int .u64 4294967295))),Mv 6 15]) (.seq (.reg [Mv 16 0,iv 17 (.bin .shr (.t 16) (.k (.int .u64 32))),Mv 7 17]) (.seq (.reg [Mv 18 1,iv 19 (.bin .and (.t 18) (.k (.int .u64 4294967295))),Mv 8 19]) (.seq (.reg [Mv 20 1,iv 21 (.bin .shr (.t 20) (.k (.int .u64 32))),Mv 9 21]) (.seq (.reg [Mv 22 6,Mv 23 8,Bt 24 .mul 22 23,Mv 10 24]) (.seq (.reg [Mv 25 7,Mv 26 8,Bt 27 .mul 25 26,Mv 28 10,iv 29 (.bin .shr (.t 28) (.k (.int .u64 32))),Bt 30 .add 27 29,Mv 11 30]) (.seq (.reg [Mv 31 11,iv 32 (.bin .and (.t 31) (.k (.int .u64 4294967295))),Mv 12 32]) (.seq (.reg [Mv 33 11,iv 34 (.bin .shr (.t 33) (.k (.int .u64 32))),Mv 13 34]) (.seq (.reg [Mv 35 12,Mv 36 6,Mv 37 9,Bt 38 .mul 36 37,Bt 39 .add 35 38,Mv 12 39]) (.seq (.reg [Mv 40 7,Mv 41 9,Bt 42 .mul 40 41,Mv 43 13,Bt 44 .add 42 43,Mv 45 12,iv 46 (.bin .shr (.t 45) (.k (.int .u64 32))),Bt 47 .add 44 46,Mv 4 47]) (.seq (.reg [Mv 48 0,Mv 49 1,Bt 50 .mul 48 49,Mv 5 50]) (.ret))))))))))))
def zjj:AFn:=⟨51,zf8,[.tmp 4,.tmp 5],none⟩
def zmy:AC:=.seq (.seq (.reg [Mv 15 6,Bi 16 .lss 15 8]) (.cond (.t 16) (.skip) (.exit 2))) (.seq (.blk 3 (.seq (.reg [Mv 19 3,Mv 20 5,iv 21 (.bin .rem (.t 20) (.k (.int .u64 256))),iv 22 (.i2i .u8 (.t 21)),iv 23 (.slit 1 1 [.int .u8 0] [(0,.t 22)]),ic 24 (.app 1 true (.t 19) (.t 23)),Mv 3 24]) (.reg [Mv 25 5,iv 26 (.bin .quo (.t 25) (.k (.int .u64 256))),Mv 5 26]))) (.reg [Mv 17 6,Bi 18 .add 17 1,Mv 6 18]))
def zmz:AC:=.seq (.seq (.reg [Mv 8 4,Bi 9 .lss 8 25]) (.cond (.t 9) (.skip) (.exit 0))) (.seq (.blk 1 (.seq (.reg [Mv 12 4,iv 13 (.iadr (some 25) 1 (.t 1) (.t 12)),Ld 14 13,Mv 5 14]) (.seq (.reg [iv 6 (.mv (.k (.int .i64 0)))]) (.blk 2 (.loop zmy))))) (.reg [Mv 10 4,Bi 11 .add 10 1,Mv 4 11]))
def znv:AC:=.seq (.reg [iv 1 (.boxv (.t 0)),iv 2 (.mv (.k (.nsl)))]) (.seq (.reg [iv 7 (.slit 1 0 [.int .u8 0] []),Mv 3 7]) (.seq (.seq (.reg [iv 4 (.mv (.k (.int .i64 0)))]) (.blk 0 (.loop zmz))) (.seq (.reg [Mv 27 3,Mv 2 27]) (.ret))))
def zh1:AFn:=⟨28,znv,[.tmp 2],none⟩
def zkS:AC:=.seq (.seq (.reg [Mv 7 4,Bi 8 .lss 7 24]) (.cond (.t 8) (.skip) (.exit 0))) (.seq (.blk 1 (.reg [ir 11 (.ld 1600 true (.t 3)),Mv 12 4,ir 13 (.call zhC [.t 11,.t 12]),jc (.st 1600 (.t 3) (.t 13))])) (.reg [Mv 9 4,Bi 10 .add 9 1,Mv 4 10]))
def zlz:AC:=.seq (.reg [iv 1 (.boxv (.t 0)),ic 2 (.alloc (zaS (.int .u64 0) 25))]) (.seq (.reg [ir 5 (.ld 25 true (.t 1)),ir 6 (.call zgh [.t 5]),ic 3 (.alloc (zaS (.bool false) 1600)),jc (.st 1600 (.t 3) (.t 6))]) (.seq (.seq (.reg [iv 4 (.mv (.k (.int .i64 0)))]) (.blk 0 (.loop zkS))) (.seq (.reg [ir 14 (.ld 1600 true (.t 3)),ir 15 (.call zhD [.t 14]),jc (.st 25 (.t 2) (.t 15))]) (.ret))))
def zgz:AFn:=⟨16,zlz,[.cell 2 25 true],none⟩
def zkT:AC:=.seq (.seq (.reg [Mv 9 4,Bi 10 .geq 9 0]) (.cond (.t 10) (.skip) (.exit 0))) (.seq (.blk 1 (.draw [Dm 13 4,Dv 14 (.bin .quo (.t 13) (.k (.int .i64 8))) [13],Dm 15 4,Dv 16 (.bin .quo (.t 15) (.k (.int .i64 8))) [15],Dv 17 (.iadr (some 25) 1 (.t 3) (.t 16)) [3,16],Dr 18 (.ld 1 false (.t 17)) [17] 0 0,Dv 19 (.bin .mul (.t 18) (.k (.int .u64 256))) [18],Dm 20 0,Dm 21 4,Dv 22 (.iadr none 1 (.t 20) (.t 21)) [20,21],Dr 23 (.ld 1 false (.t 22)) [22] 0 0,Dv 24 (.i2i .u64 (.t 23)) [23],Dv 25 (.bin .add (.t 19) (.t 24)) [19,24],Dv 26 (.iadr (some 25) 1 (.t 3) (.t 14)) [3,14],Dn (.st 1 (.t 26) (.t 25)) [26,25]])) (.reg [Mv 11 4,Bi 12 .sub 11 1,Mv 4 12]))
def zlB:AC:=.seq (.reg [ic 2 (.alloc (zaS (.int .u64 0) 25))]) (.seq (.reg [iv 5 (.build (zaS (.int .u64 0) 25) []),ic 3 (.alloc (zaS (.int .u64 0) 25)),jc (.st 25 (.t 3) (.t 5))]) (.seq (.seq (.reg [Mv 6 0,iv 7 (.lenL (.t 6)),Bi 8 .sub 7 1,Mv 4 8]) (.blk 0 (.loop zkT))) (.seq (.reg [ir 27 (.ld 25 true (.t 3)),jc (.st 25 (.t 2) (.t 27))]) (.ret))))
def zgA:AFn:=⟨28,zlB,[.cell 2 25 true],none⟩
def zjk:AC:=.seq (.reg [ic 1 (.box (.t 0)),ic 2 (.alloc [.nsl,.int .i64 0,.int .i64 0,.int .i64 0])]) (.seq (.reg [Fa 3 0 1,Ld 4 3,ir 5 (.call zgg [.t 4]),ir 6 (.call zgf [.t 5]),ic 7 (.call zhB [.t 6]),Fa 8 0 1,Sx 8 7]) (.seq (.reg [Fa 9 3 1,Ld 10 9,Bi 11 .add 10 1,Fa 12 3 1,Sx 12 11]) (.seq (.reg [ir 13 (.ld 4 true (.t 1)),jc (.st 4 (.t 2) (.t 13))]) (.ret))))
def zfa:AFn:=⟨14,zjk,[.cell 2 4 true],none⟩
def zlC:AC:=.seq (.reg [iv 0 (.mv (.k (.nilp)))]) (.seq (.reg [ir 1 (.call zgj []),ir 2 (.call zhE [.t 1]),Mv 0 2]) (.ret))
def zqe:AFn:=⟨3,zlC,[.tmp 0],none⟩
def zdh:AC:=.seq (.reg [ic 4 (.alloc (zaS (.int .u64 0) 12)),iv 5 (.mv (.k (.int .i64 0)))]) (.seq (.seq (.reg [Mv 7 1,iv 8 (.lenL (.t 7)),Bi 9 .neq 8 96]) (.cond (.t 9) (.seq (.reg [iv 10 (.build (zaS (.int .u64 0) 12) []),jc (.st 12 (.t 4) (.t 10)),iv 5 (.mv (.k (.int .i64 1)))]) (.ret)) (.skip))) (.seq (.reg [Mv 11 1,ir 12 (.call zdH [.t 11]),Mv 6 12]) (.seq (.seq (.reg [Mv 13 6,Mv 14 0,Nk 15 14,Fa 16 0 15,Ld 17 16,ir 18 (.call zbI [.t 17]),ir 19 (.call ziR [.t 13,.t 18]),Bi 20 .geq 19 0]) (.cond (.t 20) (.seq (.reg [iv 21 (.build (zaS (.int .u64 0) 12) []),jc (.st 12 (.t 4) (.t 21)),iv 5 (.mv (.k (.int .i64 4)))]) (.ret)) (.skip))) (.seq (.reg [Mv 22 6,iv 23 (.s2a 12 (.t 22)),ir 24 (.ld 12 true (.t 23)),jc (.st 12 (.t 4) (.t 24)),iv 5 (.mv (.k (.int .i64 0)))]) (.ret)))))
def zky:AFn:=⟨25,zdh,[.cell 4 12 true,.tmp 5],none⟩
def zh2:AC:=.seq (.reg [iv 4 (.boxv (.t 1)),iv 5 (.boxv (.t 2)),ic 6 (.alloc (zaS (.int .u64 0) 12))]) (.seq (.draw [Dm 7 0,Dv 8 (.nck (.t 7)) [7],Dv 9 (.fadr 0 (.t 8)) [8],Dr 10 (.ld 1 false (.t 9)) [9] 0 0,Dv 11 (.mkfn (.func zbm) [.t 10] []) [10],Dr 12 (.ld 12 true (.t 4)) [4] 0 0,Dr 13 (.ld 12 true (.t 5)) [5] 0 0,Dr 14 (.call znZ [.t 11,.t 12,.t 13]) [11,12,13] 0 0,Dn (.st 12 (.t 6) (.t 14)) [6,14]]) (.ret))
def zlF:AFn:=⟨15,zh2,[.cell 6 12 true],none⟩
def zd8:AC:=.seq (.seq (.reg [Mv 5 3,Bi 6 .geq 5 0]) (.cond (.t 6) (.skip) (.exit 0))) (.seq (.blk 1 (.draw [Dm 9 3,Dm 10 3,Dv 11 (.iadr (some 12) 1 (.t 1) (.t 10)) [1,10],Dr 12 (.ld 1 false (.t 11)) [11] 0 0,Dv 13 (.bin .shr (.t 12) (.k (.int .u64 1))) [12],Dm 14 2,Dv 15 (.bin .shl (.t 14) (.k (.int .u64 63))) [14],Dv 16 (.bin .or (.t 13) (.t 15)) [13,15],Dm 17 3,Dv 18 (.iadr (some 12) 1 (.t 1) (.t 17)) [1,17],Dr 19 (.ld 1 false (.t 18)) [18] 0 0,Dv 20 (.bin .and (.t 19) (.k (.int .u64 1))) [19],Dv 21 (.iadr (some 12) 1 (.t 1) (.t 9)) [1,9],Dn (.st 1 (.t 21) (.t 16)) [21,16],Dm 2 20])) (.reg [Mv 7 3,Bi 8 .sub 7 1,Mv 3 8]))
def zgU:AC:=.seq (.reg [iv 0 (.mv (.k (.nilp)))]) (.seq (.reg [ir 4 (.call zgj []),ic 1 (.alloc (zaS (.int .u64 0) 12)),jc (.st 12 (.t 1) (.t 4)),iv 2 (.mv (.k (.int .u64 0)))]) (.seq (.seq (.reg [iv 3 (.mv (.k (.int .i64 11)))]) (.blk 0 (.loop zd8))) (.seq (.reg [ir 22 (.ld 12 true (.t 1)),ir 23 (.call zhE [.t 22]),Mv 0 23]) (.ret))))
def zkz:AFn:=⟨24,zgU,[.tmp 0],none⟩
def zgV:AC:=.seq (.reg [ic 2 (.alloc (zaS (.int .u64 0) 12))]) (.seq (.reg [Mv 3 0,Nk 4 3,Fa 5 0 4,Ld 6 5,ir 7 (.call zbI [.t 6]),iv 8 (.s2a 12 (.t 7)),ir 9 (.ld 12 true (.t 8)),jc (.st 12 (.t 2) (.t 9))]) (.ret))
def zkA:AFn:=⟨10,zgV,[.cell 2 12 true],none⟩
def znC:AC:=.seq (.reg [ic 0 (.alloc (zaS (.int .u64 0) 12))]) (.seq (.reg [iv 1 (.build (zaS (.int .u64 0) 12) [(0,1,.k (.int .u64 1))]),iv 2 (.build (zaS (.int .u64 0) 12) [(0,12,.t 1)]),jc (.st 12 (.t 0) (.t 2))]) (.ret))
def zst:AFn:=⟨3,znC,[.cell 0 12 true],none⟩
def zem:AC:=.seq (.reg [ic 2 (.box (.t 0)),ic 4 (.alloc (zaS (.int .u64 0) 25))]) (.seq (.reg [ir 5 (.ld 25 true (.t 2)),ir 6 (.call zcI [.t 5]),ir 7 (.call zcJ [.t 6]),ir 8 (.call zdo [.t 7]),jc (.st 25 (.t 2) (.t 8))]) (.seq (.draw [Dv 9 (.iadr (some 25) 1 (.t 2) (.k (.int .i64 0))) [2],Dr 10 (.ld 1 false (.t 9)) [9] 0 0,Dm 11 1,Dr 12 (.call zdT [.t 11]) [11] 0 0,Dv 13 (.bin .xor (.t 10) (.t 12)) [10,12],Dv 14 (.iadr (some 25) 1 (.t 2) (.k (.int .i64 0))) [2],Dn (.st 1 (.t 14) (.t 13)) [14,13]]) (.seq (.reg [ir 15 (.ld 25 true (.t 2)),jc (.st 25 (.t 4) (.t 15))]) (.ret))))
def zha:AFn:=⟨16,zem,[.cell 4 25 true],none⟩
def zb9:AC:=.seq (.reg [iv 2 (.mv (.k (.nsl)))]) (.seq (.seq (.reg [Mv 3 0,iv 4 (.eq .slc false (.t 3) (.k (.nsl)))]) (.cond (.t 4) (.seq (.reg [iv 2 (.mv (.k (.nsl)))]) (.ret)) (.skip))) (.seq (.reg [iv 5 (.slit 1 0 [.int .u64 0] []),Mv 6 0,ic 7 (.app 1 false (.t 5) (.t 6)),Mv 2 7]) (.ret)))
def zdN:AFn:=⟨8,zb9,[.tmp 2],none⟩
def zaY:AC:=.seq (.reg [Bt 16 .lss 15 14]) (.seq (.cond (.t 16) (.skip) (.exit 0)) (.seq (.blk 1 (.seq (.reg [Mv 17 15,Ia 18 13 15,Ld 19 18,Mv 8 17,Mv 9 19]) (.seq (.reg [Mv 20 7,Mv 21 8,Mv 22 9,iv 23 (.bin .shl (.t 22) (.k (.int .u64 1))),Mv 24 2,Bt 25 .or 23 24,Ia 26 20 21,Sx 26 25]) (.reg [Mv 27 9,iv 28 (.bin .shr (.t 27) (.k (.int .u64 63))),Mv 2 28])))) (.reg [Bi 29 .add 15 1,Mv 15 29])))
def zen:AC:=.seq (.reg [iv 6 (.mv (.k (.nsl)))]) (.seq (.reg [Mv 10 1,iv 11 (.lenL (.t 10)),ic 12 (.mk 1 [.int .u64 0] (.t 11)),Mv 7 12]) (.seq (.seq (.reg [Mv 13 1,iv 14 (.lenL (.t 13)),iv 15 (.mv (.k (.int .i64 0)))]) (.blk 0 (.loop zaY))) (.seq (.reg [Mv 30 0,Mv 31 7,Mv 32 2,ir 33 (.call zbw [.t 30,.t 31,.t 32]),Mv 6 33]) (.ret))))
def zhb:AFn:=⟨34,zen,[.tmp 6],none⟩
def zgC:AC:=.seq (.seq (.reg [Mv 7 3,Bi 8 .geq 7 0]) (.cond (.t 8) (.skip) (.exit 0))) (.seq (.blk 1 (.seq (.reg [Mv 11 0,Mv 12 3,Ia 13 11 12,Ld 14 13,iv 15 (.bin .neq (.t 14) (.k (.int .u64 0)))]) (.cond (.t 15) (.seq (.reg [Mv 16 3,iv 17 (.bin .mul (.k (.int .i64 64)) (.t 16)),Mv 18 0,Mv 19 3,Ia 20 18 19,Ld 21 20,ir 22 (.call zdU [.t 21]),Bt 23 .add 17 22,Mv 2 23]) (.ret)) (.skip)))) (.reg [Mv 9 3,Bi 10 .sub 9 1,Mv 3 10]))
def znH:AC:=.seq (.reg [iv 2 (.mv (.k (.int .i64 0)))]) (.seq (.seq (.reg [Mv 4 0,iv 5 (.lenL (.t 4)),Bi 6 .sub 5 1,Mv 3 6]) (.blk 0 (.loop zgC))) (.seq (.reg [iv 2 (.mv (.k (.int .i64 0)))]) (.ret)))
def zsy:AFn:=⟨24,znH,[.tmp 2],none⟩
def zkY:AC:=.seq (.seq (.reg [Mv 15 6,Bi 16 .lss 15 64]) (.cond (.t 16) (.skip) (.exit 2))) (.seq (.blk 3 (.seq (.reg [Mv 19 4,Bi 20 .rem 19 5,Mv 21 4,Bi 22 .quo 21 5,Mv 23 6,Mv 24 5,iv 25 (.bin .rem (.t 24) (.k (.int .u64 2))),iv 26 (.bin .eql (.t 25) (.k (.int .u64 1))),iv 27 (.iadr (some 5) 320 (.t 3) (.t 20)),iv 28 (.iadr (some 5) 64 (.t 27) (.t 22)),iv 29 (.iadr (some 64) 1 (.t 28) (.t 23)),Sx 29 26]) (.reg [Mv 30 5,iv 31 (.bin .quo (.t 30) (.k (.int .u64 2))),Mv 5 31]))) (.reg [Mv 17 6,Bi 18 .add 17 1,Mv 6 18]))
def zkZ:AC:=.seq (.seq (.reg [Mv 8 4,Bi 9 .lss 8 25]) (.cond (.t 9) (.skip) (.exit 0))) (.seq (.blk 1 (.seq (.reg [Mv 12 4,iv 13 (.iadr (some 25) 1 (.t 1) (.t 12)),Ld 14 13,Mv 5 14]) (.seq (.reg [iv 6 (.mv (.k (.int .i64 0)))]) (.blk 2 (.loop zkY))))) (.reg [Mv 10 4,Bi 11 .add 10 1,Mv 4 11]))
def zlI:AC:=.seq (.reg [iv 1 (.boxv (.t 0)),ic 2 (.alloc (zaS (.bool false) 1600))]) (.seq (.reg [iv 7 (.build (zaS (.bool false) 1600) []),ic 3 (.alloc (zaS (.bool false) 1600)),jc (.st 1600 (.t 3) (.t 7))]) (.seq (.seq (.reg [iv 4 (.mv (.k (.int .i64 0)))]) (.blk 0 (.loop zkZ))) (.seq (.reg [ir 32 (.ld 1600 true (.t 3)),jc (.st 1600 (.t 2) (.t 32))]) (.ret))))
def zgD:AFn:=⟨33,zlI,[.cell 2 1600 true],none⟩
def zmG:AC:=.seq (.seq (.reg [Mv 14 6,Bi 15 .lss 14 64]) (.cond (.t 15) (.skip) (.exit 0))) (.seq (.blk 1 (.draw [Dm 18 6,Dm 19 6,Dv 20 (.iadr (some 5) 320 (.t 2) (.k (.int .i64 0))) [2],Dv 21 (.iadr (some 5) 64 (.t 20) (.k (.int .i64 0))) [20],Dv 22 (.iadr (some 64) 1 (.t 21) (.t 19)) [21,19],Dr 23 (.ld 1 false (.t 22)) [22] 0 0,Dm 24 6,Dv 25 (.iadr (some 64) 1 (.t 5) (.t 24)) [5,24],Dr 26 (.ld 1 false (.t 25)) [25] 0 0,Dv 27 (.eq .bool true (.t 23) (.t 26)) [23,26],Dv 28 (.iadr (some 5) 320 (.t 2) (.k (.int .i64 0))) [2],Dv 29 (.iadr (some 5) 64 (.t 28) (.k (.int .i64 0))) [28],Dv 30 (.iadr (some 64) 1 (.t 29) (.t 18)) [29,18],Dn (.st 1 (.t 30) (.t 27)) [30,27]])) (.reg [Mv 16 6,Bi 17 .add 16 1,Mv 6 17]))
def znJ:AC:=.seq (.reg [ic 2 (.box (.t 0)),ic 4 (.alloc (zaS (.bool false) 1600))]) (.seq (.reg [ir 7 (.ld 1600 true (.t 2)),ir 8 (.call zhF [.t 7]),ir 9 (.call ziT [.t 8]),ir 10 (.call zkh [.t 9]),ir 11 (.call ziS [.t 10]),jc (.st 1600 (.t 2) (.t 11))]) (.seq (.reg [Mv 12 1,ir 13 (.call zfK [.t 12]),ic 5 (.alloc (zaS (.bool false) 64)),jc (.st 64 (.t 5) (.t 13))]) (.seq (.seq (.reg [iv 6 (.mv (.k (.int .i64 0)))]) (.blk 0 (.loop zmG))) (.seq (.reg [ir 31 (.ld 1600 true (.t 2)),jc (.st 1600 (.t 4) (.t 31))]) (.ret)))))
def zh5:AFn:=⟨32,znJ,[.cell 4 1600 true],none⟩
def zmH:AC:=.seq (.seq (.reg [Mv 12 6,Bi 13 .geq 12 0]) (.cond (.t 13) (.skip) (.exit 2))) (.seq (.blk 3 (.seq (.reg [Mv 16 5,iv 17 (.bin .mul (.t 16) (.k (.int .u64 2))),Mv 5 17]) (.seq (.reg [Mv 18 4,Bi 19 .rem 18 5,Mv 20 4,Bi 21 .quo 20 5,Mv 22 6,iv 23 (.iadr (some 5) 320 (.t 1) (.t 19)),iv 24 (.iadr (some 5) 64 (.t 23) (.t 21)),iv 25 (.iadr (some 64) 1 (.t 24) (.t 22)),Ld 26 25]) (.cond (.t 26) (.reg [Mv 27 5,iv 28 (.bin .add (.t 27) (.k (.int .u64 1))),Mv 5 28]) (.skip))))) (.reg [Mv 14 6,Bi 15 .sub 14 1,Mv 6 15]))
def zmI:AC:=.seq (.seq (.reg [Mv 8 4,Bi 9 .lss 8 25]) (.cond (.t 9) (.skip) (.exit 0))) (.seq (.blk 1 (.seq (.reg [iv 5 (.mv (.k (.int .u64 0)))]) (.seq (.seq (.reg [iv 6 (.mv (.k (.int .i64 63)))]) (.blk 2 (.loop zmH))) (.reg [Mv 29 4,Mv 30 5,iv 31 (.iadr (some 25) 1 (.t 3) (.t 29)),Sx 31 30])))) (.reg [Mv 10 4,Bi 11 .add 10 1,Mv 4 11]))
def znK:AC:=.seq (.reg [iv 1 (.boxv (.t 0)),ic 2 (.alloc (zaS (.int .u64 0) 25))]) (.seq (.reg [iv 7 (.build (zaS (.int .u64 0) 25) []),ic 3 (.alloc (zaS (.int .u64 0) 25)),jc (.st 25 (.t 3) (.t 7))]) (.seq (.seq (.reg [iv 4 (.mv (.k (.int .i64 0)))]) (.blk 0 (.loop zmI))) (.seq (.reg [ir 32 (.ld 25 true (.t 3)),jc (.st 25 (.t 2) (.t 32))]) (.ret))))
def zh6:AFn:=⟨33,znK,[.cell 2 25 true],none⟩
def znL:AC:=.seq (.reg [iv 1 (.boxv (.t 0)),iv 2 (.mv (.k (.nilp)))]) (.seq (.reg [iv 6 (.slice (.arr 12) 1 (.t 1) none none none),ir 7 (.call zji [.t 6]),Mv 5 7,Ex 8 5 0,Ex 9 5 1,Mv 3 8,Mv 4 9]) (.seq (.reg [Mv 10 3,iv 11 (.build [.nilp] [(0,1,.t 10)]),iv 12 (.boxv (.t 11)),Mv 2 12]) (.ret)))
def zsA:AFn:=⟨13,znL,[.tmp 2],none⟩
def zlN:AC:=.seq (.reg [ic 0 (.alloc (zaS (.int .u64 0) 12))]) (.seq (.reg [iv 1 (.build (zaS (.int .u64 0) 12) [(0,1,.k (.int .u64 18446744073709551615)),(1,1,.k (.int .u64 17603518614768072224)),(2,1,.k (.int .u64 16466767132611215046)),(3,1,.k (.int .u64 5755940542857986629)),(4,1,.k (.int .u64 3470879405153129527)),(5,1,.k (.int .u64 17263733006627652379)),(6,1,.k (.int .u64 5857503583518590173)),(7,1,.k (.int .u64 147421033984662306)),(8,1,.k (.int .u64 2955010104097229940)),(9,1,.k (.int .u64 14179128828124470481)),(10,1,.k (.int .u64 14488038916154245684)),(11,1,.k (.int .u64 18446744073709551615))]),jc (.st 12 (.t 0) (.t 1))]) (.ret))
def zqk:AFn:=⟨2,zlN,[.cell 0 12 true],none⟩
def zf9:AC:=.seq (.seq (.reg [Mv 13 5,Bi 14 .geq 13 0]) (.cond (.t 14) (.skip) (.exit 0))) (.seq (.blk 1 (.seq (.reg [Mv 17 0,Mv 18 5,ir 19 (.call zhH [.t 17,.t 18]),Mv 20 1,Mv 21 5,ir 22 (.call zhH [.t 20,.t 21]),ir 23 (.call zc5 [.t 19,.t 22]),Mv 6 23]) (.seq (.reg [Mv 24 6,Bi 25 .neq 24 0]) (.cond (.t 25) (.seq (.reg [Mv 26 6,Mv 4 26]) (.ret)) (.skip))))) (.reg [Mv 15 5,Bi 16 .sub 15 1,Mv 5 16]))
def zpV:AC:=.seq (.reg [iv 4 (.mv (.k (.int .i64 0)))]) (.seq (.seq (.reg [Mv 7 0,iv 8 (.lenL (.t 7)),Mv 9 1,iv 10 (.lenL (.t 9)),iv 11 (.mxmn true [.t 8,.t 10]),Bi 12 .sub 11 1,Mv 5 12]) (.blk 0 (.loop zf9))) (.seq (.reg [iv 4 (.mv (.k (.int .i64 0)))]) (.ret)))
def zug:AFn:=⟨27,zpV,[.tmp 4],none⟩
def zeo:AC:=.seq (.reg [iv 2 (.mv (.k (.nsl)))]) (.seq (.reg [Mv 3 0,Nk 4 3,Fa 5 0 4,Ld 6 5,ir 7 (.call zaT [.t 6]),Mv 2 7]) (.ret))
def zhd:AFn:=⟨8,zeo,[.tmp 2],none⟩
def zsB:AC:=.seq (.reg [iv 4 (.boxv (.t 1)),iv 5 (.boxv (.t 2)),ic 6 (.alloc (zaS (.int .u64 0) 12))]) (.seq (.draw [Dm 7 0,Dv 8 (.slice (.arr 12) 1 (.t 4) none none none) [4],Dv 9 (.slice (.arr 12) 1 (.t 5) none none none) [5],Dc 10 (.callv (.t 7) [.t 8,.t 9]) [7,8,9],Dv 11 (.s2a 12 (.t 10)) [10],Dr 12 (.ld 12 true (.t 11)) [11] 1 1,Dn (.st 12 (.t 6) (.t 12)) [6,12]]) (.ret))
def zw5:AFn:=⟨13,zsB,[.cell 6 12 true],none⟩
def zbe:AC:=.seq (.seq (.reg [Mv 38 10,Bi 39 .geq 38 0]) (.cond (.t 39) (.skip) (.exit 0))) (.seq (.blk 1 (.seq (.reg [Mv 42 0,Mv 43 9,Mv 44 9,ir 45 (.call zaL [.t 42,.t 43,.t 44]),Mv 9 45]) (.seq (.reg [Mv 46 2,Mv 47 10,Bi 48 .quo 47 64,Ia 49 46 48,Ld 50 49,Mv 51 10,Bi 52 .rem 51 64,Bt 53 .shr 50 52,iv 54 (.bin .and (.t 53) (.k (.int .u64 1))),iv 55 (.bin .eql (.t 54) (.k (.int .u64 1)))]) (.cond (.t 55) (.reg [Mv 56 0,Mv 57 9,Mv 58 8,ir 59 (.call zaL [.t 56,.t 57,.t 58]),Mv 9 59]) (.skip))))) (.reg [Mv 40 10,Bi 41 .sub 40 1,Mv 10 41]))
def zfz:AC:=.seq (.reg [iv 6 (.mv (.k (.nsl)))]) (.seq (.reg [Mv 11 0,Nk 12 11,Fa 13 0 12,Ld 14 13,iv 15 (.lenL (.t 14)),ic 16 (.mk 1 [.int .u64 0] (.t 15)),Mv 7 16]) (.seq (.reg [Mv 17 7,iv 18 (.iadr none 1 (.t 17) (.k (.int .i64 0))),jc (.st 1 (.t 18) (.k (.int .u64 1)))]) (.seq (.draw [Dm 19 0,Dm 20 0,Dm 21 1,Dr 22 (.call zbB [.t 20,.t 21]) [20,21] 0 0,Dm 23 0,Dv 24 (.nck (.t 23)) [23],Dv 25 (.fadr 2 (.t 24)) [24],Dr 26 (.ld 1 false (.t 25)) [25] 0 0,Dr 27 (.call zaL [.t 19,.t 22,.t 26]) [19,22,26] 0 0,Dm 28 0,Dm 29 7,Dm 30 0,Dv 31 (.nck (.t 30)) [30],Dv 32 (.fadr 2 (.t 31)) [31],Dr 33 (.ld 1 false (.t 32)) [32] 0 0,Dr 34 (.call zaL [.t 28,.t 29,.t 33]) [28,29,33] 0 0,Dm 8 27,Dm 9 34]) (.seq (.seq (.reg [Mv 35 2,ir 36 (.call zfT [.t 35]),Bi 37 .sub 36 1,Mv 10 37]) (.blk 0 (.loop zbe))) (.seq (.reg [Mv 60 0,Mv 61 9,Mv 62 7,ir 63 (.call zaL [.t 60,.t 61,.t 62]),Mv 6 63]) (.ret))))))
def ziw:AFn:=⟨64,zfz,[.tmp 6],none⟩
def zaD:AC:=.seq (.reg [Bi 10 .lss 9 25]) (.seq (.cond (.t 10) (.skip) (.exit 0)) (.seq (.blk 1 (.seq (.reg [Mv 11 9,iv 12 (.idxA 25 1 false (.t 8) (.t 9)),Mv 4 11,Mv 5 12]) (.reg [Mv 13 4,Bi 14 .rem 13 5,iv 15 (.iadr (some 5) 1 (.t 3) (.t 14)),Ld 16 15,Mv 17 5,Bt 18 .xor 16 17,iv 19 (.iadr (some 5) 1 (.t 3) (.t 14)),Sx 19 18]))) (.reg [Bi 20 .add 9 1,Mv 9 20])))
def zbh:AC:=.seq (.reg [Bi 22 .lss 21 25]) (.seq (.cond (.t 22) (.skip) (.exit 2)) (.seq (.blk 3 (.seq (.reg [Mv 23 21,Mv 6 23]) (.seq (.reg [Mv 24 6,Bi 25 .rem 24 5,Mv 7 25]) (.draw [Dm 26 6,Dv 27 (.iadr (some 25) 1 (.t 1) (.t 26)) [1,26],Dr 28 (.ld 1 false (.t 27)) [27] 0 0,Dm 29 7,Dv 30 (.bin .add (.t 29) (.k (.int .i64 4))) [29],Dv 31 (.bin .rem (.t 30) (.k (.int .i64 5))) [30],Dv 32 (.iadr (some 5) 1 (.t 3) (.t 31)) [3,31],Dr 33 (.ld 1 false (.t 32)) [32] 0 0,Dm 34 7,Dv 35 (.bin .add (.t 34) (.k (.int .i64 1))) [34],Dv 36 (.bin .rem (.t 35) (.k (.int .i64 5))) [35],Dv 37 (.iadr (some 5) 1 (.t 3) (.t 36)) [3,36],Dr 38 (.ld 1 false (.t 37)) [37] 0 0,Dr 39 (.call zbf [.t 38,.k (.int .i64 1)]) [38] 0 0,Dv 40 (.bin .xor (.t 33) (.t 39)) [33,39],Dv 41 (.bin .xor (.t 28) (.t 40)) [28,40],Dv 42 (.iadr (some 25) 1 (.t 1) (.t 26)) [1,26],Dn (.st 1 (.t 42) (.t 41)) [42,41]])))) (.reg [Bi 43 .add 21 1,Mv 21 43])))
def zep:AC:=.seq (.reg [ic 1 (.box (.t 0)),ic 2 (.alloc (zaS (.int .u64 0) 25))]) (.seq (.reg [ic 3 (.alloc (zaS (.int .u64 0) 5))]) (.seq (.seq (.reg [ir 8 (.ld 25 true (.t 1)),iv 9 (.mv (.k (.int .i64 0)))]) (.blk 0 (.loop zaD))) (.seq (.seq (.reg [iv 21 (.mv (.k (.int .i64 0)))]) (.blk 2 (.loop zbh))) (.seq (.reg [ir 44 (.ld 25 true (.t 1)),jc (.st 25 (.t 2) (.t 44))]) (.ret)))))
def zhe:AFn:=⟨45,zep,[.cell 2 25 true],none⟩
def zbi:AC:=.seq (.reg [Bi 12 .lss 11 24]) (.seq (.cond (.t 12) (.skip) (.exit 0)) (.seq (.blk 1 (.seq (.reg [Mv 13 11,Mv 6 13]) (.seq (.reg [Mv 14 4,iv 15 (.bin .mul (.k (.int .i64 2)) (.t 14)),Mv 16 5,iv 17 (.bin .mul (.k (.int .i64 3)) (.t 16)),Bt 18 .add 15 17,Bi 19 .rem 18 5,Mv 7 19]) (.seq (.reg [Mv 20 5,Mv 21 7,iv 22 (.bin .mul (.k (.int .i64 5)) (.t 21)),Bt 23 .add 20 22,Mv 24 4,Mv 25 5,iv 26 (.bin .mul (.k (.int .i64 5)) (.t 25)),Bt 27 .add 24 26,iv 28 (.iadr (some 25) 1 (.t 1) (.t 27)),Ld 29 28,Mv 30 6,Bi 31 .add 30 1,Mv 32 6,Bi 33 .add 32 2,Bt 34 .mul 31 33,Bi 35 .quo 34 2,ir 36 (.call zbf [.t 29,.t 35]),iv 37 (.iadr (some 25) 1 (.t 3) (.t 23)),Sx 37 36]) (.reg [Mv 38 5,Mv 39 7,Mv 4 38,Mv 5 39]))))) (.reg [Bi 40 .add 11 1,Mv 11 40])))
def zeq:AC:=.seq (.reg [iv 1 (.boxv (.t 0)),ic 2 (.alloc (zaS (.int .u64 0) 25))]) (.seq (.reg [iv 8 (.iadr (some 25) 1 (.t 1) (.k (.int .i64 0))),Ld 9 8,iv 10 (.build (zaS (.int .u64 0) 25) [(0,1,.t 9)]),ic 3 (.alloc (zaS (.int .u64 0) 25)),jc (.st 25 (.t 3) (.t 10))]) (.seq (.reg [iv 4 (.mv (.k (.int .i64 1))),iv 5 (.mv (.k (.int .i64 0)))]) (.seq (.seq (.reg [iv 11 (.mv (.k (.int .i64 0)))]) (.blk 0 (.loop zbi))) (.seq (.reg [ir 41 (.ld 25 true (.t 3)),jc (.st 25 (.t 2) (.t 41))]) (.ret)))))
def zhf:AFn:=⟨42,zeq,[.cell 2 25 true],none⟩
def zbx:AC:=.seq (.reg [Bi 8 .lss 7 25]) (.seq (.cond (.t 8) (.skip) (.exit 0)) (.seq (.blk 1 (.seq (.reg [Mv 9 7,Mv 4 9]) (.seq (.reg [Mv 10 4,Mv 11 4,Bi 12 .rem 11 5,Bt 13 .sub 10 12,Mv 5 13]) (.draw [Dm 14 4,Dv 15 (.iadr (some 25) 1 (.t 3) (.t 14)) [3,14],Dr 16 (.ld 1 false (.t 15)) [15] 0 0,Dm 17 5,Dm 18 4,Dv 19 (.bin .add (.t 18) (.k (.int .i64 2))) [18],Dv 20 (.bin .rem (.t 19) (.k (.int .i64 5))) [19],Dv 21 (.bin .add (.t 17) (.t 20)) [17,20],Dv 22 (.iadr (some 25) 1 (.t 1) (.t 21)) [1,21],Dr 23 (.ld 1 false (.t 22)) [22] 0 0,Dm 24 5,Dm 25 4,Dv 26 (.bin .add (.t 25) (.k (.int .i64 1))) [25],Dv 27 (.bin .rem (.t 26) (.k (.int .i64 5))) [26],Dv 28 (.bin .add (.t 24) (.t 27)) [24,27],Dv 29 (.iadr (some 25) 1 (.t 1) (.t 28)) [1,28],Dr 30 (.ld 1 false (.t 29)) [29] 0 0,Dv 31 (.bin .andNot (.t 23) (.t 30)) [23,30],Dv 32 (.bin .xor (.t 16) (.t 31)) [16,31],Dv 33 (.iadr (some 25) 1 (.t 3) (.t 14)) [3,14],Dn (.st 1 (.t 33) (.t 32)) [33,32]])))) (.reg [Bi 34 .add 7 1,Mv 7 34])))
def zfA:AC:=.seq (.reg [iv 1 (.boxv (.t 0)),ic 2 (.alloc (zaS (.int .u64 0) 25))]) (.seq (.reg [ir 6 (.ld 25 true (.t 1)),ic 3 (.alloc (zaS (.int .u64 0) 25)),jc (.st 25 (.t 3) (.t 6))]) (.seq (.seq (.reg [iv 7 (.mv (.k (.int .i64 0)))]) (.blk 0 (.loop zbx))) (.seq (.reg [ir 35 (.ld 25 true (.t 3)),jc (.st 25 (.t 2) (.t 35))]) (.ret))))
def zix:AFn:=⟨36,zfA,[.cell 2 25 true],none⟩
def zga:AC:=.seq (.reg [iv 2 (.mv (.k (.int .u64 0)))]) (.seq (.seq (.reg [Mv 3 0,Bi 4 .lss 3 0,Mv 5 4,Gv 6 (.mv (.t 0)) 5 false [],Gv 7 (.bin .geq (.t 6) (.k (.int .i64 24))) 5 false [],iv 8 (.pick (.t 5) (.k (.bool true)) (.t 7))]) (.cond (.t 8) (.seq (.reg [iv 2 (.mv (.k (.int .u64 0)))]) (.ret)) (.skip))) (.seq (.reg [Mv 9 0,iv 10 (.iadr (some 24) 1 (.g 0) (.t 9)),Ld 11 10,Mv 2 11]) (.ret)))
def zjs:AFn:=⟨12,zga,[.tmp 2],none⟩
def zca:AC:=.seq (.reg [iv 6 (.mv (.k (.nsl)))]) (.seq (.seq (.reg [Mv 9 2,iv 10 (.bin .eql (.t 9) (.k (.int .u64 0))),Mv 11 10,Gv 12 (.mv (.t 1)) 11 true [],Gv 13 (.mv (.t 0)) 11 true [],Gv 14 (.nck (.t 13)) 11 true [],Gv 15 (.fadr 0 (.t 14)) 11 true [],Gr 16 (.ld 1 false (.t 15)) 11 true [] 0 0,Gr 17 (.call ziR [.t 12,.t 16]) 11 true [] 0 0,Gv 18 (.bin .lss (.t 17) (.k (.int .i64 0))) 11 true [],iv 19 (.pick (.t 11) (.t 18) (.k (.bool false)))]) (.cond (.t 19) (.seq (.reg [Mv 20 1,Mv 6 20]) (.ret)) (.skip))) (.seq (.reg [Mv 22 1,Mv 23 0,Nk 24 23,Fa 25 0 24,Ld 26 25,ir 27 (.call zl3 [.t 22,.t 26]),Mv 21 27,Ex 28 21 0,Ex 29 21 1,Mv 7 28,Mv 8 29]) (.seq (.reg [Mv 30 7,Mv 6 30]) (.ret))))
def zh7:AFn:=⟨31,zca,[.tmp 6],none⟩
def zaO:AC:=.seq (.reg [iv 2 (.mv (.k (.int .i64 0)))]) (.seq (.seq (.reg [Mv 3 0,iv 4 (.bin .geq (.t 3) (.k (.int .u64 4294967296)))]) (.cond (.t 4) (.seq (.reg [Mv 5 0,iv 6 (.bin .shr (.t 5) (.k (.int .u64 32))),Mv 0 6]) (.reg [iv 2 (.mv (.k (.int .i64 32)))])) (.skip))) (.seq (.seq (.reg [Mv 7 0,iv 8 (.bin .geq (.t 7) (.k (.int .u64 65536)))]) (.cond (.t 8) (.seq (.reg [Mv 9 0,iv 10 (.bin .shr (.t 9) (.k (.int .u64 16))),Mv 0 10]) (.reg [Mv 11 2,Bi 12 .add 11 16,Mv 2 12])) (.skip))) (.seq (.seq (.reg [Mv 13 0,iv 14 (.bin .geq (.t 13) (.k (.int .u64 256)))]) (.cond (.t 14) (.seq (.reg [Mv 15 0,iv 16 (.bin .shr (.t 15) (.k (.int .u64 8))),Mv 0 16]) (.reg [Mv 17 2,Bi 18 .add 17 8,Mv 2 18])) (.skip))) (.seq (.reg [Mv 19 2,Mv 20 0,iv 21 (.i2i .u8 (.t 20)),iv 22 (.idxS (.k (.str zIK)) (.t 21)),iv 23 (.i2i .i64 (.t 22)),Bt 24 .add 19 23,Mv 2 24]) (.ret)))))
def zjt:AFn:=⟨25,zaO,[.tmp 2],none⟩
def zov:AC:=.seq (.seq (.reg [Mv 16 6,Bi 17 .lss 16 64]) (.cond (.t 17) (.skip) (.exit 4))) (.seq (.blk 5 (.draw [Dm 20 4,Dm 21 5,Dm 22 6,Dm 23 4,Dm 24 5,Dm 25 6,Dv 26 (.iadr (some 5) 320 (.t 1) (.t 23)) [1,23],Dv 27 (.iadr (some 5) 64 (.t 26) (.t 24)) [26,24],Dv 28 (.iadr (some 64) 1 (.t 27) (.t 25)) [27,25],Dr 29 (.ld 1 false (.t 28)) [28] 0 0,Dm 30 4,Dv 31 (.bin .add (.t 30) (.k (.int .i64 1))) [30],Dv 32 (.bin .rem (.t 31) (.k (.int .i64 5))) [31],Dm 33 5,Dm 34 6,Dv 35 (.iadr (some 5) 320 (.t 1) (.t 32)) [1,32],Dv 36 (.iadr (some 5) 64 (.t 35) (.t 33)) [35,33],Dv 37 (.iadr (some 64) 1 (.t 36) (.t 34)) [36,34],Dr 38 (.ld 1 false (.t 37)) [37] 0 0,Dv 39 (.un .not (.t 38)) [38],Dm 40 39,Gm 41 4 40 true,Gv 42 (.bin .add (.t 41) (.k (.int .i64 2))) 40 true [41,40],Gv 43 (.bin .rem (.t 42) (.k (.int .i64 5))) 40 true [42,40],Gm 44 5 40 true,Gm 45 6 40 true,Gv 46 (.iadr (some 5) 320 (.t 1) (.t 43)) 40 true [1,43,40],Gv 47 (.iadr (some 5) 64 (.t 46) (.t 44)) 40 true [46,44,40],Gv 48 (.iadr (some 64) 1 (.t 47) (.t 45)) 40 true [47,45,40],Gr 49 (.ld 1 false (.t 48)) 40 true [48,40] 0 0,Dv 50 (.pick (.t 40) (.t 49) (.k (.bool false))) [40,49],Dv 51 (.eq .bool true (.t 29) (.t 50)) [29,50],Dv 52 (.iadr (some 5) 320 (.t 3) (.t 20)) [3,20],Dv 53 (.iadr (some 5) 64 (.t 52) (.t 21)) [52,21],Dv 54 (.iadr (some 64) 1 (.t 53) (.t 22)) [53,22],Dn (.st 1 (.t 54) (.t 51)) [54,51]])) (.reg [Mv 18 6,Bi 19 .add 18 1,Mv 6 19]))
def zow:AC:=.seq (.seq (.reg [Mv 12 5,Bi 13 .lss 12 5]) (.cond (.t 13) (.skip) (.exit 2))) (.seq (.blk 3 (.seq (.reg [iv 6 (.mv (.k (.int .i64 0)))]) (.blk 4 (.loop zov)))) (.reg [Mv 14 5,Bi 15 .add 14 1,Mv 5 15]))
def zox:AC:=.seq (.seq (.reg [Mv 8 4,Bi 9 .lss 8 5]) (.cond (.t 9) (.skip) (.exit 0))) (.seq (.blk 1 (.seq (.reg [iv 5 (.mv (.k (.int .i64 0)))]) (.blk 2 (.loop zow)))) (.reg [Mv 10 4,Bi 11 .add 10 1,Mv 4 11]))
def zpx:AC:=.seq (.reg [iv 1 (.boxv (.t 0)),ic 2 (.alloc (zaS (.bool false) 1600))]) (.seq (.reg [iv 7 (.build (zaS (.bool false) 1600) []),ic 3 (.alloc (zaS (.bool false) 1600)),jc (.st 1600 (.t 3) (.t 7))]) (.seq (.seq (.reg [iv 4 (.mv (.k (.int .i64 0)))]) (.blk 0 (.loop zox))) (.seq (.reg [ir 55 (.ld 1600 true (.t 3)),jc (.st 1600 (.t 2) (.t 55))]) (.ret))))
def zi9:AFn:=⟨56,zpx,[.cell 2 1600 true],none⟩
def zpy:AC:=.seq (.seq (.reg [Mv 11 5,Bi 12 .lss 11 5]) (.cond (.t 12) (.skip) (.exit 2))) (.seq (.blk 3 (.draw [Dm 15 5,Dm 16 4,Dv 17 (.bin .mul (.k (.int .i64 2)) (.t 16)) [16],Dm 18 5,Dv 19 (.bin .mul (.k (.int .i64 3)) (.t 18)) [18],Dv 20 (.bin .add (.t 17) (.t 19)) [17,19],Dv 21 (.bin .rem (.t 20) (.k (.int .i64 5))) [20],Dm 22 4,Dm 23 5,Dv 24 (.iadr (some 5) 320 (.t 1) (.t 22)) [1,22],Dv 25 (.iadr (some 5) 64 (.t 24) (.t 23)) [24,23],Dr 26 (.ld 64 true (.t 25)) [25] 0 0,Dv 27 (.iadr (some 5) 320 (.t 3) (.t 15)) [3,15],Dv 28 (.iadr (some 5) 64 (.t 27) (.t 21)) [27,21],Dn (.st 64 (.t 28) (.t 26)) [28,26]])) (.reg [Mv 13 5,Bi 14 .add 13 1,Mv 5 14]))
def zpz:AC:=.seq (.seq (.reg [Mv 7 4,Bi 8 .lss 7 5]) (.cond (.t 8) (.skip) (.exit 0))) (.seq (.blk 1 (.seq (.reg [iv 5 (.mv (.k (.int .i64 0)))]) (.blk 2 (.loop zpy)))) (.reg [Mv 9 4,Bi 10 .add 9 1,Mv 4 10]))
def zqA:AC:=.seq (.reg [iv 1 (.boxv (.t 0)),ic 2 (.alloc (zaS (.bool false) 1600))]) (.seq (.reg [iv 6 (.build (zaS (.bool false) 1600) []),ic 3 (.alloc (zaS (.bool false) 1600)),jc (.st 1600 (.t 3) (.t 6))]) (.seq (.seq (.reg [iv 4 (.mv (.k (.int .i64 0)))]) (.blk 0 (.loop zpz))) (.seq (.reg [ir 29 (.ld 1600 true (.t 3)),jc (.st 1600 (.t 2) (.t 29))]) (.ret))))
def zkm:AFn:=⟨30,zqA,[.cell 2 1600 true],none⟩
def zoy:AC:=.seq (.seq (.reg [Mv 18 7,Bi 19 .lss 18 64]) (.cond (.t 19) (.skip) (.exit 2))) (.seq (.blk 3 (.draw [Dm 22 4,Dm 23 5,Dm 24 7,Dm 25 6,Dv 26 (.bin .add (.t 25) (.k (.int .i64 1))) [25],Dm 27 6,Dv 28 (.bin .add (.t 27) (.k (.int .i64 2))) [27],Dv 29 (.bin .mul (.t 26) (.t 28)) [26,28],Dv 30 (.bin .quo (.t 29) (.k (.int .i64 2))) [29],Dv 31 (.bin .add (.t 24) (.t 30)) [24,30],Dv 32 (.bin .rem (.t 31) (.k (.int .i64 64))) [31],Dm 33 4,Dm 34 5,Dm 35 7,Dv 36 (.iadr (some 5) 320 (.t 1) (.t 33)) [1,33],Dv 37 (.iadr (some 5) 64 (.t 36) (.t 34)) [36,34],Dv 38 (.iadr (some 64) 1 (.t 37) (.t 35)) [37,35],Dr 39 (.ld 1 false (.t 38)) [38] 0 0,Dv 40 (.iadr (some 5) 320 (.t 3) (.t 22)) [3,22],Dv 41 (.iadr (some 5) 64 (.t 40) (.t 23)) [40,23],Dv 42 (.iadr (some 64) 1 (.t 41) (.t 32)) [41,32],Dn (.st 1 (.t 42) (.t 39)) [42,39]])) (.reg [Mv 20 7,Bi 21 .add 20 1,Mv 7 21]))
def zoA:AC:=.seq (.seq (.reg [Mv 14 6,Bi 15 .lss 14 24]) (.cond (.t 15) (.skip) (.exit 0))) (.seq (.blk 1 (.seq (.seq (.reg [iv 7 (.mv (.k (.int .i64 0)))]) (.blk 2 (.loop zoy))) (.reg [Mv 43 5,Mv 44 4,iv 45 (.bin .mul (.k (.int .i64 2)) (.t 44)),Mv 46 5,iv 47 (.bin .mul (.k (.int .i64 3)) (.t 46)),Bt 48 .add 45 47,Bi 49 .rem 48 5,Mv 4 43,Mv 5 49]))) (.reg [Mv 16 6,Bi 17 .add 16 1,Mv 6 17]))
def zpB:AC:=.seq (.reg [iv 1 (.boxv (.t 0)),ic 2 (.alloc (zaS (.bool false) 1600))]) (.seq (.reg [iv 8 (.build (zaS (.bool false) 1600) []),ic 3 (.alloc (zaS (.bool false) 1600)),jc (.st 1600 (.t 3) (.t 8))]) (.seq (.reg [iv 9 (.iadr (some 5) 320 (.t 1) (.k (.int .i64 0))),iv 10 (.iadr (some 5) 64 (.t 9) (.k (.int .i64 0))),ir 11 (.ld 64 true (.t 10)),iv 12 (.iadr (some 5) 320 (.t 3) (.k (.int .i64 0))),iv 13 (.iadr (some 5) 64 (.t 12) (.k (.int .i64 0))),jc (.st 64 (.t 13) (.t 11))]) (.seq (.reg [iv 4 (.mv (.k (.int .i64 1))),iv 5 (.mv (.k (.int .i64 0)))]) (.seq (.seq (.reg [iv 6 (.mv (.k (.int .i64 0)))]) (.blk 0 (.loop zoA))) (.seq (.reg [ir 50 (.ld 1600 true (.t 3)),jc (.st 1600 (.t 2) (.t 50))]) (.ret))))))
def zja:AFn:=⟨51,zpB,[.cell 2 1600 true],none⟩
def zmo:AC:=.seq (.seq (.reg [Mv 22 7,Bi 23 .lss 22 5]) (.cond (.t 23) (.skip) (.exit 4))) (.seq (.blk 5 (.seq (.reg [Mv 26 4,Mv 27 7,Mv 28 5,iv 29 (.iadr (some 5) 320 (.t 1) (.t 26)),iv 30 (.iadr (some 5) 64 (.t 29) (.t 27)),iv 31 (.iadr (some 64) 1 (.t 30) (.t 28)),Ld 32 31]) (.cond (.t 32) (.reg [Mv 33 6,Bi 34 .add 33 1,Mv 6 34]) (.skip)))) (.reg [Mv 24 7,Bi 25 .add 24 1,Mv 7 25]))
def zmp:AC:=.seq (.seq (.reg [Mv 18 5,Bi 19 .lss 18 64]) (.cond (.t 19) (.skip) (.exit 2))) (.seq (.blk 3 (.seq (.reg [iv 6 (.mv (.k (.int .i64 0)))]) (.seq (.seq (.reg [iv 7 (.mv (.k (.int .i64 0)))]) (.blk 4 (.loop zmo))) (.reg [Mv 35 4,Mv 36 5,Mv 37 6,Bi 38 .rem 37 2,Bi 39 .eql 38 1,iv 40 (.iadr (some 5) 64 (.t 3) (.t 35)),iv 41 (.iadr (some 64) 1 (.t 40) (.t 36)),Sx 41 39])))) (.reg [Mv 20 5,Bi 21 .add 20 1,Mv 5 21]))
def zmq:AC:=.seq (.seq (.reg [Mv 14 4,Bi 15 .lss 14 5]) (.cond (.t 15) (.skip) (.exit 0))) (.seq (.blk 1 (.seq (.reg [iv 5 (.mv (.k (.int .i64 0)))]) (.blk 2 (.loop zmp)))) (.reg [Mv 16 4,Bi 17 .add 16 1,Mv 4 17]))
def zmr:AC:=.seq (.seq (.reg [Mv 51 11,Bi 52 .lss 51 64]) (.cond (.t 52) (.skip) (.exit 10))) (.seq (.blk 11 (.seq (.draw [Dm 55 9,Dv 56 (.bin .add (.t 55) (.k (.int .i64 4))) [55],Dv 57 (.bin .rem (.t 56) (.k (.int .i64 5))) [56],Dm 58 11,Dv 59 (.iadr (some 5) 64 (.t 3) (.t 57)) [3,57],Dv 60 (.iadr (some 64) 1 (.t 59) (.t 58)) [59,58],Dr 61 (.ld 1 false (.t 60)) [60] 0 0,Dm 62 9,Dv 63 (.bin .add (.t 62) (.k (.int .i64 1))) [62],Dv 64 (.bin .rem (.t 63) (.k (.int .i64 5))) [63],Dm 65 11,Dv 66 (.bin .add (.t 65) (.k (.int .i64 63))) [65],Dv 67 (.bin .rem (.t 66) (.k (.int .i64 64))) [66],Dv 68 (.iadr (some 5) 64 (.t 3) (.t 64)) [3,64],Dv 69 (.iadr (some 64) 1 (.t 68) (.t 67)) [68,67],Dr 70 (.ld 1 false (.t 69)) [69] 0 0,Dv 71 (.eq .bool true (.t 61) (.t 70)) [61,70],Dm 12 71]) (.draw [Dm 72 9,Dm 73 10,Dm 74 11,Dm 75 9,Dm 76 10,Dm 77 11,Dv 78 (.iadr (some 5) 320 (.t 1) (.t 75)) [1,75],Dv 79 (.iadr (some 5) 64 (.t 78) (.t 76)) [78,76],Dv 80 (.iadr (some 64) 1 (.t 79) (.t 77)) [79,77],Dr 81 (.ld 1 false (.t 80)) [80] 0 0,Dm 82 12,Dv 83 (.eq .bool true (.t 81) (.t 82)) [81,82],Dv 84 (.iadr (some 5) 320 (.t 8) (.t 72)) [8,72],Dv 85 (.iadr (some 5) 64 (.t 84) (.t 73)) [84,73],Dv 86 (.iadr (some 64) 1 (.t 85) (.t 74)) [85,74],Dn (.st 1 (.t 86) (.t 83)) [86,83]]))) (.reg [Mv 53 11,Bi 54 .add 53 1,Mv 11 54]))
def zms:AC:=.seq (.seq (.reg [Mv 47 10,Bi 48 .lss 47 5]) (.cond (.t 48) (.skip) (.exit 8))) (.seq (.blk 9 (.seq (.reg [iv 11 (.mv (.k (.int .i64 0)))]) (.blk 10 (.loop zmr)))) (.reg [Mv 49 10,Bi 50 .add 49 1,Mv 10 50]))
def zmt:AC:=.seq (.seq (.reg [Mv 43 9,Bi 44 .lss 43 5]) (.cond (.t 44) (.skip) (.exit 6))) (.seq (.blk 7 (.seq (.reg [iv 10 (.mv (.k (.int .i64 0)))]) (.blk 8 (.loop zms)))) (.reg [Mv 45 9,Bi 46 .add 45 1,Mv 9 46]))
def zni:AC:=.seq (.reg [iv 1 (.boxv (.t 0)),ic 2 (.alloc (zaS (.bool false) 1600))]) (.seq (.reg [iv 13 (.build (zaS (.bool false) 320) []),ic 3 (.alloc (zaS (.bool false) 320)),jc (.st 320 (.t 3) (.t 13))]) (.seq (.seq (.reg [iv 4 (.mv (.k (.int .i64 0)))]) (.blk 0 (.loop zmq))) (.seq (.reg [iv 42 (.build (zaS (.bool false) 1600) []),ic 8 (.alloc (zaS (.bool false) 1600)),jc (.st 1600 (.t 8) (.t 42))]) (.seq (.seq (.reg [iv 9 (.mv (.k (.int .i64 0)))]) (.blk 6 (.loop zmt))) (.seq (.reg [ir 87 (.ld 1600 true (.t 8)),jc (.st 1600 (.t 2) (.t 87))]) (.ret))))))
def zhQ:AFn:=⟨88,zni,[.cell 2 1600 true],none⟩
def zjV:AC:=.seq (.seq (.reg [Mv 14 5,Bi 15 .lss 14 7]) (.cond (.t 15) (.skip) (.exit 0))) (.seq (.blk 1 (.seq (.reg [Mv 18 4,Bi 19 .sub 18 1,Mv 20 5,Mv 21 0,iv 22 (.bin .mul (.k (.int .i64 7)) (.t 21)),Bt 23 .add 20 22,ir 24 (.call zki [.t 23]),iv 25 (.iadr (some 64) 1 (.t 3) (.t 19)),Sx 25 24]) (.reg [Mv 26 4,Bi 27 .mul 26 2,Mv 4 27]))) (.reg [Mv 16 5,Bi 17 .add 16 1,Mv 5 17]))
def zkJ:AC:=.seq (.reg [ic 2 (.alloc (zaS (.bool false) 64))]) (.seq (.reg [iv 6 (.build (zaS (.bool false) 64) []),ic 3 (.alloc (zaS (.bool false) 64)),jc (.st 64 (.t 3) (.t 6))]) (.seq (.seq (.reg [Mv 7 0,Bi 8 .lss 7 0,Mv 9 8,Gv 10 (.mv (.t 0)) 9 false [],Gv 11 (.bin .gtr (.t 10) (.k (.int .i64 23))) 9 false [],iv 12 (.pick (.t 9) (.k (.bool true)) (.t 11))]) (.cond (.t 12) (.seq (.reg [ir 13 (.ld 64 true (.t 3)),jc (.st 64 (.t 2) (.t 13))]) (.ret)) (.skip))) (.seq (.reg [iv 4 (.mv (.k (.int .i64 1)))]) (.seq (.seq (.reg [iv 5 (.mv (.k (.int .i64 0)))]) (.blk 0 (.loop zjV))) (.seq (.reg [ir 28 (.ld 64 true (.t 3)),jc (.st 64 (.t 2) (.t 28))]) (.ret))))))
def zfM:AFn:=⟨29,zkJ,[.cell 2 64 true],none⟩
def zb4:AC:=.seq (.reg [iv 4 (.mv (.k (.int .i64 0)))]) (.seq (.reg [Mv 7 0,ir 8 (.call zcN [.t 7]),Mv 5 8]) (.seq (.reg [Mv 9 1,ir 10 (.call zcN [.t 9]),Mv 6 10]) (.seq (.seq (.reg [Mv 11 5]) (.cond (.t 11) (.seq (.seq (.reg [Mv 12 6]) (.cond (.t 12) (.seq (.reg [iv 4 (.mv (.k (.int .i64 0)))]) (.ret)) (.skip))) (.seq (.reg [iv 4 (.mv (.k (.int .i64 (-1))))]) (.ret))) (.skip))) (.seq (.seq (.reg [Mv 13 6]) (.cond (.t 13) (.seq (.reg [iv 4 (.mv (.k (.int .i64 1)))]) (.ret)) (.skip))) (.seq (.seq (.reg [Mv 14 0,Mv 15 1,Bt 16 .lss 14 15]) (.cond (.t 16) (.seq (.reg [iv 4 (.mv (.k (.int .i64 (-1))))]) (.ret)) (.skip))) (.seq (.seq (.reg [Mv 17 0,Mv 18 1,Bt 19 .gtr 17 18]) (.cond (.t 19) (.seq (.reg [iv 4 (.mv (.k (.int .i64 1)))]) (.ret)) (.skip))) (.seq (.reg [iv 4 (.mv (.k (.int .i64 0)))]) (.ret))))))))
def zhR:AFn:=⟨20,zb4,[.tmp 4],none⟩
def zoE:AC:=.seq (.reg [iv 4 (.mv (.k (.int .u64 0)))]) (.seq (.seq (.reg [Mv 5 1,Mv 6 0,iv 7 (.lenL (.t 6)),Bt 8 .lss 5 7]) (.cond (.t 8) (.seq (.reg [Mv 9 0,Mv 10 1,Ia 11 9 10,Ld 12 11,Mv 4 12]) (.ret)) (.skip))) (.seq (.reg [iv 4 (.mv (.k (.int .u64 0)))]) (.ret)))
def zwA:AFn:=⟨13,zoE,[.tmp 4],none⟩
def zap:AC:=.seq (.reg [Bt 34 .lss 33 32]) (.seq (.cond (.t 34) (.skip) (.exit 2)) (.seq (.blk 3 (.seq (.reg [Mv 35 33,Ia 36 31 33,Ld 37 36,Mv 13 35,Mv 14 37]) (.reg [Mv 39 8,Mv 40 13,Mv 41 8,Mv 42 13,Ia 43 41 42,Ld 44 43,Mv 45 10,Mv 46 14,Mv 47 11,ir 48 (.call zfW [.t 44,.t 45,.t 46,.t 47]),Mv 38 48,Ex 49 38 0,Ex 50 38 1,Ia 51 39 40,Sx 51 49,Mv 11 50]))) (.reg [Bi 52 .add 33 1,Mv 33 52])))
def zaG:AC:=.seq (.seq (.reg [Mv 92 16,Mv 93 7,Bt 94 .lss 92 93]) (.cond (.t 94) (.skip) (.exit 4))) (.seq (.blk 5 (.draw [Dm 98 8,Dm 99 16,Dv 100 (.bin .sub (.t 99) (.k (.int .i64 1))) [99],Dm 101 8,Dm 102 16,Dv 103 (.iadr none 1 (.t 101) (.t 102)) [101,102],Dr 104 (.ld 1 false (.t 103)) [103] 0 0,Dm 105 15,Dm 106 0,Dv 107 (.nck (.t 106)) [106],Dv 108 (.fadr 0 (.t 107)) [107],Dr 109 (.ld 1 false (.t 108)) [108] 0 0,Dm 110 16,Dv 111 (.iadr none 1 (.t 109) (.t 110)) [109,110],Dr 112 (.ld 1 false (.t 111)) [111] 0 0,Dm 113 11,Dr 114 (.call zfW [.t 104,.t 105,.t 112,.t 113]) [104,105,112,113] 0 0,Dm 97 114,Dv 115 (.ext (.t 97) 0) [97],Dv 116 (.ext (.t 97) 1) [97],Dv 117 (.iadr none 1 (.t 98) (.t 100)) [98,100],Dn (.st 1 (.t 117) (.t 115)) [117,115],Dm 11 116])) (.reg [Mv 95 16,Bi 96 .add 95 1,Mv 16 96]))
def zay:AC:=.seq (.reg [Bt 28 .lss 27 26]) (.seq (.cond (.t 28) (.skip) (.exit 0)) (.seq (.blk 1 (.seq (.reg [Ia 29 25 27,Ld 30 29,Mv 10 30]) (.seq (.reg [iv 11 (.mv (.k (.int .u64 0))),iv 12 (.mv (.k (.int .u64 0)))]) (.seq (.seq (.reg [Mv 31 2,iv 32 (.lenL (.t 31)),iv 33 (.mv (.k (.int .i64 0)))]) (.blk 2 (.loop zap))) (.seq (.reg [Mv 54 8,Mv 55 7,Mv 56 8,Mv 57 7,Ia 58 56 57,Ld 59 58,Mv 60 11,ic 61 (.call zaN [.t 59,.t 60,.k (.int .u64 0)]),Mv 53 61,Ex 62 53 0,Ex 63 53 1,Ia 64 54 55,Sx 64 62,Mv 12 63]) (.seq (.reg [Mv 65 8,Mv 66 7,Bi 67 .add 66 1,Mv 68 12,Ia 69 65 67,Sx 69 68]) (.seq (.draw [Dm 70 8,Dv 71 (.iadr none 1 (.t 70) (.k (.int .i64 0))) [70],Dr 72 (.ld 1 false (.t 71)) [71] 0 0,Dm 73 0,Dv 74 (.nck (.t 73)) [73],Dv 75 (.fadr 1 (.t 74)) [74],Dr 76 (.ld 1 false (.t 75)) [75] 0 0,Dv 77 (.bin .mul (.t 72) (.t 76)) [72,76],Dm 15 77]) (.seq (.draw [Dm 79 8,Dv 80 (.iadr none 1 (.t 79) (.k (.int .i64 0))) [79],Dr 81 (.ld 1 false (.t 80)) [80] 0 0,Dm 82 15,Dm 83 0,Dv 84 (.nck (.t 83)) [83],Dv 85 (.fadr 0 (.t 84)) [84],Dr 86 (.ld 1 false (.t 85)) [85] 0 0,Dv 87 (.iadr none 1 (.t 86) (.k (.int .i64 0))) [86],Dr 88 (.ld 1 false (.t 87)) [87] 0 0,Dr 89 (.call zfW [.t 81,.t 82,.t 88,.k (.int .u64 0)]) [81,82,88] 0 0,Dm 78 89,Dv 90 (.ext (.t 78) 0) [78],Dv 91 (.ext (.t 78) 1) [78],Dm 11 91]) (.seq (.seq (.reg [iv 16 (.mv (.k (.int .i64 1)))]) (.blk 4 (.loop zaG))) (.seq (.reg [Mv 119 8,Mv 120 7,Bi 121 .sub 120 1,Mv 122 8,Mv 123 7,Ia 124 122 123,Ld 125 124,Mv 126 11,ic 127 (.call zaN [.t 125,.t 126,.k (.int .u64 0)]),Mv 118 127,Ex 128 118 0,Ex 129 118 1,Ia 130 119 121,Sx 130 128,Mv 12 129]) (.reg [Mv 131 8,Mv 132 7,Mv 133 8,Mv 134 7,Bi 135 .add 134 1,Ia 136 133 135,Ld 137 136,Mv 138 12,Bt 139 .add 137 138,Ia 140 131 132,Sx 140 139]))))))))))) (.reg [Bi 141 .add 27 1,Mv 27 141])))
def zdC:AC:=.seq (.reg [iv 6 (.mv (.k (.nsl)))]) (.seq (.reg [Mv 17 0,Nk 18 17,Fa 19 0 18,Ld 20 19,iv 21 (.lenL (.t 20)),Mv 7 21]) (.seq (.reg [Mv 22 7,Bi 23 .add 22 2,ic 24 (.mk 1 [.int .u64 0] (.t 23)),Mv 8 24]) (.seq (.seq (.reg [Mv 25 1,iv 26 (.lenL (.t 25)),iv 27 (.mv (.k (.int .i64 0)))]) (.blk 0 (.loop zay))) (.seq (.draw [Dm 142 0,Dm 143 8,Dm 144 7,Dv 145 (.slice .slc 1 (.t 143) none (some (.t 144)) none) [143,144],Dm 146 8,Dm 147 7,Dv 148 (.iadr none 1 (.t 146) (.t 147)) [146,147],Dr 149 (.ld 1 false (.t 148)) [148] 0 0,Dr 150 (.call zbw [.t 142,.t 145,.t 149]) [142,145,149] 0 0,Dm 6 150]) (.ret)))))
def zgv:AFn:=⟨151,zdC,[.tmp 6],none⟩
def zcU:AC:=.seq (.reg [iv 4 (.mv (.k (.int .u64 0)))]) (.seq (.reg [Mv 6 1,iv 7 (.i2i .u64 (.t 6)),iv 8 (.bin .and (.t 7) (.k (.int .u64 63))),Mv 5 8]) (.seq (.reg [Mv 9 0,Mv 10 5,Bt 11 .shl 9 10,Mv 12 0,Mv 13 5,iv 14 (.bin .sub (.k (.int .u64 64)) (.t 13)),Bt 15 .shr 12 14,Bt 16 .or 11 15,Mv 4 16]) (.ret)))
def ze7:AFn:=⟨17,zcU,[.tmp 4],none⟩
def zpG:AC:=.seq (.reg [iv 4 (.mv (.k (.nsl))),iv 5 (.mv (.k (.int .u64 0)))]) (.seq (.reg [Mv 6 0,Mv 7 1,ir 8 (.call zjH [.t 6,.t 7,.k (.fn (.func zbZ) [] [])]),Ex 9 8 0,Ex 10 8 1,Mv 4 9,Mv 5 10]) (.ret))
def zt1:AFn:=⟨11,zpG,[.tmp 4,.tmp 5],none⟩
def zpI:AC:=.seq (.reg [Bt 21 .lss 20 19]) (.seq (.cond (.t 21) (.skip) (.exit 2)) (.seq (.blk 3 (.seq (.reg [Ia 22 18 20,Ld 23 22,Mv 6 23]) (.seq (.reg [Mv 24 3,Mv 25 6,Bt 26 .quo 24 25,Bi 27 .rem 26 2,Bi 28 .eql 27 1]) (.cond (.t 28) (.reg [Mv 29 3,Mv 30 6,Bt 31 .sub 29 30,Mv 3 31]) (.reg [Mv 32 3,Mv 33 6,Bt 34 .add 32 33,Mv 3 34]))))) (.reg [Bi 35 .add 20 1,Mv 20 35])))
def zpJ:AC:=.seq (.seq (.reg [Mv 7 4,Mv 8 0,Bt 9 .lss 7 8]) (.cond (.t 9) (.skip) (.exit 0))) (.seq (.blk 1 (.seq (.reg [Mv 12 3,Bi 13 .mul 12 2,Mv 3 13]) (.seq (.reg [Mv 14 3,Bi 15 .geq 14 256]) (.cond (.t 15) (.seq (.reg [Mv 16 3,Bi 17 .sub 16 256,Mv 3 17]) (.seq (.reg [iv 18 (.slit 1 4 [.int .i64 0] [(0,.k (.int .i64 64)),(1,.k (.int .i64 32)),(2,.k (.int .i64 16)),(3,.k (.int .i64 1))]),iv 19 (.lenL (.t 18)),iv 20 (.mv (.k (.int .i64 0)))]) (.blk 2 (.loop zpI)))) (.skip))))) (.reg [Mv 10 4,Bi 11 .add 10 1,Mv 4 11]))
def zqE:AC:=.seq (.reg [iv 2 (.mv (.k (.bool false)))]) (.seq (.reg [iv 3 (.mv (.k (.int .i64 1)))]) (.seq (.seq (.reg [iv 4 (.mv (.k (.int .i64 0)))]) (.blk 0 (.loop zpJ))) (.seq (.reg [Mv 36 3,Bi 37 .rem 36 2,Bi 38 .eql 37 1,Mv 2 38]) (.ret))))
def zko:AFn:=⟨39,zqE,[.tmp 2],none⟩
def zf6:AC:=.seq (.reg [iv 2 (.mv (.k (.bool false)))]) (.seq (.reg [Mv 3 0,Mv 4 0,Bt 5 .neq 3 4,Mv 2 5]) (.ret))
def zjb:AFn:=⟨6,zf6,[.tmp 2],none⟩
def znm:AC:=.seq (.reg [iv 8 (.mv (.k (.int .u64 0))),iv 9 (.mv (.k (.int .u64 0)))]) (.seq (.reg [Mv 14 1,Mv 15 2,ir 16 (.call zcM [.t 14,.t 15]),Mv 13 16,Ex 17 13 0,Ex 18 13 1,Mv 10 17,Mv 11 18]) (.seq (.reg [Mv 20 11,Mv 21 0,ic 22 (.call zaN [.t 20,.t 21,.k (.int .u64 0)]),Mv 19 22,Ex 23 19 0,Ex 24 19 1,Mv 11 23,Mv 12 24]) (.seq (.reg [Mv 25 10,Mv 26 12,Bt 27 .add 25 26,Mv 10 27]) (.seq (.reg [Mv 29 11,Mv 30 3,ic 31 (.call zaN [.t 29,.t 30,.k (.int .u64 0)]),Mv 28 31,Ex 32 28 0,Ex 33 28 1,Mv 11 32,Mv 12 33]) (.seq (.reg [Mv 34 11,Mv 35 10,Mv 36 12,Bt 37 .add 35 36,Mv 8 34,Mv 9 37]) (.ret))))))
def zsd:AFn:=⟨38,znm,[.tmp 8,.tmp 9],none⟩
def ze8:AC:=.seq (.reg [Bt 20 .lss 19 18]) (.seq (.cond (.t 20) (.skip) (.exit 0)) (.seq (.blk 1 (.seq (.reg [Mv 21 19,Mv 10 21]) (.reg [Mv 23 8,Mv 24 10,Mv 25 2,Mv 26 0,Mv 27 10,ir 28 (.call zhH [.t 26,.t 27]),Mv 29 1,Mv 30 10,ir 31 (.call zhH [.t 29,.t 30]),Mv 32 9,ic 33 (.callv (.t 25) [.t 28,.t 31,.t 32]),Mv 22 33,Ex 34 22 0,Ex 35 22 1,Ia 36 23 24,Sx 36 34,Mv 9 35]))) (.reg [Bi 37 .add 19 1,Mv 19 37])))
def znn:AC:=.seq (.reg [iv 6 (.mv (.k (.nsl))),iv 7 (.mv (.k (.int .u64 0)))]) (.seq (.reg [Mv 11 0,iv 12 (.lenL (.t 11)),Mv 13 1,iv 14 (.lenL (.t 13)),iv 15 (.mxmn true [.t 12,.t 14]),ic 16 (.mk 1 [.int .u64 0] (.t 15)),Mv 8 16]) (.seq (.reg [iv 9 (.mv (.k (.int .u64 0)))]) (.seq (.seq (.reg [Mv 17 8,iv 18 (.lenL (.t 17)),iv 19 (.mv (.k (.int .i64 0)))]) (.blk 0 (.loop ze8))) (.seq (.reg [Mv 38 8,Mv 39 9,Mv 6 38,Mv 7 39]) (.ret)))))
def zsf:AFn:=⟨40,znn,[.tmp 6,.tmp 7],none⟩
def zci:AC:=.seq (.reg [iv 2 (.boxv (.t 0)),iv 4 (.mv (.k (.nsl)))]) (.seq (.reg [Fa 5 0 2,Ld 6 5,Mv 7 1,ic 8 (.call zaW [.t 6,.t 7]),Mv 4 8]) (.ret))
def zed:AFn:=⟨9,zci,[.tmp 4],none⟩
def zb5:AC:=.seq (.reg [iv 2 (.boxv (.t 0)),iv 4 (.mv (.k (.nsl))),iv 5 (.mv (.k (.int .i64 0)))]) (.seq (.reg [Mv 10 1,ir 11 (.ld 1 true (.t 2)),iv 12 (.mkfn (.func za5) [.t 11] []),ic 13 (.call zfm [.t 10,.t 12]),Mv 9 13,Ex 14 9 0,Ex 15 9 1,Ex 16 9 2,Mv 6 14,Mv 7 15,Mv 8 16]) (.seq (.reg [Mv 17 6,Mv 18 8,Mv 4 17,Mv 5 18]) (.ret)))
def zdD:AFn:=⟨19,zb5,[.tmp 4,.tmp 5],none⟩
def zcC:AC:=.seq (.reg [iv 2 (.boxv (.t 0)),iv 3 (.boxv (.t 1))]) (.draw [Dv 4 (.fadr 0 (.t 2)) [2],Dr 5 (.ld 1 false (.t 4)) [4] 0 0,Dr 6 (.ld 4 true (.t 3)) [3] 0 0,Dr 7 (.call zeL [.t 6]) [6] 0 0,Dc 8 (.call zbu [.t 5,.t 7]) [5,7]])
def zey:AFn:=⟨9,zcC,[],none⟩
def zcj:AC:=.seq (.reg [iv 1 (.boxv (.t 0)),ic 2 (.alloc (zaS (.int .u8 0) 32))]) (.seq (.reg [Fa 3 0 1,Ld 4 3,ic 5 (.call zaW [.t 4,.k (.int .i64 32)]),iv 6 (.s2a 32 (.t 5)),ir 7 (.ld 32 true (.t 6)),jc (.st 32 (.t 2) (.t 7))]) (.ret))
def zee:AFn:=⟨8,zcj,[.cell 2 32 true],none⟩
def zoK:AC:=.seq (.reg [ic 2 (.alloc (zaS (.int .u64 0) 4))]) (.seq (.reg [Mv 3 0,iv 4 (.build (zaS (.int .u64 0) 4) [(0,1,.t 3)]),ir 5 (.call zd5 [.t 4]),jc (.st 4 (.t 2) (.t 5))]) (.ret))
def zip:AFn:=⟨6,zoK,[.cell 2 4 true],none⟩
def zdn:AC:=.seq (.reg [iv 2 (.boxv (.t 0))]) (.seq (.reg [Mv 8 1,ir 9 (.call zeI [.t 8]),Mv 7 9,Ex 10 7 0,Ex 11 7 1,ic 4 (.alloc (zaS (.int .u64 0) 25)),jc (.st 25 (.t 4) (.t 10)),Mv 5 11]) (.seq (.seq (.reg [Mv 12 5,Bi 13 .neq 12 0]) (.cond (.t 13) (.ret) (.skip))) (.seq (.reg [ir 14 (.ld 25 true (.t 4)),ir 15 (.call zba [.t 14]),ir 16 (.call zbN [.t 15]),ic 6 (.alloc (zaS (.int .u8 0) 200)),jc (.st 200 (.t 6) (.t 16))]) (.reg [Mv 17 1,iv 18 (.slice (.arr 200) 1 (.t 6) none none none),ic 19 (.copy 1 (.t 17) (.t 18))]))))
def zfO:AFn:=⟨20,zdn,[],none⟩
def zeW:AC:=.seq (.reg [iv 1 (.boxv (.t 0)),iv 2 (.mv (.k (.int .i64 0)))]) (.seq (.reg [iv 2 (.mv (.k (.int .i64 136)))]) (.ret))
def zhT:AFn:=⟨3,zeW,[.tmp 2],none⟩
def zek:AC:=.seq (.reg [iv 1 (.boxv (.t 0)),iv 2 (.mv (.k (.int .i64 0)))]) (.seq (.reg [iv 2 (.mv (.k (.int .i64 200)))]) (.ret))
def zg8:AFn:=⟨3,zek,[.tmp 2],none⟩
def zgS:AC:=.seq (.reg [ic 2 (.alloc (zaS (.int .u64 0) 25)),iv 3 (.mv (.k (.int .i64 0)))]) (.seq (.seq (.reg [Mv 4 0,iv 5 (.lenL (.t 4)),Bi 6 .neq 5 200]) (.cond (.t 6) (.seq (.reg [iv 7 (.build (zaS (.int .u64 0) 25) []),jc (.st 25 (.t 2) (.t 7)),iv 3 (.mv (.k (.int .i64 1)))]) (.ret)) (.skip))) (.seq (.reg [Mv 8 0,ir 9 (.call zdH [.t 8]),iv 10 (.s2a 25 (.t 9)),ir 11 (.ld 25 true (.t 10)),jc (.st 25 (.t 2) (.t 11)),iv 3 (.mv (.k (.int .i64 0)))]) (.ret)))
def zkq:AFn:=⟨12,zgS,[.cell 2 25 true,.tmp 3],none⟩
def znr:AC:=.seq (.reg [iv 2 (.boxv (.t 0)),iv 3 (.boxv (.t 1)),ic 4 (.alloc (zaS (.int .u64 0) 4))]) (.seq (.reg [Fa 5 0 2,ir 6 (.ld 4 true (.t 5)),Fa 7 0 3,ir 8 (.ld 4 true (.t 7)),ir 9 (.call zgy [.t 6,.t 8]),ir 10 (.call zd6 [.t 9]),iv 11 (.build (zaS (.int .u64 0) 4) [(0,4,.t 10)]),jc (.st 4 (.t 4) (.t 11))]) (.ret))
def zhU:AFn:=⟨12,znr,[.cell 4 4 true],none⟩
def zqH:AC:=.seq (.reg [iv 1 (.boxv (.t 0)),ic 2 (.alloc (zaS (.int .u64 0) 4))]) (.seq (.draw [Dr 3 (.ld 4 true (.t 1)) [1] 0 0,Dr 4 (.call zcd [.t 3]) [3] 0 0,Dr 5 (.call zcd [.t 4]) [4] 0 0,Dr 6 (.ld 4 true (.t 1)) [1] 0 0,Dr 7 (.call zc7 [.t 5,.t 6]) [5,6] 0 0,Dn (.st 4 (.t 2) (.t 7)) [2,7]]) (.ret))
def zkr:AFn:=⟨8,zqH,[.cell 2 4 true],none⟩
def zkN:AC:=.seq (.reg [iv 1 (.boxv (.t 0)),ic 2 (.alloc (zaS (.int .u64 0) 4))]) (.seq (.reg [ir 3 (.ld 4 true (.t 1)),ir 4 (.ld 4 true (.t 1)),ir 5 (.call zc7 [.t 3,.t 4]),jc (.st 4 (.t 2) (.t 5))]) (.ret))
def zfP:AFn:=⟨6,zkN,[.cell 2 4 true],none⟩
def zns:AC:=.seq (.reg [iv 2 (.boxv (.t 0)),iv 3 (.boxv (.t 1)),ic 4 (.alloc (zaS (.int .u64 0) 4))]) (.seq (.reg [Fa 5 0 2,ir 6 (.ld 4 true (.t 5)),Fa 7 0 3,ir 8 (.ld 4 true (.t 7)),ir 9 (.call zcT [.t 6,.t 8]),iv 10 (.build (zaS (.int .u64 0) 4) [(0,4,.t 9)]),jc (.st 4 (.t 4) (.t 10))]) (.ret))
def zhV:AFn:=⟨11,zns,[.cell 4 4 true],none⟩
def zjY:AC:=.seq (.reg [iv 1 (.boxv (.t 0)),ic 2 (.alloc (zaS (.int .u64 0) 4))]) (.seq (.reg [ir 4 (.call zbR []),ic 3 (.alloc (zaS (.int .u64 0) 4)),jc (.st 4 (.t 3) (.t 4))]) (.seq (.reg [iv 5 (.iadr (some 4) 1 (.t 3) (.k (.int .i64 0))),Ld 6 5,iv 7 (.bin .sub (.t 6) (.k (.int .u64 2))),iv 8 (.iadr (some 4) 1 (.t 3) (.k (.int .i64 0))),Sx 8 7]) (.seq (.draw [Dr 9 (.ld 4 true (.t 1)) [1] 0 0,Dv 10 (.slice (.arr 4) 1 (.t 3) none none none) [3],Dr 11 (.call zhK [.t 9,.t 10]) [9,10] 0 0,Dn (.st 4 (.t 2) (.t 11)) [2,11]]) (.ret))))
def zft:AFn:=⟨12,zjY,[.cell 2 4 true],none⟩
def zmx:AC:=.seq (.seq (.reg [Mv 11 6,Bi 12 .geq 11 0]) (.cond (.t 12) (.skip) (.exit 0))) (.seq (.blk 1 (.seq (.reg [ir 15 (.ld 4 true (.t 5)),ir 16 (.call zcd [.t 15]),jc (.st 4 (.t 5) (.t 16))]) (.seq (.reg [Mv 17 1,Mv 18 6,Bi 19 .quo 18 64,Ia 20 17 19,Ld 21 20,Mv 22 6,Bi 23 .rem 22 64,Bt 24 .shr 21 23,iv 25 (.bin .and (.t 24) (.k (.int .u64 1))),iv 26 (.bin .eql (.t 25) (.k (.int .u64 1)))]) (.cond (.t 26) (.reg [ir 27 (.ld 4 true (.t 5)),ir 28 (.ld 4 true (.t 2)),ir 29 (.call zc7 [.t 27,.t 28]),jc (.st 4 (.t 5) (.t 29))]) (.skip))))) (.reg [Mv 13 6,Bi 14 .sub 13 1,Mv 6 14]))
def znu:AC:=.seq (.reg [iv 2 (.boxv (.t 0)),ic 4 (.alloc (zaS (.int .u64 0) 4))]) (.seq (.reg [ir 7 (.call zin [.k (.int .u64 1)]),ic 5 (.alloc (zaS (.int .u64 0) 4)),jc (.st 4 (.t 5) (.t 7))]) (.seq (.seq (.reg [Mv 8 1,ir 9 (.call zfT [.t 8]),Bi 10 .sub 9 1,Mv 6 10]) (.blk 0 (.loop zmx))) (.seq (.reg [ir 30 (.ld 4 true (.t 5)),jc (.st 4 (.t 4) (.t 30))]) (.ret))))
def zhW:AFn:=⟨31,znu,[.cell 4 4 true],none⟩
def zqJ:AC:=.reg [iv 0 (.build (zaS (.int .u64 0) 24) [(0,1,.k (.int .u64 1)),(1,1,.k (.int .u64 32898)),(2,1,.k (.int .u64 9223372036854808714)),(3,1,.k (.int .u64 9223372039002292224)),(4,1,.k (.int .u64 32907)),(5,1,.k (.int .u64 2147483649)),(6,1,.k (.int .u64 9223372039002292353)),(7,1,.k (.int .u64 9223372036854808585)),(8,1,.k (.int .u64 138)),(9,1,.k (.int .u64 136)),(10,1,.k (.int .u64 2147516425)),(11,1,.k (.int .u64 2147483658)),(12,1,.k (.int .u64 2147516555)),(13,1,.k (.int .u64 9223372036854775947)),(14,1,.k (.int .u64 9223372036854808713)),(15,1,.k (.int .u64 9223372036854808579)),(16,1,.k (.int .u64 9223372036854808578)),(17,1,.k (.int .u64 9223372036854775936)),(18,1,.k (.int .u64 32778)),(19,1,.k (.int .u64 9223372039002259466)),(20,1,.k (.int .u64 9223372039002292353)),(21,1,.k (.int .u64 9223372036854808704)),(22,1,.k (.int .u64 2147483649)),(23,1,.k (.int .u64 9223372039002292232))]),jc (.st 24 (.g 0) (.t 0))]
def zks:AFn:=⟨1,zqJ,[],none⟩
def zPy:FuncId→Option AFn
  | 2=>some zku
  | 6=>some zc2
  | 9=>some zg9
  | 11=>some zkv
  | 13=>some zkw
  | 15=>some zdI
  | 17=>some zc3
  | 18=>some zdJ
  | 19=>some zef
  | 20=>some zoQ
  | 21=>some zeg
  | 22=>some zkx
  | 24=>some zdK
  | 25=>some zdL
  | 26=>some zlv
  | 28=>some zgw
  | 29=>some zdg
  | 30=>some zeB
  | 31=>some zjh
  | 33=>some zc4
  | 34=>some zcW
  | 36=>some zso
  | 37=>some zwN
  | 38=>some zh0
  | 39=>some zmV
  | 43=>some zcy
  | 44=>some zcY
  | 45=>some ziy
  | 47=>some zhg
  | 48=>some zkB
  | 49=>some zlQ
  | 50=>some zlR
  | 51=>some zdP
  | 52=>some zju
  | 53=>some zmW
  | 54=>some zgI
  | 55=>some zql
  | 60=>some zmX
  | 61=>some zds
  | 62=>some zmY
  | 64=>some zlU
  | 65=>some zib
  | 66=>some zqm
  | 67=>some zcA
  | 68=>some zfc
  | 69=>some zjw
  | 70=>some zo9
  | 74=>some zhh
  | 75=>some zkD
  | 76=>some zqn
  | 77=>some zpa
  | 78=>some zjx
  | 79=>some zlY
  | 93=>some zpb
  | 94=>some ziz
  | 95=>some zl0
  | 96=>some zpc
  | 97=>some zpd
  | 98=>some zhM
  | 99=>some zi1
  | 100=>some zev
  | 101=>some zmR
  | 102=>some zkk
  | 108=>some zp6
  | 109=>some ze3
  | 110=>some zp8
  | 111=>some zmS
  | 112=>some zok
  | 113=>some zol
  | 114=>some zlf
  | 115=>some zp9
  | 117=>some zon
  | 132=>some ze4
  | 140=>some zr1
  | 141=>some zi5
  | 142=>some zi6
  | 143=>some zqa
  | 144=>some zg6
  | 145=>some zio
  | 146=>some zfp
  | 147=>some zop
  | 148=>some zi7
  | 149=>some zfL
  | 150=>some zg7
  | 151=>some ztT
  | 152=>some zgr
  | 158=>some zgs
  | 160=>some zqc
  | 161=>some zjj
  | 166=>some zh1
  | 167=>some zgz
  | 168=>some zgA
  | 176=>some zfa
  | 180=>some zqe
  | 181=>some zky
  | 182=>some zlF
  | 183=>some zkz
  | 184=>some zkA
  | 185=>some zst
  | 186=>some zha
  | 187=>some zdN
  | 188=>some zhb
  | 189=>some zsy
  | 195=>some zgD
  | 196=>some zh5
  | 197=>some zh6
  | 204=>some zsA
  | 205=>some zqk
  | 206=>some zug
  | 207=>some zhd
  | 208=>some zw5
  | 209=>some ziw
  | 210=>some zhe
  | 211=>some zhf
  | 212=>some zix
  | 213=>some zjs
  | 214=>some zh7
  | 215=>some zjt
  | 220=>some zi9
  | 221=>some zkm
  | 222=>some zja
  | 223=>some zhQ
  | 224=>some zfM
  | 230=>some zhR
  | 231=>some zwA
  | 232=>some zgv
  | 233=>some ze7
  | 234=>some zt1
  | 235=>some zko
  | 240=>some zjb
  | 241=>some zsd
  | 242=>some zsf
  | 260=>some zed
  | 261=>some zdD
  | 262=>some zey
  | 263=>some zee
  | 275=>some zip
  | 282=>some zfO
  | 283=>some zhT
  | 284=>some zg8
  | 285=>some zkq
  | 290=>some zhU
  | 291=>some zkr
  | 297=>some zfP
  | 298=>some zhV
  | 304=>some zft
  | 313=>some zhW
  | 343=>some zks
  | _=>none
def zON:FuncId→Av.Mode
  | 11=>⟨false,false,true,false⟩
  | 13=>⟨false,false,false,false⟩
  | 15=>⟨false,false,false,false⟩
  | 17=>⟨false,false,false,false⟩
  | 20=>⟨false,false,true,false⟩
  | 21=>⟨false,false,false,false⟩
  | 24=>⟨false,false,false,false⟩
  | 25=>⟨false,false,false,false⟩
  | 26=>⟨false,false,false,false⟩
  | 33=>⟨false,false,false,false⟩
  | 34=>⟨false,false,false,false⟩
  | 36=>⟨false,false,true,false⟩
  | 39=>⟨false,false,true,false⟩
  | 43=>⟨false,false,false,false⟩
  | 44=>⟨false,false,false,false⟩
  | 45=>⟨false,false,false,false⟩
  | 47=>⟨false,false,false,false⟩
  | 49=>⟨false,false,true,false⟩
  | 51=>⟨false,false,false,false⟩
  | 53=>⟨false,false,false,false⟩
  | 55=>⟨true,false,false,false⟩
  | 58=>⟨false,false,false,false⟩
  | 61=>⟨false,false,false,false⟩
  | 63=>⟨true,true,false,true⟩
  | 67=>⟨true,false,false,false⟩
  | 68=>⟨false,false,true,false⟩
  | 69=>⟨false,false,true,false⟩
  | 74=>⟨false,false,false,false⟩
  | 75=>⟨false,false,true,false⟩
  | 94=>⟨false,false,false,false⟩
  | 98=>⟨false,false,false,false⟩
  | 100=>⟨false,false,true,false⟩
  | 101=>⟨false,false,true,false⟩
  | 104=>⟨true,false,false,false⟩
  | 110=>⟨true,false,false,false⟩
  | 119=>⟨false,false,false,true⟩
  | 123=>⟨true,false,false,false⟩
  | 144=>⟨false,false,false,false⟩
  | 145=>⟨false,false,false,false⟩
  | 146=>⟨true,false,false,false⟩
  | 147=>⟨false,false,false,true⟩
  | 148=>⟨false,false,false,false⟩
  | 151=>⟨true,false,false,false⟩
  | 152=>⟨true,false,false,false⟩
  | 153=>⟨true,false,false,false⟩
  | 166=>⟨false,false,true,false⟩
  | 187=>⟨true,false,false,false⟩
  | 188=>⟨true,false,false,false⟩
  | 189=>⟨true,false,false,false⟩
  | 206=>⟨true,false,false,false⟩
  | 207=>⟨true,false,false,false⟩
  | 209=>⟨true,false,false,false⟩
  | 214=>⟨true,false,false,false⟩
  | 231=>⟨true,false,false,false⟩
  | 232=>⟨true,false,false,false⟩
  | 234=>⟨true,false,false,false⟩
  | 242=>⟨true,false,false,false⟩
  | 260=>⟨false,false,false,false⟩
  | 261=>⟨false,false,false,false⟩
  | 262=>⟨false,false,false,false⟩
  | 263=>⟨false,false,false,false⟩
  | 264=>⟨false,false,false,false⟩
  | 266=>⟨false,false,false,false⟩
  | 267=>⟨false,false,false,false⟩
  | 268=>⟨false,false,false,false⟩
  | 269=>⟨false,false,false,false⟩
  | 270=>⟨false,false,false,false⟩
  | 271=>⟨false,false,false,false⟩
  | 272=>⟨false,false,false,false⟩
  | 273=>⟨false,false,false,false⟩
  | 282=>⟨false,false,false,false⟩
  | 286=>⟨false,false,false,false⟩
  | 287=>⟨false,false,false,false⟩
  | 288=>⟨false,false,false,false⟩
  | 289=>⟨false,false,false,false⟩
  | 295=>⟨false,false,true,false⟩
  | 296=>⟨false,false,false,false⟩
  | 305=>⟨false,false,false,false⟩
  | 306=>⟨false,false,false,false⟩
  | 307=>⟨false,false,false,false⟩
  | 313=>⟨true,false,false,false⟩
  | 333=>⟨false,false,false,false⟩
  | _=>Mode.pure
def zL6:Nat→Option (List zaa)
  | 0=>some ([.int .u64 1,.int .u64 32898,.int .u64 9223372036854808714,.int .u64 9223372039002292224,.int .u64 32907,.int .u64 2147483649,.int .u64 9223372039002292353,.int .u64 9223372036854808585,.int .u64 138,.int .u64 136,.int .u64 2147516425,.int .u64 2147483658,.int .u64 2147516555,.int .u64 9223372036854775947,.int .u64 9223372036854808713,.int .u64 9223372036854808579,.int .u64 9223372036854808578,.int .u64 9223372036854775936,.int .u64 32778,.int .u64 9223372039002259466,.int .u64 9223372039002292353,.int .u64 9223372036854808704,.int .u64 2147483649,.int .u64 9223372039002292232])
  | _=>none
def zL7:List (TypeId × String × FuncId):=[(157,"Width",zbJ),(157,"Rate",zb2),(157,"Permute",zbv),(84,"avouch/transcript.tell",zbb),(84,"avouch/transcript.bytes",za4),(84,"avouch/transcript.fields",zaU)]
def zHg:List (TypeId × String × FuncId × Nat):=[(84,"Ratchet",zaV,0),(84,"Calls",zbc,0)]
def zIW (t : TypeId) (n : String) : Option (List (Nat × Nat × Bool) × FuncId) := match (zL7.find? fun r => r.1 == t && r.2.1 == n) with
  | some r=>some ([],r.2.2)
  | none=>(zHg.find? fun r=>r.1==t&&r.2.1==n).map fun r=>([(r.2.2.2,1,false)],r.2.2.1)
def zOO:FuncId→Option zJ6
  | 116=>some (zLO)
  | 159=>some (zMt)
  | _=>none
def ctx:Ctx:={fns:=zPy,mode:=zON,glob:=zL6,meth:=zIW,ext:=zOO,qinv:=fun n=>n== "Width"||n== "Rate"||n== "Calls"}
abbrev zaq (f:FuncId) (m:Mode) (n:Nat) (c:AC) (r:List zwB):Prop:=∀ (L:Lim) (a:List zaa) (h:zab),zae ctx L f a h=zCb ctx L m h n c r (zjA m h a)
theorem znw:ctx.ext zaN=some (zLO):=rfl
theorem znx:ctx.ext zbZ=some (zMt):=rfl
@[simp] theorem zEn:ctx.meth 157 "Width"=some ([],zbJ):=rfl
@[simp] theorem zFZ:ctx.meth 157 "Rate"=some ([],zb2):=rfl
@[simp] theorem zBh:ctx.meth 157 "Permute"=some ([],zbv):=rfl
@[simp] theorem zHh:ctx.meth 84 "avouch/transcript.tell"=some ([],zbb):=rfl
@[simp] theorem zF0:ctx.meth 84 "avouch/transcript.bytes"=some ([],za4):=rfl
@[simp] theorem zEo:ctx.meth 84 "avouch/transcript.fields"=some ([],zaU):=rfl
@[simp] theorem zDn:ctx.meth 84 "Ratchet"=some ([(0,1,false)],zaV):=rfl
@[simp] theorem zF1:ctx.meth 84 "Calls"=some ([(0,1,false)],zbc):=rfl
theorem zfw:zaq za7 Mode.pure 99 zaA [.tmp 4]:=fun L a h=>zad h L rfl rfl a
@[simp] theorem znU:zac ctx za7=true:=rfl
theorem zj8:zaq zbL Mode.pure 82 zel [.tmp 0]:=fun L a h=>zad h L rfl rfl a
@[simp] theorem zub:zac ctx zbL=true:=rfl
theorem znD:zaq zcn (⟨false,false,true,false⟩) 64 zeP [.tmp 4,.tmp 5,.tmp 6]:=fun L a h=>zad h L rfl rfl a
@[simp] theorem zxs:zac ctx zcn=false:=rfl
theorem znF:zaq zeK (⟨false,false,false,false⟩) 56 zcp [.tmp 4,.tmp 5]:=fun L a h=>zad h L rfl rfl a
@[simp] theorem zxt:zac ctx zeK=false:=rfl
theorem zgB:zaq zaH (⟨false,false,false,false⟩) 8 zb6 [.tmp 2]:=fun L a h=>zad h L rfl rfl a
@[simp] theorem zpQ:zac ctx zaH=false:=rfl
theorem zfx:zaq za8 (⟨false,false,false,false⟩) 8 zbA [.tmp 2]:=fun L a h=>zad h L rfl rfl a
@[simp] theorem znV:zac ctx za8=false:=rfl
theorem zgX:zaq zaM Mode.pure 8 zck [.tmp 2]:=fun L a h=>zad h L rfl rfl a
@[simp] theorem zqg:zac ctx zaM=true:=rfl
theorem zqN:zaq zhk (⟨false,false,true,false⟩) 6 zj1 [.tmp 2]:=fun L a h=>zad h L rfl rfl a
@[simp] theorem zAJ:zac ctx zhk=false:=rfl
theorem zgZ:zaq zbu (⟨false,false,false,false⟩) 48 zcl []:=fun L a h=>zad h L rfl rfl a
@[simp] theorem zqi:zac ctx zbu=false:=rfl
theorem znI:zaq zeL Mode.pure 33 zde [.tmp 2]:=fun L a h=>zad h L rfl rfl a
@[simp] theorem zxv:zac ctx zeL=true:=rfl
theorem zgF:zaq zaV (⟨false,false,false,false⟩) 22 zb7 []:=fun L a h=>zad h L rfl rfl a
@[simp] theorem zpS:zac ctx zaV=false:=rfl
theorem zgG:zaq zaW (⟨false,false,false,false⟩) 47 zb8 [.tmp 4]:=fun L a h=>zad h L rfl rfl a
@[simp] theorem zpT:zac ctx zaW=false:=rfl
theorem zo4:zaq zfm (⟨false,false,false,false⟩) 36 zhY [.tmp 4,.tmp 5,.tmp 6]:=fun L a h=>zad h L rfl rfl a
@[simp] theorem zyq:zac ctx zfm=false:=rfl
theorem zjr:zaq zcs Mode.pure 10 zdM [.cell 2 32 true]:=fun L a h=>zad h L rfl rfl a
@[simp] theorem ztr:zac ctx zcs=true:=rfl
theorem zfI:zaq zaB Mode.pure 8 zbE [.tmp 2]:=fun L a h=>zad h L rfl rfl a
@[simp] theorem zo7:zac ctx zaB=true:=rfl
theorem zhw:zaq zbc Mode.pure 7 zcD [.tmp 2]:=fun L a h=>zad h L rfl rfl a
@[simp] theorem zqQ:zac ctx zbc=true:=rfl
theorem zhc:zaq zcS Mode.pure 32 zd7 [.tmp 4]:=fun L a h=>zad h L rfl rfl a
@[simp] theorem zw4:zac ctx zcS=true:=rfl
theorem zfy:zaq zaz (⟨false,false,false,false⟩) 59 zat [.tmp 6]:=fun L a h=>zad h L rfl rfl a
@[simp] theorem znW:zac ctx zaz=false:=rfl
theorem zfe:zaq zax (⟨false,false,false,false⟩) 28 za2 [.tmp 4,.tmp 5]:=fun L a h=>zad h L rfl rfl a
@[simp] theorem znN:zac ctx zax=false:=rfl
theorem zts:zaq zjO (⟨false,false,true,false⟩) 21 zj3 [.tmp 2,.tmp 3,.tmp 4]:=fun L a h=>zad h L rfl rfl a
@[simp] theorem zDH:zac ctx zjO=false:=rfl
theorem zw6:zaq zom Mode.pure 36 zhZ [.cell 4 32 true,.tmp 5,.tmp 6]:=fun L a h=>zad h L rfl rfl a
@[simp] theorem zGj:zac ctx zom=true:=rfl
theorem zk2:zaq zb3 Mode.pure 8 zeY [.tmp 2]:=fun L a h=>zad h L rfl rfl a
@[simp] theorem zvu:zac ctx zb3=true:=rfl
@[simp] theorem zzC:zac ctx zmT=false:=rfl
theorem zeC:zaq zaQ (⟨false,false,false,false⟩) 42 zaC [.tmp 4,.tmp 5]:=fun L a h=>zad h L rfl rfl a
@[simp] theorem zmJ:zac ctx zaQ=false:=rfl
theorem zff:zaq za0 (⟨false,false,false,false⟩) 23 za3 [.tmp 2]:=fun L a h=>zad h L rfl rfl a
@[simp] theorem znP:zac ctx za0=false:=rfl
theorem zlP:zaq za9 (⟨false,false,false,false⟩) 32 zcz [.tmp 4]:=fun L a h=>zad h L rfl rfl a
@[simp] theorem zvI:zac ctx za9=false:=rfl
theorem zkc:zaq zcK (⟨false,false,false,false⟩) 15 zcL [.tmp 2]:=fun L a h=>zad h L rfl rfl a
@[simp] theorem zuh:zac ctx zcK=false:=rfl
theorem znQ:zaq zeN Mode.pure 7 zg1 [.tmp 2]:=fun L a h=>zad h L rfl rfl a
@[simp] theorem zxx:zac ctx zeN=true:=rfl
theorem zn6:zaq zfn (⟨false,false,true,false⟩) 14 zh8 [.tmp 4]:=fun L a h=>zad h L rfl rfl a
@[simp] theorem zxH:zac ctx zfn=false:=rfl
theorem zn7:zaq zfo Mode.pure 3 zh9 [.tmp 0]:=fun L a h=>zad h L rfl rfl a
@[simp] theorem zxJ:zac ctx zfo=true:=rfl
theorem zgk:zaq zaI (⟨false,false,false,false⟩) 23 zcb []:=fun L a h=>zad h L rfl rfl a
@[simp] theorem zpi:zac ctx zaI=false:=rfl
theorem zmf:zaq zdZ Mode.pure 41 zb0 [.tmp 2]:=fun L a h=>zad h L rfl rfl a
@[simp] theorem zv3:zac ctx zdZ=true:=rfl
theorem zpj:zaq zgc (⟨false,false,false,false⟩) 27 ziQ [.cell 2 4 true,.tmp 3,.tmp 4]:=fun L a h=>zad h L rfl rfl a
@[simp] theorem zyR:zac ctx zgc=false:=rfl
theorem ziX:zaq zcu Mode.pure 7 zdR [.cell 2 4 true]:=fun L a h=>zad h L rfl rfl a
@[simp] theorem zsY:zac ctx zcu=true:=rfl
theorem zrw:zaq zgo (⟨true,false,false,false⟩) 24 zlT [.tmp 2]:=fun L a h=>zad h L rfl rfl a
@[simp] theorem zA4:zac ctx zgo=true:=rfl
theorem zpk:zaq zdj Mode.pure 33 zcE [.tmp 4,.tmp 5]:=fun L a h=>zad h L rfl rfl a
@[simp] theorem zyT:zac ctx zdj=true:=rfl
theorem zfX:zaq zaw (⟨false,false,false,false⟩) 16 zbT [.tmp 4]:=fun L a h=>zad h L rfl rfl a
@[simp] theorem zpf:zac ctx zaw=false:=rfl
theorem zpl:zaq zew Mode.pure 44 zeD [.tmp 4]:=fun L a h=>zad h L rfl rfl a
@[simp] theorem zyU:zac ctx zew=true:=rfl
theorem zn8:zaq zfq Mode.pure 34 zia [.tmp 2,.tmp 3,.tmp 4]:=fun L a h=>zad h L rfl rfl a
@[simp] theorem zxL:zac ctx zfq=true:=rfl
theorem zkF:zaq zc8 Mode.pure 34 zeZ [.tmp 2,.tmp 3,.tmp 4]:=fun L a h=>zad h L rfl rfl a
@[simp] theorem zuy:zac ctx zc8=true:=rfl
theorem zrz:zaq zgq Mode.pure 16 zlV [.cell 2 32 true]:=fun L a h=>zad h L rfl rfl a
@[simp] theorem zA5:zac ctx zgq=true:=rfl
@[simp] theorem zmg:zac ctx zbo=true:=rfl
@[simp] theorem zqW:zac ctx ze6=false:=rfl
@[simp] theorem zv6:zac ctx zi8=false:=rfl
@[simp] theorem zAh:zac ctx zot=true:=rfl
theorem zjF:zaq zbM (⟨false,false,false,false⟩) 11 zer [.tmp 6]:=fun L a h=>zad h L rfl rfl a
@[simp] theorem ztH:zac ctx zbM=false:=rfl
theorem zm5:zaq zeO (⟨false,false,true,false⟩) 33 zg2 [.tmp 4,.tmp 5]:=fun L a h=>zad h L rfl rfl a
@[simp] theorem zxm:zac ctx zeO=false:=rfl
theorem zrD:zaq zdA Mode.pure 36 zlW [.tmp 2]:=fun L a h=>zad h L rfl rfl a
@[simp] theorem zA6:zac ctx zdA=true:=rfl
theorem zqq:zaq zhp Mode.pure 8 zke [.cell 2 32 true]:=fun L a h=>zad h L rfl rfl a
@[simp] theorem zAi:zac ctx zhp=true:=rfl
theorem zg4:zaq zbW Mode.pure 26 zec [.cell 2 4 true,.tmp 3]:=fun L a h=>zad h L rfl rfl a
@[simp] theorem zv9:zac ctx zbW=true:=rfl
theorem zob:zaq zcT Mode.pure 91 zic [.cell 4 4 true]:=fun L a h=>zad h L rfl rfl a
@[simp] theorem zxQ:zac ctx zcT=true:=rfl
theorem zqr:zaq zhq Mode.pure 6 zkf [.tmp 2]:=fun L a h=>zad h L rfl rfl a
@[simp] theorem zAj:zac ctx zhq=true:=rfl
theorem zlb:zaq zdq (⟨false,false,false,false⟩) 51 zcB [.tmp 8]:=fun L a h=>zad h L rfl rfl a
@[simp] theorem zvB:zac ctx zdq=false:=rfl
theorem zoc:zaq zdF Mode.pure 20 zcc [.cell 2 3 true]:=fun L a h=>zad h L rfl rfl a
@[simp] theorem zxS:zac ctx zdF=true:=rfl
theorem zqs:zaq zhr Mode.pure 43 zfD [.cell 2 4 true,.tmp 3,.tmp 4]:=fun L a h=>zad h L rfl rfl a
@[simp] theorem zAl:zac ctx zhr=true:=rfl
theorem zqt:zaq zhs Mode.pure 29 zkg [.tmp 2,.tmp 3]:=fun L a h=>zad h L rfl rfl a
@[simp] theorem zAm:zac ctx zhs=true:=rfl
theorem zkG:zaq zdb (⟨false,false,false,false⟩) 43 zeS []:=fun L a h=>zad h L rfl rfl a
@[simp] theorem zuF:zac ctx zdb=false:=rfl
theorem zmh:zaq zcV Mode.pure 19 zf0 [.cell 2 32 true]:=fun L a h=>zad h L rfl rfl a
@[simp] theorem zwb:zac ctx zcV=true:=rfl
@[simp] theorem zqu:zac ctx zez=false:=rfl
@[simp] theorem zyZ:zac ctx zmU=false:=rfl
@[simp] theorem zxn:zac ctx zkt=true:=rfl
theorem zrG:zaq zis Mode.pure 14 zlc [.tmp 2,.tmp 3]:=fun L a h=>zad h L rfl rfl a
@[simp] theorem zA7:zac ctx zis=true:=rfl
theorem zhJ:zaq zbD Mode.pure 9 zcQ [.tmp 4]:=fun L a h=>zad h L rfl rfl a
@[simp] theorem zqZ:zac ctx zbD=true:=rfl
theorem zrI:zaq zdH (⟨true,false,false,false⟩) 33 zle [.tmp 2]:=fun L a h=>zad h L rfl rfl a
@[simp] theorem zA8:zac ctx zdH=true:=rfl
theorem zpp:zaq zeA Mode.pure 26 ziI [.cell 4 4 true,.tmp 5]:=fun L a h=>zad h L rfl rfl a
@[simp] theorem zy1:zac ctx zeA=true:=rfl
theorem zqv:zaq zbR Mode.pure 2 zjM [.cell 0 4 true]:=fun L a h=>zad h L rfl rfl a
@[simp] theorem zAq:zac ctx zbR=true:=rfl
theorem zqw:zaq zd5 Mode.pure 16 zjN [.cell 2 4 true]:=fun L a h=>zad h L rfl rfl a
@[simp] theorem zAr:zac ctx zd5=true:=rfl
theorem zof:zaq zfu Mode.pure 16 zhN [.tmp 0]:=fun L a h=>zad h L rfl rfl a
@[simp] theorem zxU:zac ctx zfu=true:=rfl
theorem zrJ:zaq ze9 Mode.pure 38 zlg [.tmp 8,.tmp 9]:=fun L a h=>zad h L rfl rfl a
@[simp] theorem zA9:zac ctx ze9=true:=rfl
theorem zqx:zaq zd6 Mode.pure 15 zhl [.cell 2 4 true]:=fun L a h=>zad h L rfl rfl a
@[simp] theorem zAt:zac ctx zd6=true:=rfl
theorem zs1:zaq zj2 Mode.pure 10 znb [.tmp 4]:=fun L a h=>zad h L rfl rfl a
@[simp] theorem zCj:zac ctx zj2=true:=rfl
theorem zmj:zaq zbX Mode.pure 11 zdY [.tmp 2]:=fun L a h=>zad h L rfl rfl a
@[simp] theorem zwm:zac ctx zbX=true:=rfl
theorem zmk:zaq zbY Mode.pure 11 zf1 [.tmp 2]:=fun L a h=>zad h L rfl rfl a
@[simp] theorem zwn:zac ctx zbY=true:=rfl
theorem zrR:zaq ziu Mode.pure 31 ze5 [.cell 2 12 true,.tmp 3]:=fun L a h=>zad h L rfl rfl a
@[simp] theorem zBb:zac ctx ziu=true:=rfl
theorem zjJ:zaq za6 (⟨false,false,false,false⟩) 26 zei [.tmp 4]:=fun L a h=>zad h L rfl rfl a
@[simp] theorem ztO:zac ctx za6=false:=rfl
theorem zld:zaq zcv (⟨false,false,false,false⟩) 33 zdp [.tmp 4]:=fun L a h=>zad h L rfl rfl a
@[simp] theorem zvC:zac ctx zcv=false:=rfl
@[simp] theorem zrT:zac ctx zbS=true:=rfl
theorem zkl:zaq zcw (⟨false,false,false,true⟩) 22 zhm [.tmp 6]:=fun L a h=>zad h L rfl rfl a
@[simp] theorem zAy:zac ctx zcw=false:=rfl
theorem zml:zaq zbg (⟨false,false,false,false⟩) 23 zf2 []:=fun L a h=>zad h L rfl rfl a
@[simp] theorem zwr:zac ctx zbg=false:=rfl
theorem ziH:zaq zba Mode.pure 12 zdm [.cell 2 25 true]:=fun L a h=>zad h L rfl rfl a
@[simp] theorem zsQ:zac ctx zba=true:=rfl
theorem zjK:zaq zbN Mode.pure 7 zej [.cell 2 200 true]:=fun L a h=>zad h L rfl rfl a
@[simp] theorem ztP:zac ctx zbN=true:=rfl
theorem zuQ:zaq zji (⟨true,false,false,false⟩) 88 zpv [.tmp 2,.tmp 3]:=fun L a h=>zad h L rfl rfl a
@[simp] theorem zEj:zac ctx zji=true:=rfl
theorem zi2:zaq zbB (⟨true,false,false,false⟩) 33 zdz [.tmp 4]:=fun L a h=>zad h L rfl rfl a
@[simp] theorem zs3:zac ctx zbB=true:=rfl
theorem zi3:zaq zcx Mode.pure 19 zdB [.tmp 4]:=fun L a h=>zad h L rfl rfl a
@[simp] theorem zs4:zac ctx zcx=true:=rfl
theorem zrZ:zaq zgy Mode.pure 25 zlk [.cell 4 4 true]:=fun L a h=>zad h L rfl rfl a
@[simp] theorem zBc:zac ctx zgy=true:=rfl
theorem zmm:zaq zcM Mode.pure 51 zf8 [.tmp 4,.tmp 5]:=fun L a h=>zad h L rfl rfl a
@[simp] theorem zws:zac ctx zcM=true:=rfl
@[simp] theorem zuR:zac ctx zhB=false:=rfl
@[simp] theorem zs5:zac ctx zgf=true:=rfl
@[simp] theorem zs6:zac ctx zgg=true:=rfl
@[simp] theorem zq6:zac ctx ze0=true:=rfl
theorem zr0:zaq zij Mode.pure 3 zlC [.tmp 0]:=fun L a h=>zad h L rfl rfl a
@[simp] theorem zBd:zac ctx zij=true:=rfl
theorem znc:zaq zeE Mode.pure 25 zdh [.cell 4 12 true,.tmp 5]:=fun L a h=>zad h L rfl rfl a
@[simp] theorem zxo:zac ctx zeE=true:=rfl
theorem zoo:zaq zfg Mode.pure 15 zh2 [.cell 6 12 true]:=fun L a h=>zad h L rfl rfl a
@[simp] theorem zx7:zac ctx zfg=true:=rfl
theorem znd:zaq zeF Mode.pure 24 zgU [.tmp 0]:=fun L a h=>zad h L rfl rfl a
@[simp] theorem zxp:zac ctx zeF=true:=rfl
theorem zne:zaq zeG Mode.pure 10 zgV [.cell 2 12 true]:=fun L a h=>zad h L rfl rfl a
@[simp] theorem zxq:zac ctx zeG=true:=rfl
theorem zs7:zaq zjz Mode.pure 3 znC [.cell 0 12 true]:=fun L a h=>zad h L rfl rfl a
@[simp] theorem zCz:zac ctx zjz=true:=rfl
theorem zjP:zaq zcH Mode.pure 16 zem [.cell 4 25 true]:=fun L a h=>zad h L rfl rfl a
@[simp] theorem ztR:zac ctx zcH=true:=rfl
theorem zgp:zaq zaT (⟨true,false,false,false⟩) 8 zb9 [.tmp 2]:=fun L a h=>zad h L rfl rfl a
@[simp] theorem zpu:zac ctx zaT=true:=rfl
theorem zjR:zaq zbG (⟨true,false,false,false⟩) 34 zen [.tmp 6]:=fun L a h=>zad h L rfl rfl a
@[simp] theorem ztS:zac ctx zbG=true:=rfl
theorem zs8:zaq zfT (⟨true,false,false,false⟩) 24 znH [.tmp 2]:=fun L a h=>zad h L rfl rfl a
@[simp] theorem zCC:zac ctx zfT=true:=rfl
@[simp] theorem zs9:zac ctx zgh=true:=rfl
@[simp] theorem zuV:zac ctx zhC=true:=rfl
@[simp] theorem zuW:zac ctx zhD=true:=rfl
theorem zta:zaq zhE Mode.pure 13 znL [.tmp 2]:=fun L a h=>zad h L rfl rfl a
@[simp] theorem zCE:zac ctx zhE=true:=rfl
theorem zr3:zaq zgj Mode.pure 2 zlN [.cell 0 12 true]:=fun L a h=>zad h L rfl rfl a
@[simp] theorem zBe:zac ctx zgj=true:=rfl
theorem zu0:zaq ziR (⟨true,false,false,false⟩) 27 zpV [.tmp 4]:=fun L a h=>zad h L rfl rfl a
@[simp] theorem zEk:zac ctx ziR=true:=rfl
theorem zjS:zaq zbI (⟨true,false,false,false⟩) 8 zeo [.tmp 2]:=fun L a h=>zad h L rfl rfl a
@[simp] theorem ztU:zac ctx zbI=true:=rfl
theorem zww:zaq znZ Mode.pure 13 zsB [.cell 6 12 true]:=fun L a h=>zad h L rfl rfl a
@[simp] theorem zFq:zac ctx znZ=true:=rfl
theorem zlj:zaq zbm (⟨true,false,false,false⟩) 64 zfz [.tmp 6]:=fun L a h=>zad h L rfl rfl a
@[simp] theorem zvD:zac ctx zbm=true:=rfl
theorem zj4:zaq zcI Mode.pure 45 zep [.cell 2 25 true]:=fun L a h=>zad h L rfl rfl a
@[simp] theorem zt6:zac ctx zcI=true:=rfl
theorem zj5:zaq zcJ Mode.pure 42 zeq [.cell 2 25 true]:=fun L a h=>zad h L rfl rfl a
@[simp] theorem zt8:zac ctx zcJ=true:=rfl
theorem zlx:zaq zdo Mode.pure 36 zfA [.cell 2 25 true]:=fun L a h=>zad h L rfl rfl a
@[simp] theorem zvF:zac ctx zdo=true:=rfl
theorem zmA:zaq zdT Mode.pure 12 zga [.tmp 2]:=fun L a h=>zad h L rfl rfl a
@[simp] theorem zwP:zac ctx zdT=true:=rfl
theorem zfQ:zaq zbw (⟨true,false,false,false⟩) 31 zca [.tmp 6]:=fun L a h=>zad h L rfl rfl a
@[simp] theorem zvh:zac ctx zbw=true:=rfl
theorem zmB:zaq zdU Mode.pure 25 zaO [.tmp 2]:=fun L a h=>zad h L rfl rfl a
@[simp] theorem zwS:zac ctx zdU=true:=rfl
@[simp] theorem zwV:zac ctx ziS=true:=rfl
@[simp] theorem zxr:zac ctx zkh=true:=rfl
@[simp] theorem zwW:zac ctx ziT=true:=rfl
@[simp] theorem zvj:zac ctx zhF=true:=rfl
@[simp] theorem zsR:zac ctx zfK=true:=rfl
theorem zkX:zaq zc5 Mode.pure 20 zb4 [.tmp 4]:=fun L a h=>zad h L rfl rfl a
@[simp] theorem zvk:zac ctx zc5=true:=rfl
theorem zwX:zaq zhH (⟨true,false,false,false⟩) 13 zoE [.tmp 4]:=fun L a h=>zad h L rfl rfl a
@[simp] theorem zF4:zac ctx zhH=true:=rfl
theorem zjn:zaq zaL (⟨true,false,false,false⟩) 151 zdC [.tmp 6]:=fun L a h=>zad h L rfl rfl a
@[simp] theorem ztm:zac ctx zaL=true:=rfl
theorem zh3:zaq zbf Mode.pure 17 zcU [.tmp 4]:=fun L a h=>zad h L rfl rfl a
@[simp] theorem zrc:zac ctx zbf=true:=rfl
theorem zvl:zaq zl3 (⟨true,false,false,false⟩) 11 zpG [.tmp 4,.tmp 5]:=fun L a h=>zad h L rfl rfl a
@[simp] theorem zEp:zac ctx zl3=true:=rfl
@[simp] theorem zxu:zac ctx zki=true:=rfl
theorem zmE:zaq zcN Mode.pure 6 zf6 [.tmp 2]:=fun L a h=>zad h L rfl rfl a
@[simp] theorem zw1:zac ctx zcN=true:=rfl
theorem ztn:zaq zfW Mode.pure 38 znm [.tmp 8,.tmp 9]:=fun L a h=>zad h L rfl rfl a
@[simp] theorem zDs:zac ctx zfW=true:=rfl
theorem zto:zaq zjH (⟨true,false,false,false⟩) 40 znn [.tmp 6,.tmp 7]:=fun L a h=>zad h L rfl rfl a
@[simp] theorem zDu:zac ctx zjH=true:=rfl
theorem zgY:zaq za4 (⟨false,false,false,false⟩) 9 zci [.tmp 4]:=fun L a h=>zad h L rfl rfl a
@[simp] theorem zqh:zac ctx za4=false:=rfl
theorem zgE:zaq zaU (⟨false,false,false,false⟩) 19 zb5 [.tmp 4,.tmp 5]:=fun L a h=>zad h L rfl rfl a
@[simp] theorem zpR:zac ctx zaU=false:=rfl
theorem zhv:zaq zbb (⟨false,false,false,false⟩) 9 zcC []:=fun L a h=>zad h L rfl rfl a
@[simp] theorem zqO:zac ctx zbb=false:=rfl
theorem zg0:zaq za5 (⟨false,false,false,false⟩) 8 zcj [.cell 2 32 true]:=fun L a h=>zad h L rfl rfl a
@[simp] theorem zqj:zac ctx za5=false:=rfl
@[simp] theorem zvH:zac ctx zin=true:=rfl
theorem ziO:zaq zbv (⟨false,false,false,false⟩) 20 zdn []:=fun L a h=>zad h L rfl rfl a
@[simp] theorem zsS:zac ctx zbv=false:=rfl
theorem zk1:zaq zb2 Mode.pure 3 zeW [.tmp 2]:=fun L a h=>zad h L rfl rfl a
@[simp] theorem zvr:zac ctx zb2=true:=rfl
theorem zka:zaq zbJ Mode.pure 3 zek [.tmp 2]:=fun L a h=>zad h L rfl rfl a
@[simp] theorem zuf:zac ctx zbJ=true:=rfl
theorem znM:zaq zeI Mode.pure 12 zgS [.cell 2 25 true,.tmp 3]:=fun L a h=>zad h L rfl rfl a
@[simp] theorem zxw:zac ctx zeI=true:=rfl
@[simp] theorem zsT:zac ctx zcd=true:=rfl
@[simp] theorem zvs:zac ctx zc7=true:=rfl
@[simp] theorem zvt:zac ctx zhK=true:=rfl
end Go.Av
