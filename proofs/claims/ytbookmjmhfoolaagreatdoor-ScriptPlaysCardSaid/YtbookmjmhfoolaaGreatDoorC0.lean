/- The functions of the program as the machine's code, printed by a program of mine. -/
import Derived.Test.YtbookmjmhfoolaaGreatDoorV6
set_option maxRecDepth 100000
namespace Go.Av
abbrev Mv (a b:Nat):AI:=iv a (.mv (.t b))
abbrev Ld (a b:Nat):AI:=ir a (.ld 1 false (.t b))
abbrev Nk (a b:Nat):AI:=iv a (.nck (.t b))
abbrev Fa (a o b:Nat):AI:=iv a (.fadr o (.t b))
abbrev Ex (a b i:Nat):AI:=iv a (.ext (.t b) i)
abbrev Bt (a:Nat)(o:BinOp)(b c:Nat):AI:=iv a (.bin o (.t b) (.t c))
abbrev Bi (a:Nat)(o:BinOp)(b:Nat)(n:Int):AI:=iv a (.bin o (.t b) (.k (.int .i64 n)))
abbrev Ia (a b c:Nat):AI:=iv a (.iadr none 1 (.t b) (.t c))
abbrev Sx (a b:Nat):AI:=jc (.st 1 (.t a) (.t b))
abbrev Dv (a:Nat)(o:Xd)(u:List Nat):AI:=⟨some a,.v o,none,u,0,0⟩
abbrev Dr (a:Nat)(o:My)(u:List Nat)(l h:Nat):AI:=⟨some a,.r o,none,u,l,h⟩
abbrev Dc (a:Nat)(o:Wu)(u:List Nat):AI:=⟨some a,.c o,none,u,0,0⟩
abbrev Dn (o:Wu)(u:List Nat):AI:=⟨none,.c o,none,u,0,0⟩
abbrev Gv (a:Nat)(o:Xd)(g:Nat)(w:Bool)(u:List Nat):AI:=⟨some a,.v o,some (g,w),u,0,0⟩
abbrev Gr (a:Nat)(o:My)(g:Nat)(w:Bool)(u:List Nat)(l h:Nat):AI:=⟨some a,.r o,some (g,w),u,l,h⟩
abbrev Gc (a:Nat)(o:Wu)(g:Nat)(w:Bool)(u:List Nat):AI:=⟨some a,.c o,some (g,w),u,0,0⟩
abbrev Dm (a b:Nat):AI:=⟨some a,.v (.mv (.t b)),none,[b],0,0⟩
abbrev Gm (a b g:Nat)(w:Bool):AI:=⟨some a,.v (.mv (.t b)),some (g,w),[b,g],0,0⟩
abbrev U0:J:=.int .u64 0
abbrev I0:J:=.int .i64 0
abbrev B0:J:=.int .u8 0
abbrev K0 (n:Int):AO:=.k (.int .i64 n)
abbrev Mk (a:Nat)(n:Int):AI:=iv a (.mv (K0 n))
abbrev Sr (l:List AI)(c:AC):AC:=.seq (.reg l) c
abbrev Ca (a:Nat)(f:FuncId)(l:List AO):AI:=ic a (.call f l)
abbrev Cr (a:Nat)(f:FuncId)(l:List AO):AI:=ir a (.call f l)
abbrev Bu (a:Nat)(l:List J)(m:List (Nat × Nat × AO)):AI:=iv a (.build l m)
abbrev Cd (a:Nat)(x y:AC):AC:=.cond (.t a) x y
abbrev Al (a:Nat)(l:List J):AI:=ic a (.alloc l)
abbrev Lt (a n b:Nat):AI:=ir a (.ld n true (.t b))
abbrev Sv (n a b:Nat):AI:=jc (.st n (.t a) (.t b))
abbrev Dl (a b:Nat):AI:=⟨some a,.r (.ld 1 false (.t b)),none,[b],0,0⟩
abbrev Df (a o b:Nat):AI:=⟨some a,.v (.fadr o (.t b)),none,[b],0,0⟩
abbrev Dk (a b:Nat):AI:=⟨some a,.v (.nck (.t b)),none,[b],0,0⟩
abbrev Gl (a b g:Nat)(w:Bool):AI:=⟨some a,.r (.ld 1 false (.t b)),some (g,w),[b,g],0,0⟩
abbrev Gf (a o b g:Nat)(w:Bool):AI:=⟨some a,.v (.fadr o (.t b)),some (g,w),[b,g],0,0⟩
abbrev Gk (a b g:Nat)(w:Bool):AI:=⟨some a,.v (.nck (.t b)),some (g,w),[b,g],0,0⟩
def fA:FuncId:=4
def mw:FuncId:=9
def ou:FuncId:=10
def px:FuncId:=11
def gj:FuncId:=12
def lO:FuncId:=13
def jd:FuncId:=14
def lP:FuncId:=15
def je:FuncId:=16
def lk:FuncId:=18
def ow:FuncId:=19
def Ja:FuncId:=24
def ng:FuncId:=25
def eJ:FuncId:=26
def bR:FuncId:=27
def hZ:FuncId:=28
def yg:FuncId:=32
def FC:FuncId:=33
def ib:FuncId:=34
def tz:FuncId:=35
def Og:FuncId:=36
def dF:FuncId:=37
def dc:FuncId:=38
def cu:FuncId:=39
def jz:FuncId:=40
def de:FuncId:=41
def dH:FuncId:=42
def nu:FuncId:=48
def nv:FuncId:=49
def jA:FuncId:=50
def Cj:FuncId:=51
def kb:FuncId:=52
def jB:FuncId:=53
def eM:FuncId:=54
def kN:FuncId:=55
def jC:FuncId:=56
def kc:FuncId:=57
def pM:FuncId:=59
def kO:FuncId:=60
def rO:FuncId:=61
def eQ:FuncId:=62
def pO:FuncId:=63
def pP:FuncId:=64
def eN:FuncId:=68
def ls:FuncId:=69
def dv:FuncId:=70
def bd:FuncId:=71
def oa:FuncId:=72
def jD:FuncId:=73
def rQ:FuncId:=74
def ke:FuncId:=75
def ff:FuncId:=83
def mj:FuncId:=84
def eg:FuncId:=85
def kP:FuncId:=86
def gM:FuncId:=87
def gO:FuncId:=88
def iG:FuncId:=89
def fp:FuncId:=92
def fO:FuncId:=93
def bO:FuncId:=94
def ij:FuncId:=95
def bP:FuncId:=96
def d4:FuncId:=97
def oM:FuncId:=98
def GA:FuncId:=99
def kQ:FuncId:=100
def kR:FuncId:=101
def il:FuncId:=102
def eO:FuncId:=103
def uQ:FuncId:=104
def kf:FuncId:=105
def tB:FuncId:=106
def tD:FuncId:=107
def kS:FuncId:=108
def kg:FuncId:=109
def oH:FuncId:=110
def tE:FuncId:=114
def l5:FuncId:=115
def ml:FuncId:=116
def mi:FuncId:=117
def fX:FuncId:=118
def mP:FuncId:=124
def bT:FuncId:=125
def jR:FuncId:=126
def jS:FuncId:=127
def mQ:FuncId:=128
def mR:FuncId:=129
def fh:FuncId:=130
def fB:FuncId:=131
def cG:FuncId:=132
def cH:FuncId:=134
def di:FuncId:=135
def lE:FuncId:=136
def lF:FuncId:=137
def lG:FuncId:=138
def iW:FuncId:=139
def fQ:FuncId:=140
def jp:FuncId:=141
def xo:FuncId:=142
def A7:FuncId:=143
def cC:FuncId:=144
def jU:FuncId:=146
def dj:FuncId:=147
def iX:FuncId:=148
def lH:FuncId:=149
def gu:FuncId:=150
def iI:FuncId:=151
def dS:FuncId:=152
def dD:FuncId:=153
def fY:FuncId:=154
def kj:FuncId:=155
def A9:FuncId:=156
def tj:FuncId:=157
def jq:FuncId:=158
def oi:FuncId:=159
def xI:FuncId:=160
def gv:FuncId:=161
def gx:FuncId:=162
def gy:FuncId:=163
def vv:FuncId:=164
def pH:FuncId:=165
def ol:FuncId:=166
def bU:FuncId:=167
def pn:FuncId:=168
def mS:FuncId:=170
def iO:FuncId:=177
def dJ:FuncId:=178
def aY:FuncId:=179
def jr:FuncId:=180
def kD:FuncId:=181
def kE:FuncId:=182
def lJ:FuncId:=184
def eu:FuncId:=185
def kF:FuncId:=186
def vx:FuncId:=190
def fS:FuncId:=191
def jV:FuncId:=192
def cM:FuncId:=193
def fZ:FuncId:=194
def vy:FuncId:=195
def tS:FuncId:=196
def nE:FuncId:=197
def vI:FuncId:=198
def ox:FuncId:=199
def pK:FuncId:=200
def oy:FuncId:=201
def oz:FuncId:=202
def yj:FuncId:=203
def j4:FuncId:=204
def nk:FuncId:=211
def oC:FuncId:=212
def nl:FuncId:=213
def kK:FuncId:=214
def iF:FuncId:=215
def lS:FuncId:=219
def jM:FuncId:=220
def lT:FuncId:=221
def jx:FuncId:=224
def j5:FuncId:=225
def j6:FuncId:=226
def lU:FuncId:=227
def np:FuncId:=228
def fm:FuncId:=229
def gJ:FuncId:=230
def uq:FuncId:=231
def rI:FuncId:=232
def wX:FuncId:=233
def gm:FuncId:=234
def FG:FuncId:=235
def ef:FuncId:=236
def oD:FuncId:=237
def L1:FuncId:=238
def dZ:FuncId:=243
def BX:FuncId:=244
def kL:FuncId:=245
def td:FuncId:=246
def bS:FuncId:=247
def yo:FuncId:=248
def j7:FuncId:=249
def qw:FuncId:=250
def oK:FuncId:=270
def cO:FuncId:=271
def bQ:FuncId:=272
def dr:FuncId:=273
def cP:FuncId:=274
def dI:FuncId:=275
def cQ:FuncId:=276
def pL:FuncId:=277
def dt:FuncId:=278
def eZ:FuncId:=279
def oF:FuncId:=280
def rL:FuncId:=281
def nr:FuncId:=282
def tA:FuncId:=283
def e7:FuncId:=304
def ig:FuncId:=305
def gp:FuncId:=306
def oG:FuncId:=307
def zfB:ByteArray:=⟨#[0,1,2,2,3,3,3,3,4,4,4,4,4,4,4,4,5,5,5,5,5,5,5,5,5,5,5,5,5,5,5,5,6,6,6,6,6,6,6,6,6,6,6,6,6,6,6,6,6,6,6,6,6,6,6,6,6,6,6,6,6,6,6,6,7,7,7,7,7,7,7,7,7,7,7,7,7,7,7,7,7,7,7,7,7,7,7,7,7,7,7,7,7,7,7,7,7,7,7,7,7,7,7,7,7,7,7,7,7,7,7,7,7,7,7,7,7,7,7,7,7,7,7,7,7,7,7,7,8,8,8,8,8,8,8,8,8,8,8,8,8,8,8,8,8,8,8,8,8,8,8,8,8,8,8,8,8,8,8,8,8,8,8,8,8,8,8,8,8,8,8,8,8,8,8,8,8,8,8,8,8,8,8,8,8,8,8,8,8,8,8,8,8,8,8,8,8,8,8,8,8,8,8,8,8,8,8,8,8,8,8,8,8,8,8,8,8,8,8,8,8,8,8,8,8,8,8,8,8,8,8,8,8,8,8,8,8,8,8,8,8,8,8,8,8,8,8,8,8,8,8,8,8,8,8,8]⟩
def fy:AC:=Sr [iv 1 (.boxv (.t 0)),iv 2 (.mv (.k (.bool false)))] (.seq (Sr [Cr 9 gj [],iv 10 (.un .not (.t 9)),Mv 11 10,Gr 12 (.ld 3 true (.t 1)) 11 false [] 0 0,Gr 13 (.call lO [.t 12]) 11 false [] 0 0,iv 14 (.pick (.t 11) (.k (.bool true)) (.t 13))] (Cd 14 (Sr [Cr 15 gj [],Mv 2 15] .ret) .skip)) (Sr [Lt 17 3 1,Cr 18 ou [.t 17],Cr 19 mw [.t 18],Mv 16 19,Ex 20 16 0,Ex 21 16 1,Ex 22 16 2,Mv 3 20,Mv 4 21,Mv 5 22] (Sr [Lt 24 3 1,Cr 25 jd [.t 24],Mv 23 25,Ex 26 23 0,Ex 27 23 1,Ex 28 23 2,Mv 6 26,Mv 7 27,Mv 8 28] (Sr [Mv 29 5,Mv 30 8,Bt 31 .eql 29 30,Mv 32 31,Gv 33 (.mv (.t 4)) 32 true [],Gv 34 (.mv (.t 7)) 32 true [],Gv 35 (.bin .eql (.t 33) (.t 34)) 32 true [],iv 36 (.pick (.t 32) (.t 35) (.k (.bool false))),Mv 37 36,Gv 38 (.mv (.t 3)) 37 true [],Gv 39 (.mv (.t 6)) 37 true [],Gr 40 (.call lP [.t 38,.t 39]) 37 true [] 0 0,iv 41 (.pick (.t 37) (.t 40) (.k (.bool false))),Mv 42 41,Gv 43 (.mv (.t 3)) 42 true [],Gc 44 (.call px [.t 43]) 42 true [],Gv 45 (.mv (.t 6)) 42 true [],Gr 46 (.call je [.t 45]) 42 true [] 0 0,Gv 47 (.bin .eql (.t 44) (.t 46)) 42 true [],iv 48 (.pick (.t 42) (.t 47) (.k (.bool false))),Mv 2 48] .ret))))
def oI:a8:=⟨49,fy,[.tmp 2],none⟩
def qT:AC:=Sr [Bt 28 .lss 27 26] (.seq (Cd 28 .skip (.exit 0)) (.seq (.blk 1 (Sr [iv 29 (.iadr none 4 (.t 25) (.t 27)),Lt 30 4 29,Al 10 [I0,I0,I0,.nsl],Sv 4 10 30] (.reg [Mv 31 8,Lt 32 4 10,Mv 33 5,Ca 34 ow [.t 32,.t 33],iv 35 (.slit 2 1 [I0,.nsl] [(0,.t 34)]),ic 36 (.app 2 false (.t 31) (.t 35)),Mv 8 36]))) (.reg [Bi 37 .add 27 1,Mv 27 37])))
def po:AC:=Sr [iv 1 (.boxv (.t 0)),iv 2 (.mv (.k (.nsl))),Mk 3 0,Mk 4 0] (Sr [Fa 12 0 1,Ld 13 12,Fa 14 1 1,Ld 15 14,Ca 16 lk [.t 13,.t 15],Mv 11 16,Ex 17 11 0,Ex 18 11 1,Ex 19 11 2,Mv 5 17,Mv 6 18,Mv 7 19] (.seq (Sr [Mv 20 7,Bi 21 .neq 20 0] (Cd 21 (Sr [Mv 22 6,Mv 23 7,iv 2 (.mv (.k (.nsl))),Mv 3 22,Mv 4 23] .ret) .skip)) (Sr [iv 8 (.mv (.k (.nsl)))] (.seq (Sr [Fa 24 2 1,Ld 25 24,iv 26 (.lenL (.t 25)),Mk 27 0] (.blk 0 (.loop qT))) (Sr [Mv 38 8,Mv 2 38,Mk 3 (-1),Mk 4 0] .ret)))))
def GL:a8:=⟨39,po,[.tmp 2,.tmp 3,.tmp 4],none⟩
def mU:AC:=Sr [Bt 15 .lss 14 13] (.seq (Cd 15 .skip (.exit 0)) (.seq (.blk 1 (Sr [iv 16 (.iadr none 4 (.t 12) (.t 14)),Lt 17 4 16,Al 5 [I0,I0,I0,.nsl],Sv 4 5 17] (.reg [Fa 18 2 3,Ld 19 18,Fa 20 0 5,Ld 21 20,Fa 22 1 5,Ld 23 22,Fa 24 2 5,Ld 25 24,Fa 26 3 5,Ld 27 26,Bu 28 [I0,I0,I0,.nsl] [(0,1,.t 21),(1,1,.t 23),(2,1,.t 25),(3,1,.t 27)],iv 29 (.slit 4 1 [I0,I0,I0,.nsl] [(0,.t 28)]),ic 30 (.app 4 false (.t 19) (.t 29)),Fa 31 2 3,Sx 31 30]))) (.reg [Bi 32 .add 14 1,Mv 14 32])))
def sL:AC:=Sr [iv 1 (.boxv (.t 0)),Al 2 [I0,.nsl,.nsl]] (Sr [Fa 6 0 1,Ld 7 6,Fa 8 1 1,Ld 9 8,Bu 10 [I0,.nsl,.nsl] [(0,1,.t 7),(1,1,.t 9)],Al 3 [I0,.nsl,.nsl],Sv 3 3 10] (.seq (Sr [Fa 11 2 1,Ld 12 11,iv 13 (.lenL (.t 12)),Mk 14 0] (.blk 0 (.loop mU))) (Sr [Lt 33 3 3,Sv 3 2 33] .ret)))
def zy:a8:=⟨34,sL,[.cell 2 3 true],none⟩
def nF:AC:=Sr [iv 0 (.mv (.k (.bool false)))] (Sr [Bu 1 [I0,.nsl] [],Bu 2 [I0,.nsl] [(0,1,K0 10)],iv 3 (.slit 2 2 [I0,.nsl] [(0,.t 1),(1,.t 2)]),Ca 4 px [.t 3],iv 5 (.bin .eql (.t 4) (.k (.str ⟨#[48,10,49,48,10]⟩))),Mv 0 5] .ret)
def tT:a8:=⟨6,nF,[.tmp 0],none⟩
def dK:AC:=Sr [Bt 9 .lss 8 7] (.seq (Cd 9 .skip (.exit 0)) (.seq (.blk 1 (Sr [iv 10 (.iadr none 4 (.t 6) (.t 8)),Lt 11 4 10,Al 4 [I0,I0,I0,.nsl],Sv 4 4 11] (Sr [Fa 12 3 4,Ld 13 12,iv 14 (.lenL (.t 13)),Bi 15 .gtr 14 300,Mv 16 15,Gv 17 (.fadr 2 (.t 4)) 16 false [],Gr 18 (.ld 1 false (.t 17)) 16 false [] 0 0,Gv 19 (.bin .gtr (.t 18) (K0 60)) 16 false [],Gv 20 (.mv (.t 19)) 16 false [],Gv 21 (.fadr 2 (.t 4)) 20 true [],Gr 22 (.ld 1 false (.t 21)) 20 true [] 0 0,Gv 23 (.bin .leq (.t 22) (K0 1048576)) 20 true [],Gv 24 (.pick (.t 20) (.t 23) (.k (.bool false))) 16 false [],iv 25 (.pick (.t 16) (.k (.bool true)) (.t 24))] (Cd 25 (Sr [iv 2 (.mv (.k (.bool true)))] .ret) .skip)))) (.reg [Bi 26 .add 8 1,Mv 8 26])))
def iY:AC:=Sr [iv 1 (.boxv (.t 0)),iv 2 (.mv (.k (.bool false)))] (.seq (Sr [Fa 5 2 1,Ld 6 5,iv 7 (.lenL (.t 6)),Mk 8 0] (.blk 0 (.loop dK))) (Sr [Fa 27 1 1,Ld 28 27,iv 29 (.lenL (.t 28)),Bi 30 .gtr 29 1000,Mv 31 30,Gv 32 (.fadr 2 (.t 1)) 31 false [],Gr 33 (.ld 1 false (.t 32)) 31 false [] 0 0,Gv 34 (.lenL (.t 33)) 31 false [],Gv 35 (.bin .gtr (.t 34) (K0 12)) 31 false [],iv 36 (.pick (.t 31) (.k (.bool true)) (.t 35)),Mv 37 36,Gv 38 (.fadr 0 (.t 1)) 37 false [],Gr 39 (.ld 1 false (.t 38)) 37 false [] 0 0,Gv 40 (.bin .eql (.t 39) (K0 2)) 37 false [],iv 41 (.pick (.t 37) (.k (.bool true)) (.t 40)),Mv 2 41] .ret))
def wj:a8:=⟨42,iY,[.tmp 2],none⟩
def gX:AC:=.seq (Sr [Mv 33 10,Fa 34 2 1,Ld 35 34,iv 36 (.lenL (.t 35)),Bt 37 .lss 33 36] (Cd 37 .skip (.exit 0))) (.seq (.blk 1 (.seq (.draw2 [Dr 41 (.ld 15 true (.t 6)) [6] 0 2,Df 42 2 1,Dr 43 (.ld 1 false (.t 42)) [42] 0 2,Dm 44 10,Dv 45 (.iadr none 4 (.t 43) (.t 44)) [43,44],Dr 46 (.ld 4 true (.t 45)) [45] 0 2,Dr 47 (.call eJ [.t 41,.t 46]) [41,46] 0 2,Dm 40 47,Dv 48 (.ext (.t 40) 0) [40],Dv 49 (.ext (.t 40) 1) [40],Al 11 [I0,.nsl,I0,I0,.nsl,.nsl,I0,I0,I0,.nsl,.nsl,.nsl,I0,I0,I0],Al 12 [I0,.nsl],Dn (.st 15 (.t 11) (.t 48)) [11,48],Dn (.st 2 (.t 12) (.t 49)) [12,49]] [Dr 41 (.ld 15 true (.t 6)) [6] 0 2,Df 42 2 1,Dr 43 (.ld 1 false (.t 42)) [42] 0 2,Dm 44 10,Dv 45 (.iadr none 4 (.t 43) (.t 44)) [43,44],Dr 46 (.ld 4 true (.t 45)) [45] 0 2,Dr 47 (.call eJ [.t 41,.t 46]) [41,46] 0 2,Dm 40 47,Dv 48 (.ext (.t 40) 0) [40],Dv 49 (.ext (.t 40) 1) [40],Al 12 [I0,.nsl],Al 11 [I0,.nsl,I0,I0,.nsl,.nsl,I0,I0,I0,.nsl,.nsl,.nsl,I0,I0,I0],Dn (.st 15 (.t 11) (.t 48)) [11,48],Dn (.st 2 (.t 12) (.t 49)) [12,49]] [(0,0),(1,1),(2,2),(3,3),(4,4),(5,5),(6,6),(7,7),(8,8),(9,9)]) (Sr [Lt 50 15 11,Sv 15 6 50] (.reg [Mv 51 9,Lt 52 2 12,iv 53 (.slit 2 1 [I0,.nsl] [(0,.t 52)]),ic 54 (.app 2 false (.t 51) (.t 53)),Mv 9 54])))) (.reg [Mv 38 10,Bi 39 .add 38 1,Mv 10 39]))
def iZ:AC:=Sr [iv 1 (.boxv (.t 0)),iv 2 (.mv (.k (.nsl))),Mk 3 0,Mk 4 0] (Sr [Bu 13 [.nsl,.nsl] [],Al 5 [.nsl,.nsl],Sv 2 5 13] (.seq (Sr [Fa 14 0 1,Ld 15 14,Bi 16 .eql 15 2] (Cd 16 (.reg [Cr 17 Ja [],Sv 2 5 17]) .skip)) (Sr [Lt 19 2 5,Fa 20 0 1,Ld 21 20,Fa 22 1 1,Ld 23 22,Cr 24 ng [.t 19,.t 21,.t 23],Mv 18 24,Ex 25 18 0,Ex 26 18 1,Ex 27 18 2,Al 6 [I0,.nsl,I0,I0,.nsl,.nsl,I0,I0,I0,.nsl,.nsl,.nsl,I0,I0,I0],Sv 15 6 25,Mv 7 26,Mv 8 27] (.seq (Sr [Mv 28 8,Bi 29 .neq 28 0] (Cd 29 (Sr [Mv 30 7,Mv 31 8,iv 2 (.mv (.k (.nsl))),Mv 3 30,Mv 4 31] .ret) .skip)) (Sr [iv 32 (.slit 2 0 [I0,.nsl] []),Mv 9 32] (.seq (Sr [Mk 10 0] (.blk 0 (.loop gX))) (Sr [Mv 55 9,Mv 2 55,Mk 3 (-1),Mk 4 0] .ret)))))))
def wk:a8:=⟨56,iZ,[.tmp 2,.tmp 3,.tmp 4],none⟩
def kG:AC:=Sr [Bt 14 .lss 13 12] (.seq (Cd 14 .skip (.exit 0)) (.seq (.blk 1 (Sr [Mv 15 13,Mv 5 15] (.seq (.draw [Dm 16 0,Dm 17 5,Dv 18 (.iadr none 2 (.t 16) (.t 17)) [16,17],Df 19 0 18,Dl 20 19,Dm 21 1,Dm 22 5,Dv 23 (.iadr none 2 (.t 21) (.t 22)) [21,22],Df 24 0 23,Dl 25 24,Dv 26 (.bin .neq (.t 20) (.t 25)) [20,25],Dm 27 26,Gm 28 0 27 false,Gm 29 5 27 false,Gv 30 (.iadr none 2 (.t 28) (.t 29)) 27 false [28,29,27],Gf 31 1 30 27 false,Gl 32 31 27 false,Gr 33 (.b2s (.t 32)) 27 false [32,27] 0 0,Gm 34 1 27 false,Gm 35 5 27 false,Gv 36 (.iadr none 2 (.t 34) (.t 35)) 27 false [34,35,27],Gf 37 1 36 27 false,Gl 38 37 27 false,Gr 39 (.b2s (.t 38)) 27 false [38,27] 0 0,Gv 40 (.bin .neq (.t 33) (.t 39)) 27 false [33,39,27],Dv 41 (.pick (.t 27) (.k (.bool true)) (.t 40)) [27,40]]) (Cd 41 (Sr [iv 4 (.mv (.k (.bool false)))] .ret) .skip)))) (.reg [Bi 42 .add 13 1,Mv 13 42])))
def pS:AC:=Sr [iv 4 (.mv (.k (.bool false)))] (.seq (Sr [Mv 6 0,iv 7 (.lenL (.t 6)),Mv 8 1,iv 9 (.lenL (.t 8)),Bt 10 .neq 7 9] (Cd 10 (Sr [iv 4 (.mv (.k (.bool false)))] .ret) .skip)) (.seq (Sr [Mv 11 0,iv 12 (.lenL (.t 11)),Mk 13 0] (.blk 0 (.loop kG))) (Sr [iv 4 (.mv (.k (.bool true)))] .ret)))
def wl:a8:=⟨43,pS,[.tmp 4],none⟩
def kH:AC:=.seq (Sr [Mv 30 5,Mv 31 0,Mv 32 4,iv 33 (.iadr none 2 (.t 31) (.t 32)),Fa 34 1 33,Ld 35 34,iv 36 (.lenL (.t 35)),Bt 37 .lss 30 36] (Cd 37 .skip (.exit 2))) (.seq (.blk 3 (Sr [Mv 40 0,Mv 41 4,iv 42 (.iadr none 2 (.t 40) (.t 41)),Fa 43 1 42,Ld 44 43,Mv 45 5,Ia 46 44 45,Ld 47 46,iv 48 (.i2i .i64 (.t 47)),Mv 6 48] (.reg [Mv 49 3,Mv 50 6,Bi 51 .quo 50 16,Cr 52 hZ [.t 51],Mv 53 6,Bi 54 .rem 53 16,Cr 55 hZ [.t 54],iv 56 (.slit 1 2 [B0] [(0,.t 52),(1,.t 55)]),ir 57 (.b2s (.t 56)),Bt 58 .add 49 57,Mv 3 58]))) (.reg [Mv 38 5,Bi 39 .add 38 1,Mv 5 39]))
def gY:AC:=.seq (Sr [Mv 7 4,Mv 8 0,iv 9 (.lenL (.t 8)),Bt 10 .lss 7 9] (Cd 10 .skip (.exit 0))) (.seq (.blk 1 (Sr [Mv 13 3,Mv 14 0,Mv 15 4,iv 16 (.iadr none 2 (.t 14) (.t 15)),Fa 17 0 16,Ld 18 17,Cr 19 bR [.t 18],Bt 20 .add 13 19,Mv 3 20] (.seq (Sr [Mv 21 0,Mv 22 4,iv 23 (.iadr none 2 (.t 21) (.t 22)),Fa 24 1 23,Ld 25 24,iv 26 (.lenL (.t 25)),Bi 27 .gtr 26 0] (Cd 27 (.reg [Mv 28 3,iv 29 (.bin .add (.t 28) (.k (.str ⟨#[32]⟩))),Mv 3 29]) .skip)) (.seq (Sr [Mk 5 0] (.blk 2 (.loop kH))) (.reg [Mv 59 3,iv 60 (.bin .add (.t 59) (.k (.str ⟨#[10]⟩))),Mv 3 60]))))) (.reg [Mv 11 4,Bi 12 .add 11 1,Mv 4 12]))
def pT:AC:=Sr [iv 2 (.mv (.k (.str ⟨#[]⟩)))] (Sr [iv 3 (.mv (.k (.str ⟨#[]⟩)))] (.seq (Sr [Mk 4 0] (.blk 0 (.loop gY))) (Sr [Mv 61 3,Mv 2 61] .ret)))
def wm:a8:=⟨62,pT,[.tmp 2],none⟩
def kW:AC:=Sr [iv 4 (.mv (.k (.nilp))),Mk 5 0,Mk 6 0] (.seq (Sr [Mv 11 0,Bi 12 .neq 11 1,Mv 13 12,Gv 14 (.mv (.t 0)) 13 true [],Gv 15 (.bin .neq (.t 14) (K0 2)) 13 true [],iv 16 (.pick (.t 13) (.t 15) (.k (.bool false)))] (Cd 16 (Sr [iv 4 (.mv (.k (.nilp))),Mk 5 (-1),Mk 6 15] .ret) .skip)) (Sr [Mv 18 1,Ca 19 yg [.t 18],Mv 17 19,Ex 20 17 0,Ex 21 17 1,Ex 22 17 2,Mv 7 20,Mv 8 21,Mv 9 22] (.seq (Sr [Mv 23 9,Bi 24 .neq 23 0] (Cd 24 (Sr [Mv 25 8,Mv 26 9,iv 4 (.mv (.k (.nilp))),Mv 5 25,Mv 6 26] .ret) .skip)) (Sr [Mv 27 7,Bu 28 [.nilp,B0,B0,B0,B0,B0,B0,B0,B0,B0,B0,B0,B0,B0,B0,B0,B0,B0,B0,B0,B0,B0,B0,B0,B0,B0,B0,B0,B0,B0,B0,B0,B0,.nif] [(0,1,.t 27)],ic 29 (.box (.t 28)),Mv 10 29] (Sr [Mv 31 10,Mv 32 0,Mv 33 7,Cr 34 ib [.t 33],Cr 35 FC [.t 32,.t 34],Mv 30 35,Ex 36 30 0,Ex 37 30 1,Ex 38 30 2,Nk 39 31,Fa 40 1 39,Sv 32 40 36] (Sr [Mv 41 10,Mv 42 10,Nk 43 42,Fa 44 1 43,Lt 45 32 44,Ca 46 tz [.t 45],Bu 47 [.nilp] [(0,1,.t 46)],iv 48 (.mkif 109 (.t 47)),Nk 49 41,Fa 50 33 49,Sx 50 48] (.seq (Sr [Mv 51 0,Bi 52 .eql 51 2] (Cd 52 (.reg [Mv 53 10,Mv 54 10,Nk 55 54,Fa 56 1 55,Lt 57 32 56,Ca 58 Og [.t 57],Bu 59 [.nilp] [(0,1,.t 58)],iv 60 (.mkif 113 (.t 59)),Nk 61 53,Fa 62 33 61,Sx 62 60]) .skip)) (Sr [Mv 63 10,Mv 4 63,Mk 5 (-1),Mk 6 0] .ret))))))))
def zF:a8:=⟨64,kW,[.tmp 4,.tmp 5,.tmp 6],none⟩
def jW:AC:=Sr [Bt 50 .lss 49 48] (.seq (Cd 50 .skip (.exit 1)) (.seq (.blk 2 (Sr [iv 51 (.iadr none 4 (.t 47) (.t 49)),Lt 52 4 51,ic 11 (.alloc (aO (U0) 4)),Sv 4 11 52] (Sr [Lt 53 4 11,Cr 54 jz [.t 53],ic 12 (.alloc (aO (B0) 32)),Sv 32 12 54] (.draw [Df 55 1 9,Dl 56 55,Dv 57 (.slice (.arr 32) 1 (.t 12) none none none) [12],Dc 58 (.app 1 false (.t 56) (.t 57)) [56,57],Df 59 1 9,Dn (.st 1 (.t 59) (.t 58)) [59,58]])))) (.reg [Bi 60 .add 49 1,Mv 49 60])))
def fF:AC:=Sr [iv 2 (.boxv (.t 0)),Al 4 [I0,.nsl]] (.seq (Sr [Fa 13 0 2,Ld 14 13] (.blk 0 (Sr [Bi 16 .eql 14 0,Mv 15 16] (Cd 15 (Sr [Mv 17 1,Fa 18 1 2,Ld 19 18,Fa 20 3 2,Ld 21 20,Ca 22 dF [.t 17,.t 19,.t 21],Bu 23 [I0,.nsl] [(0,1,.t 22)],Sv 2 4 23] .ret) (Sr [Bi 25 .eql 14 1,Mv 24 25] (Cd 24 (Sr [Mv 27 1,Fa 28 2 2,Ld 29 28,Ca 30 dc [.t 27,.t 29],Mv 26 30,Ex 31 26 0,Ex 32 26 1,Mv 5 31,Mv 6 32] (Sr [Mv 33 6,Mv 34 5,Bu 35 [I0,.nsl] [(0,1,.t 33),(1,1,.t 34)],Sv 2 4 35] .ret)) (Sr [Bi 37 .eql 14 2,Mv 36 37] (Cd 36 (Sr [Mv 39 1,Fa 40 2 2,Ld 41 40,Ca 42 cu [.t 39,.t 41],Mv 38 42,Ex 43 38 0,Ex 44 38 1,Mv 7 43,Mv 8 44] (Sr [Mv 45 8,Bu 46 [I0,.nsl] [(0,1,.t 45)],Al 9 [I0,.nsl],Sv 2 9 46] (.seq (Sr [Mv 47 7,iv 48 (.lenL (.t 47)),Mk 49 0] (.blk 1 (.loop jW))) (Sr [Lt 61 2 9,Sv 2 4 61] .ret)))) (Sr [Bi 63 .eql 14 3,Mv 62 63] (Cd 62 (Sr [Mv 64 1,Ca 65 de [.t 64],Bu 66 [I0,.nsl] [(0,1,.t 65)],Sv 2 4 66] .ret) .skip)))))))))) (Sr [Mv 67 1,Ca 68 dH [.t 67],Bu 69 [I0,.nsl] [(0,1,.t 68)],Sv 2 4 69] .ret))
def zG:a8:=⟨70,fF,[.cell 4 2 true],none⟩
def jX:AC:=Sr [iv 3 (.boxv (.t 0)),Al 6 [I0,.nsl,I0,I0,.nsl,.nsl,I0,I0,I0,.nsl,.nsl,.nsl,I0,I0,I0],Mk 7 0,Mk 8 0] (.seq (Sr [Mv 13 1,Bi 14 .neq 13 1,Mv 15 14,Gv 16 (.mv (.t 1)) 15 true [],Gv 17 (.bin .neq (.t 16) (K0 2)) 15 true [],iv 18 (.pick (.t 15) (.t 17) (.k (.bool false)))] (Cd 18 (Sr [Bu 19 [I0,.nsl,I0,I0,.nsl,.nsl,I0,I0,I0,.nsl,.nsl,.nsl,I0,I0,I0] [],Sv 15 6 19,Mk 7 (-1),Mk 8 15] .ret) .skip)) (Sr [Mv 21 2,Cr 22 nu [.t 21],Mv 20 22,Ex 23 20 0,Ex 24 20 1,Ex 25 20 2,Al 9 [.nsl,I0,I0],Sv 3 9 23,Mv 10 24,Mv 11 25] (.seq (Sr [Mv 26 11,Bi 27 .neq 26 0] (Cd 27 (Sr [Bu 28 [I0,.nsl,I0,I0,.nsl,.nsl,I0,I0,I0,.nsl,.nsl,.nsl,I0,I0,I0] [],Mv 29 10,Mv 30 11,Sv 15 6 28,Mv 7 29,Mv 8 30] .ret) .skip)) (Sr [Mv 31 1,Lt 32 3 9,Bu 33 [I0,.nsl,I0,I0,.nsl,.nsl,I0,I0,I0,.nsl,.nsl,.nsl,I0,I0,I0] [(0,1,.t 31),(1,3,.t 32)],Al 12 [I0,.nsl,I0,I0,.nsl,.nsl,I0,I0,I0,.nsl,.nsl,.nsl,I0,I0,I0],Sv 15 12 33] (Sr [Mv 35 1,Fa 36 0 9,Ld 37 36,Cr 38 nv [.t 35,.t 37],Mv 34 38,Ex 39 34 0,Ex 40 34 1,Ex 41 34 2,Fa 42 4 12,Sx 42 39] (.seq (Sr [Mv 43 1,Bi 44 .eql 43 1] (Cd 44 (.reg [Fa 45 4 12,Ld 46 45,Cr 47 jA [.t 46],Fa 48 5 12,Sv 4 48 47]) (.reg [Lt 49 2 3,Fa 50 4 12,Ld 51 50,Cr 52 Cj [.t 49,.t 51],Fa 53 9 12,Sv 6 53 52]))) (Sr [Lt 54 15 12,Sv 15 6 54,Mk 7 (-1),Mk 8 0] .ret)))))))
def xJ:a8:=⟨55,jX,[.cell 6 15 true,.tmp 7,.tmp 8],none⟩
def gF:AC:=.seq (Sr [Mv 53 11,Mv 54 9,iv 55 (.lenL (.t 54)),Bt 56 .lss 53 55] (Cd 56 .skip (.exit 1))) (.seq (.blk 2 (.reg [Mv 59 7,Mv 60 9,Mv 61 11,Ia 62 60 61,Ld 63 62,Cr 64 kN [.t 63],ic 65 (.app 1 false (.t 59) (.t 64)),Mv 7 65])) (.reg [Mv 57 11,Bi 58 .add 57 1,Mv 11 58]))
def fG:AC:=Sr [ic 2 (.box (.t 0)),iv 3 (.boxv (.t 1)),Al 4 [I0,.nsl,I0,I0,.nsl,.nsl,I0,I0,I0,.nsl,.nsl,.nsl,I0,I0,I0],Al 5 [I0,.nsl]] (Sr [Mk 6 0] (Sr [iv 12 (.slit 1 0 [B0] []),Mv 7 12] (.seq (Sr [Fa 13 0 3,Ld 14 13] (.blk 0 (Sr [Bi 21 .eql 14 0,Mv 20 21] (Cd 20 (.reg [Lt 23 15 2,Fa 24 1 3,Ld 25 24,Fa 26 3 3,Ld 27 26,Cr 28 kb [.t 23,.t 25,.t 27],Mv 22 28,Ex 29 22 0,Ex 30 22 1,Sv 15 2 29,Mv 6 30]) (Sr [Bi 32 .eql 14 1,Mv 31 32] (Cd 31 (.reg [Lt 34 15 2,Fa 35 2 3,Ld 36 35,Cr 37 jB [.t 34,.t 36],Mv 33 37,Ex 38 33 0,Ex 39 33 1,Ex 40 33 2,Sv 15 2 38,Mv 7 39,Mv 6 40]) (Sr [Bi 42 .eql 14 2,Mv 41 42] (Cd 41 (Sr [Lt 44 15 2,Fa 45 2 3,Ld 46 45,Cr 47 eM [.t 44,.t 46],Mv 43 47,Ex 48 43 0,Ex 49 43 1,Ex 50 43 2,Al 8 [I0,.nsl,I0,I0,.nsl,.nsl,I0,I0,I0,.nsl,.nsl,.nsl,I0,I0,I0],Sv 15 8 48,Mv 9 49,Mv 10 50] (Sr [Lt 51 15 8,Sv 15 2 51] (Sr [Mv 52 10,Mv 6 52] (Sr [Mk 11 0] (.blk 1 (.loop gF)))))) (Sr [Bi 67 .eql 14 3,Mv 66 67] (Cd 66 (.reg [Lt 69 15 2,Cr 70 jC [.t 69],Mv 68 70,Ex 71 68 0,Ex 72 68 1,Sv 15 2 71,Mv 6 72]) (.reg [Lt 16 15 2,Cr 17 kc [.t 16],Mv 15 17,Ex 18 15 0,Ex 19 15 1,Sv 15 2 18,Mv 6 19]))))))))))) (Sr [Lt 73 15 2,Mv 74 6,Mv 75 7,Bu 76 [I0,.nsl] [(0,1,.t 74),(1,1,.t 75)],Sv 15 4 73,Sv 2 5 76] .ret))))
def zH:a8:=⟨77,fG,[.cell 4 15 true,.cell 5 2 true],none⟩
def cJ:AC:=Sr [iv 2 (.mv (.k (.str ⟨#[]⟩)))] (.seq (Sr [Mv 4 0,iv 5 (.bin .gtr (.t 4) (K0 (-10))),Mv 6 5,Gv 7 (.mv (.t 0)) 6 true [],Gv 8 (.bin .lss (.t 7) (K0 0)) 6 true [],iv 9 (.pick (.t 6) (.t 8) (.k (.bool false)))] (Cd 9 (Sr [Mv 10 0,iv 11 (.un .neg (.t 10)),Cr 12 bR [.t 11],iv 13 (.bin .add (.k (.str ⟨#[45]⟩)) (.t 12)),Mv 2 13] .ret) .skip)) (.seq (Sr [Mv 14 0,Bi 15 .geq 14 0,Mv 16 15,Gv 17 (.mv (.t 0)) 16 true [],Gv 18 (.bin .lss (.t 17) (K0 10)) 16 true [],iv 19 (.pick (.t 16) (.t 18) (.k (.bool false)))] (Cd 19 (Sr [Mv 20 0,iv 21 (.bin .add (K0 48) (.t 20)),iv 22 (.i2i .u8 (.t 21)),iv 23 (.slit 1 1 [B0] [(0,.t 22)]),ir 24 (.b2s (.t 23)),Mv 2 24] .ret) .skip)) (Sr [Mv 25 0,Bi 26 .rem 25 10,Mv 3 26] (.seq (Sr [Mv 27 3,Bi 28 .lss 27 0] (Cd 28 (.reg [Mv 29 3,iv 30 (.un .neg (.t 29)),Mv 3 30]) .skip)) (Sr [Mv 31 0,Bi 32 .quo 31 10,Cr 33 bR [.t 32],Mv 34 3,Cr 35 bR [.t 34],Bt 36 .add 33 35,Mv 2 36] .ret)))))
def r6:a8:=⟨37,cJ,[.tmp 2],none⟩
def oS:AC:=Sr [iv 2 (.mv (.k (B0)))] (.seq (Sr [Mv 3 0,Bi 4 .lss 3 10] (Cd 4 (Sr [Mv 5 0,iv 6 (.bin .add (K0 48) (.t 5)),iv 7 (.i2i .u8 (.t 6)),Mv 2 7] .ret) .skip)) (Sr [Mv 8 0,iv 9 (.bin .add (K0 87) (.t 8)),iv 10 (.i2i .u8 (.t 9)),Mv 2 10] .ret))
def uX:a8:=⟨11,oS,[.tmp 2],none⟩
def xL:AC:=Sr [iv 2 (.mv (.k (.nilp))),Mk 3 0,Mk 4 0] (Sr [Mv 9 0,Cr 10 pM [.t 9],Mv 8 10,Ex 11 8 0,Ex 12 8 1,Ex 13 8 2,Mv 5 11,Mv 6 12,Mv 7 13] (.seq (Sr [Mv 14 7,Bi 15 .neq 14 0] (Cd 15 (Sr [Mv 16 6,Mv 17 7,iv 2 (.mv (.k (.nilp))),Mv 3 16,Mv 4 17] .ret) .skip)) (Sr [Mv 18 5,Bu 19 [.nsl,I0,.nilp] [(0,1,.t 18)],ic 20 (.box (.t 19)),Mv 2 20,Mk 3 (-1),Mk 4 0] .ret)))
def K7:a8:=⟨21,xL,[.tmp 2,.tmp 3,.tmp 4],none⟩
def sM:AC:=Sr [ic 4 (.alloc (aO (B0) 32)),Mk 5 0,Mk 6 0] (.seq (Sr [Mv 10 0,Bi 11 .neq 10 1,Mv 12 11,Gv 13 (.mv (.t 0)) 12 true [],Gv 14 (.bin .neq (.t 13) (K0 2)) 12 true [],iv 15 (.pick (.t 12) (.t 14) (.k (.bool false)))] (Cd 15 (Sr [iv 16 (.build (aO (B0) 32) []),Sv 32 4 16,Mk 5 (-1),Mk 6 15] .ret) .skip)) (Sr [Mv 18 1,Cr 19 kO [.t 18],Mv 17 19,Ex 20 17 0,Ex 21 17 1,Ex 22 17 2,Mv 7 20,Mv 8 21,Mv 9 22] (.seq (Sr [Mv 23 9,Bi 24 .neq 23 0] (Cd 24 (Sr [iv 25 (.build (aO (B0) 32) []),Mv 26 8,Mv 27 9,Sv 32 4 25,Mv 5 26,Mv 6 27] .ret) .skip)) (Sr [ic 28 (.slit 1 19 [B0] [(0,.k (.int .u8 97)),(1,.k (.int .u8 118)),(2,.k (.int .u8 111)),(3,.k (.int .u8 117)),(4,.k (.int .u8 99)),(5,.k (.int .u8 104)),(6,.k (.int .u8 47)),(7,.k (.int .u8 116)),(8,.k (.int .u8 114)),(9,.k (.int .u8 97)),(10,.k (.int .u8 110)),(11,.k (.int .u8 115)),(12,.k (.int .u8 99)),(13,.k (.int .u8 114)),(14,.k (.int .u8 105)),(15,.k (.int .u8 112)),(16,.k (.int .u8 116)),(17,.k (.int .u8 47)),(18,.k (.int .u8 49))]),ir 29 (.mark (.t 28)),Mv 30 0,iv 31 (.i2i .u8 (.t 30)),iv 32 (.slit 1 1 [B0] [(0,.t 31)]),Mv 33 7,iv 34 (.slit 1 3 [.nsl] [(0,.t 29),(1,.t 32),(2,.t 33)]),Cr 35 rO [.t 34],Sv 32 4 35,Mk 5 (-1),Mk 6 0] .ret))))
def QR:a8:=⟨36,sM,[.cell 4 32 true,.tmp 5,.tmp 6],none⟩
def oT:AC:=Sr [iv 2 (.mv (.k (.nsl)))] (Sr [Mv 3 0,Nk 4 3,Fa 5 0 4,Ld 6 5,Cr 7 eQ [.t 6],Mv 2 7] .ret)
def uY:a8:=⟨8,oT,[.tmp 2],none⟩
def yO:AC:=Sr [iv 1 (.boxv (.t 0)),iv 2 (.mv (.k (.nilp)))] (.seq (.draw [Cr 3 pP [],Dv 4 (.slice (.arr 32) 1 (.t 1) none none none) [1],Dc 5 (.call pO [.t 3,.t 4]) [3,4],Dm 2 5]) .ret)
def GQ:a8:=⟨6,yO,[.tmp 2],none⟩
def aV:AC:=Sr [Mk 6 0] (.seq (Sr [Mv 13 0,Ca 14 eN [.t 13],Mv 7 14] (Sr [Mv 15 7,Bi 16 .neq 15 0] (Cd 16 (Sr [Mv 17 7,Mv 6 17] .ret) .skip))) (Sr [Mv 19 1,Mv 20 2,Cr 21 ls [.t 19,.t 20],Mv 18 21,Ex 22 18 0,Ex 23 18 1,Mv 8 22,Mv 9 23] (.seq (Sr [Mv 24 9,Bi 25 .neq 24 0] (Cd 25 (Sr [Mv 26 0,Nk 27 26,Fa 28 0 27,Ld 29 28,Mv 30 9,Ca 31 dv [.t 29,.t 30],Mv 6 31] .ret) .skip)) (Sr [Mv 32 1,Mv 33 8,Mv 34 2,Bu 35 [I0,I0,I0,.nsl] [(0,1,K0 1),(1,1,.t 32),(2,1,.t 33),(3,1,.t 34)],Al 10 [I0,I0,I0,.nsl],Sv 4 10 35] (.seq (Sr [Mv 36 0,Lt 37 4 10,Ca 38 bd [.t 36,.t 37],Mv 11 38] (Sr [Mv 39 11,Bi 40 .neq 39 0] (Cd 40 (Sr [Mv 41 11,Mv 6 41] .ret) .skip))) (.seq (Sr [Mv 42 1,Mv 43 2,Cr 44 oa [.t 42,.t 43],Mv 12 44] (Sr [Mv 45 12,Bi 46 .neq 45 0] (Cd 46 (Sr [Mv 47 0,Nk 48 47,Fa 49 0 48,Ld 50 49,Mv 51 12,Ca 52 dv [.t 50,.t 51],Mv 6 52] .ret) .skip))) (.seq (.draw [Dm 53 0,Dk 54 53,Df 55 33 54,Dl 56 55,Dr 57 (.ld 4 true (.t 10)) [10] 0 0,Dc 58 (.inv (.t 56) "avouch/transcript.tell" [.t 57]) [56,57]]) (Sr [Mk 6 0] .ret))))))))
def kX:a8:=⟨59,aV,[.tmp 6],none⟩
def cZ:AC:=Sr [iv 4 (.mv (.k (.nsl))),Mk 5 0] (Sr [Mv 8 1,Bu 9 [I0,I0,I0,.nsl] [(0,1,K0 2),(1,1,K0 1),(2,1,.t 8)],Al 6 [I0,I0,I0,.nsl],Sv 4 6 9] (.seq (Sr [Mv 10 0,Lt 11 4 6,Ca 12 bd [.t 10,.t 11],Mv 7 12] (Sr [Mv 13 7,Bi 14 .neq 13 0] (Cd 14 (Sr [Mv 15 7,iv 4 (.mv (.k (.nsl))),Mv 5 15] .ret) .skip))) (.seq (.draw [Dm 16 0,Dk 17 16,Df 18 33 17,Dl 19 18,Dr 20 (.ld 4 true (.t 6)) [6] 0 0,Dc 21 (.inv (.t 19) "avouch/transcript.tell" [.t 20]) [19,20]]) (Sr [Mv 22 0,Nk 23 22,Fa 24 33 23,Ld 25 24,Mv 26 1,ic 27 (.inv (.t 25) "avouch/transcript.bytes" [.t 26]),Mv 4 27,Mk 5 0] .ret))))
def kx:a8:=⟨28,cZ,[.tmp 4,.tmp 5],none⟩
def bF:AC:=Sr [iv 4 (.mv (.k (.nsl))),Mk 5 0] (Sr [Mv 10 1,Bu 11 [I0,I0,I0,.nsl] [(0,1,K0 2),(1,1,K0 3),(2,1,.t 10)],Al 6 [I0,I0,I0,.nsl],Sv 4 6 11] (.seq (Sr [Mv 12 0,Lt 13 4 6,Ca 14 bd [.t 12,.t 13],Mv 7 14] (Sr [Mv 15 7,Bi 16 .neq 15 0] (Cd 16 (Sr [Mv 17 7,iv 4 (.mv (.k (.nsl))),Mv 5 17] .ret) .skip))) (.seq (.draw [Dm 18 0,Dk 19 18,Df 20 33 19,Dl 21 20,Dr 22 (.ld 4 true (.t 6)) [6] 0 0,Dc 23 (.inv (.t 21) "avouch/transcript.tell" [.t 22]) [21,22]]) (Sr [Mv 25 0,Nk 26 25,Fa 27 33 26,Ld 28 27,Mv 29 1,ic 30 (.inv (.t 28) "avouch/transcript.fields" [.t 29]),Mv 24 30,Ex 31 24 0,Ex 32 24 1,Mv 8 31,Mv 9 32] (.seq (Sr [Mv 33 9,Bi 34 .neq 33 0] (Cd 34 (Sr [Mv 35 0,Nk 36 35,Fa 37 0 36,Ld 38 37,Mv 39 9,Ca 40 dv [.t 38,.t 39],iv 4 (.mv (.k (.nsl))),Mv 5 40] .ret) .skip)) (Sr [Mv 41 8,Mv 4 41,Mk 5 0] .ret))))))
def jF:a8:=⟨42,bF,[.tmp 4,.tmp 5],none⟩
def mB:AC:=Sr [iv 1 (.boxv (.t 0)),ic 2 (.alloc (aO (B0) 32))] (Sr [Lt 4 4 1,Cr 5 jD [.t 4],ic 3 (.alloc (aO (U0) 4)),Sv 4 3 5] (Sr [iv 6 (.slice (.arr 4) 1 (.t 3) none none none),Cr 7 rQ [.t 6],iv 8 (.s2a 32 (.t 7)),Lt 9 32 8,Sv 32 2 9] .ret))
def r8:a8:=⟨10,mB,[.cell 2 32 true],none⟩
def c9:AC:=Sr [Mk 2 0] (Sr [Bu 5 [I0,I0,I0,.nsl] [(0,1,K0 3),(1,1,K0 0),(2,1,K0 1)],Al 3 [I0,I0,I0,.nsl],Sv 4 3 5] (Sr [Mv 6 0,Lt 7 4 3,Ca 8 bd [.t 6,.t 7],Mv 4 8] (.seq (Sr [Mv 9 4,Bi 10 .eql 9 0] (Cd 10 (.seq (.draw [Dm 11 0,Dk 12 11,Df 13 33 12,Dl 14 13,Dr 15 (.ld 4 true (.t 3)) [3] 0 0,Dc 16 (.inv (.t 14) "avouch/transcript.tell" [.t 15]) [14,15]]) (.reg [Mv 17 0,Nk 18 17,Fa 19 33 18,Ld 20 19,ic 21 (.inv (.t 20) "Ratchet" [])])) .skip)) (Sr [Mv 22 4,Mv 2 22] .ret))))
def ky:a8:=⟨23,c9,[.tmp 2],none⟩
def fH:AC:=Sr [Mk 2 0] (Sr [Mv 3 0,Nk 4 3,Fa 5 0 4,Ld 6 5,Ca 7 ke [.t 6],Mv 2 7] .ret)
def kY:a8:=⟨8,fH,[.tmp 2],none⟩
def mV:AC:=Sr [Al 2 [.nsl,I0,I0],Mk 3 0,Mk 4 0] (Sr [Mv 9 0,Cr 10 kP [.t 9],Mv 8 10,Ex 11 8 0,Ex 12 8 1,Ex 13 8 2,Mv 5 11,Mv 6 12,Mv 7 13] (.seq (Sr [Mv 14 7,Bi 15 .neq 14 0] (Cd 15 (Sr [Bu 16 [.nsl,I0,I0] [],Mv 17 6,Mv 18 7,Sv 3 2 16,Mv 3 17,Mv 4 18] .ret) .skip)) (Sr [Mv 19 5,Bu 20 [.nsl,I0,I0] [(0,1,.t 19)],Sv 3 2 20,Mk 3 (-1),Mk 4 0] .ret)))
def xM:a8:=⟨21,mV,[.cell 2 3 true,.tmp 3,.tmp 4],none⟩
def eT:AC:=Sr [iv 4 (.mv (.k (.nsl))),Mk 5 0,Mk 6 0] (Sr [ic 12 (.mk 1 [B0] (K0 32)),Mv 7 12] (.seq (Sr [Mv 13 0,Bi 14 .neq 13 1,Mv 15 14,Gv 16 (.mv (.t 0)) 15 true [],Gv 17 (.bin .neq (.t 16) (K0 2)) 15 true [],iv 18 (.pick (.t 15) (.t 17) (.k (.bool false)))] (Cd 18 (Sr [Mv 19 7,Mv 4 19,Mk 5 (-1),Mk 6 15] .ret) .skip)) (Sr [Mv 21 1,Cr 22 gM [.t 21],Mv 20 22,Ex 23 20 0,Ex 24 20 1,Ex 25 20 2,Mv 8 23,Mv 9 24,Mv 10 25] (.seq (Sr [Mv 26 10,Bi 27 .neq 26 0] (Cd 27 (Sr [Mv 28 7,Mv 29 9,Mv 30 10,Mv 4 28,Mv 5 29,Mv 6 30] .ret) .skip)) (Sr [ic 31 (.slit 1 19 [B0] [(0,.k (.int .u8 97)),(1,.k (.int .u8 118)),(2,.k (.int .u8 111)),(3,.k (.int .u8 117)),(4,.k (.int .u8 99)),(5,.k (.int .u8 104)),(6,.k (.int .u8 47)),(7,.k (.int .u8 116)),(8,.k (.int .u8 114)),(9,.k (.int .u8 97)),(10,.k (.int .u8 110)),(11,.k (.int .u8 115)),(12,.k (.int .u8 99)),(13,.k (.int .u8 114)),(14,.k (.int .u8 105)),(15,.k (.int .u8 112)),(16,.k (.int .u8 116)),(17,.k (.int .u8 47)),(18,.k (.int .u8 49))]),ir 32 (.mark (.t 31)),Mv 33 0,iv 34 (.i2i .u8 (.t 33)),iv 35 (.slit 1 1 [B0] [(0,.t 34)]),ic 36 (.app 1 false (.t 32) (.t 35)),Mv 11 36] (Sr [Mv 37 11,Mv 38 8,ic 39 (.app 1 false (.t 37) (.t 38)),Cr 40 gO [.t 39],Mv 4 40,Mk 5 (-1),Mk 6 0] .ret))))))
def xN:a8:=⟨41,eT,[.tmp 4,.tmp 5,.tmp 6],none⟩
def mC:AC:=Sr [Al 2 [.nsl,I0,I0,I0]] (Sr [Mv 6 0,Cr 7 iG [.t 6],Mv 5 7,Ex 8 5 0,Ex 9 5 1,Al 3 [.nsl,I0,I0,I0],Sv 4 3 8,Mv 4 9] (Sr [Lt 10 4 3,Sv 4 2 10] .ret))
def r9:a8:=⟨11,mC,[.cell 2 4 true],none⟩
def dk:AC:=Sr [ic 3 (.box (.t 0)),Al 6 [I0,.nsl,I0,I0,.nsl,.nsl,I0,I0,I0,.nsl,.nsl,.nsl,I0,I0,I0],Mk 7 0] (.seq (Sr [Fa 12 1 3,Fa 13 2 12,Ld 14 13,Bi 15 .neq 14 0] (Cd 15 (.seq (.draw [Dr 16 (.ld 15 true (.t 3)) [3] 0 0,Df 17 1 3,Df 18 2 17,Dr 19 (.ld 1 false (.t 18)) [18] 0 1,Dn (.st 15 (.t 6) (.t 16)) [6,16],Dm 7 19]) .ret) .skip)) (Sr [Mv 21 1,Mv 22 2,Cr 23 fp [.t 21,.t 22],Mv 20 23,Ex 24 20 0,Ex 25 20 1,Mv 8 24,Mv 9 25] (.seq (Sr [Mv 26 9,Bi 27 .neq 26 0] (Cd 27 (Sr [Lt 28 15 3,Mv 29 9,Cr 30 fO [.t 28,.t 29],Ex 31 30 0,Ex 32 30 1,Sv 15 6 31,Mv 7 32] .ret) .skip)) (Sr [Mv 33 1,Mv 34 8,Mv 35 2,Bu 36 [I0,I0,I0,.nsl] [(0,1,K0 1),(1,1,.t 33),(2,1,.t 34),(3,1,.t 35)],Al 10 [I0,I0,I0,.nsl],Sv 4 10 36] (Sr [Lt 38 15 3,Lt 39 4 10,Cr 40 bO [.t 38,.t 39],Mv 37 40,Ex 41 37 0,Ex 42 37 1,Sv 15 3 41,Mv 9 42] (.seq (Sr [Mv 43 9,Bi 44 .neq 43 0] (Cd 44 (Sr [Lt 45 15 3,Mv 46 9,Sv 15 6 45,Mv 7 46] .ret) .skip)) (.seq (Sr [Mv 47 1,Mv 48 2,Cr 49 ij [.t 47,.t 48],Mv 11 49] (Sr [Mv 50 11,Bi 51 .neq 50 0] (Cd 51 (Sr [Lt 52 15 3,Mv 53 11,Cr 54 fO [.t 52,.t 53],Ex 55 54 0,Ex 56 54 1,Sv 15 6 55,Mv 7 56] .ret) .skip))) (Sr [Lt 57 15 3,Lt 58 4 10,Cr 59 bP [.t 57,.t 58],Sv 15 6 59,Mk 7 0] .ret))))))))
def tU:a8:=⟨60,dk,[.cell 6 15 true,.tmp 7],none⟩
def jt:AC:=Sr [ic 2 (.box (.t 0)),Al 4 [I0,.nsl,I0,I0,.nsl,.nsl,I0,I0,I0,.nsl,.nsl,.nsl,I0,I0,I0],iv 5 (.mv (.k (.nsl))),Mk 6 0] (Sr [Mv 12 1,Bu 13 [I0,I0,I0,.nsl] [(0,1,K0 2),(1,1,K0 1),(2,1,.t 12)],Al 7 [I0,I0,I0,.nsl],Sv 4 7 13] (Sr [Lt 15 15 2,Lt 16 4 7,Cr 17 bO [.t 15,.t 16],Mv 14 17,Ex 18 14 0,Ex 19 14 1,Sv 15 2 18,Mv 8 19] (.seq (Sr [Mv 20 8,Bi 21 .neq 20 0] (Cd 21 (Sr [Lt 22 15 2,Mv 23 8,Sv 15 4 22,iv 5 (.mv (.k (.nsl))),Mv 6 23] .ret) .skip)) (Sr [Lt 24 15 2,Lt 25 4 7,Cr 26 bP [.t 24,.t 25],Sv 15 2 26] (Sr [iv 27 (.slit 1 0 [B0] []),Mv 9 27] (.seq (Sr [Fa 28 0 2,Ld 29 28,Bi 30 .eql 29 1] (Cd 30 (Sr [Fa 32 5 2,Lt 33 4 32,Mv 34 1,Cr 35 d4 [.t 33,.t 34],Mv 31 35,Ex 36 31 0,Ex 37 31 1,Fa 38 5 2,Sv 4 38 36,Mv 9 37] (Sr [Lt 39 15 2,Mv 40 9,Sv 15 4 39,Mv 5 40,Mk 6 0] .ret)) .skip)) (Sr [Fa 42 9 2,Lt 43 6 42,Mv 44 1,Bi 45 .add 44 30,Bi 46 .quo 45 31,Cr 47 oM [.t 43,.t 46],Mv 41 47,Ex 48 41 0,Ex 49 41 1,Al 10 [.nsl,.nsl,.nsl,I0,I0,I0],Sv 6 10 48,Mv 11 49] (Sr [Lt 50 6 10,Fa 51 9 2,Sv 6 51 50] (Sr [Mv 53 11,Mv 54 1,Cr 55 GA [.t 53,.t 54],Mv 52 55,Ex 56 52 0,Ex 57 52 1,Mv 9 56] (Sr [Lt 58 15 2,Mv 59 9,Sv 15 4 58,Mv 5 59,Mk 6 0] .ret))))))))))
def sd:a8:=⟨60,jt,[.cell 4 15 true,.tmp 5,.tmp 6],none⟩
def aN:AC:=.seq (Sr [Mv 55 14,Bi 56 .lss 55 64,Mv 57 56,Gv 58 (.mv (.t 13)) 57 true [],Gv 59 (.un .not (.t 58)) 57 true [],iv 60 (.pick (.t 57) (.t 59) (.k (.bool false)))] (Cd 60 .skip (.exit 2))) (.seq (.blk 3 (Sr [Fa 64 5 2,Lt 65 4 64,Cr 66 d4 [.t 65,K0 32],Mv 63 66,Ex 67 63 0,Ex 68 63 1,Al 15 [.nsl,I0,I0,I0],Sv 4 15 67,Mv 16 68] (Sr [Lt 69 4 15,Fa 70 5 2,Sv 4 70 69] (Sr [Mv 72 16,iv 73 (.slit 1 1 [.nsl] [(0,.t 72)]),Cr 74 kQ [.t 73,K0 0],Mv 71 74,Ex 75 71 0,Ex 76 71 1,Ex 77 71 2,Mv 17 75,Mv 18 76,Mv 19 77] (Sr [Mv 78 19,Bi 79 .eql 78 0] (Cd 79 (Sr [Mv 80 11,Mv 81 17,iv 82 (.slit 1 1 [.nsl] [(0,.t 81)]),ic 83 (.app 1 false (.t 80) (.t 82)),Mv 11 83] (.reg [iv 13 (.mv (.k (.bool true)))])) .skip)))))) (.reg [Mv 61 14,Bi 62 .add 61 1,Mv 14 62]))
def cD:AC:=.seq (Sr [Mv 50 12,Mv 51 1,Bt 52 .lss 50 51] (Cd 52 .skip (.exit 0))) (.seq (.blk 1 (Sr [iv 13 (.mv (.k (.bool false)))] (.seq (Sr [Mk 14 0] (.blk 2 (.loop aN))) (Sr [Mv 84 13,iv 85 (.un .not (.t 84))] (Cd 85 (Sr [Lt 87 15 2,Cr 88 fO [.t 87,K0 11],Mv 86 88,Ex 89 86 0,Ex 90 86 1,Sv 15 2 89,Mv 8 90] (Sr [Lt 91 15 2,Mv 92 8,Sv 15 4 91,iv 5 (.mv (.k (.nsl))),Mv 6 92] .ret)) .skip))))) (.reg [Mv 53 12,Bi 54 .add 53 1,Mv 12 54]))
def eA:AC:=Sr [ic 2 (.box (.t 0)),Al 4 [I0,.nsl,I0,I0,.nsl,.nsl,I0,I0,I0,.nsl,.nsl,.nsl,I0,I0,I0],iv 5 (.mv (.k (.nsl))),Mk 6 0] (Sr [Mv 20 1,Bu 21 [I0,I0,I0,.nsl] [(0,1,K0 2),(1,1,K0 3),(2,1,.t 20)],Al 7 [I0,I0,I0,.nsl],Sv 4 7 21] (Sr [Lt 23 15 2,Lt 24 4 7,Cr 25 bO [.t 23,.t 24],Mv 22 25,Ex 26 22 0,Ex 27 22 1,Sv 15 2 26,Mv 8 27] (.seq (Sr [Mv 28 8,Bi 29 .neq 28 0] (Cd 29 (Sr [Lt 30 15 2,Mv 31 8,Sv 15 4 30,iv 5 (.mv (.k (.nsl))),Mv 6 31] .ret) .skip)) (Sr [Lt 32 15 2,Lt 33 4 7,Cr 34 bP [.t 32,.t 33],Sv 15 2 34] (.seq (Sr [Fa 35 0 2,Ld 36 35,Bi 37 .eql 36 2] (Cd 37 (Sr [Fa 39 9 2,Lt 40 6 39,Mv 41 1,Cr 42 oM [.t 40,.t 41],Mv 38 42,Ex 43 38 0,Ex 44 38 1,Al 9 [.nsl,.nsl,.nsl,I0,I0,I0],Sv 6 9 43,Mv 10 44] (Sr [Lt 45 6 9,Fa 46 9 2,Sv 6 46 45] (Sr [Lt 47 15 2,Mv 48 10,Sv 15 4 47,Mv 5 48,Mk 6 0] .ret))) .skip)) (Sr [iv 49 (.slit 1 0 [.nsl] []),Mv 11 49] (.seq (Sr [Mk 12 0] (.blk 0 (.loop cD))) (Sr [Lt 93 15 2,Mv 94 11,Sv 15 4 93,Mv 5 94,Mk 6 0] .ret))))))))
def qn:a8:=⟨95,eA,[.cell 4 15 true,.tmp 5,.tmp 6],none⟩
def o8:AC:=Sr [iv 2 (.mv (.k (.nsl)))] (Sr [Mv 3 0,Cr 4 il [.t 3,K0 4],Cr 5 kR [.t 4],Mv 2 5] .ret)
def uZ:a8:=⟨6,o8,[.tmp 2],none⟩
def ju:AC:=Sr [ic 1 (.box (.t 0)),Al 2 [I0,.nsl,I0,I0,.nsl,.nsl,I0,I0,I0,.nsl,.nsl,.nsl,I0,I0,I0],Mk 3 0] (Sr [Bu 6 [I0,I0,I0,.nsl] [(0,1,K0 3),(1,1,K0 0),(2,1,K0 1)],Al 4 [I0,I0,I0,.nsl],Sv 4 4 6] (Sr [Lt 8 15 1,Lt 9 4 4,Cr 10 bO [.t 8,.t 9],Mv 7 10,Ex 11 7 0,Ex 12 7 1,Sv 15 1 11,Mv 5 12] (.seq (Sr [Mv 13 5,Bi 14 .neq 13 0] (Cd 14 (Sr [Lt 15 15 1,Mv 16 5,Sv 15 2 15,Mv 3 16] .ret) .skip)) (Sr [Lt 17 15 1,Lt 18 4 4,Cr 19 bP [.t 17,.t 18],Sv 15 1 19] (.seq (Sr [Fa 20 0 1,Ld 21 20,Bi 22 .eql 21 1] (Cd 22 (.reg [Fa 23 5 1,Lt 24 4 23,Cr 25 eO [.t 24],Fa 26 5 1,Sv 4 26 25]) (.reg [Fa 27 9 1,Lt 28 6 27,Cr 29 uQ [.t 28],Fa 30 9 1,Sv 6 30 29]))) (Sr [Lt 31 15 1,Sv 15 2 31,Mk 3 0] .ret))))))
def se:a8:=⟨32,ju,[.cell 2 15 true,.tmp 3],none⟩
def nK:AC:=Sr [ic 1 (.box (.t 0)),Al 2 [I0,.nsl,I0,I0,.nsl,.nsl,I0,I0,I0,.nsl,.nsl,.nsl,I0,I0,I0],Mk 3 0] (Sr [Fa 7 1 1,Lt 8 3 7,Cr 9 kf [.t 8],Mv 6 9,Ex 10 6 0,Ex 11 6 1,Al 4 [.nsl,I0,I0],Sv 3 4 10,Mv 5 11] (Sr [Lt 12 3 4,Fa 13 1 1,Sv 3 13 12] (Sr [Lt 14 15 1,Mv 15 5,Sv 15 2 14,Mv 3 15] .ret)))
def tX:a8:=⟨16,nK,[.cell 2 15 true,.tmp 3],none⟩
def iP:AC:=.seq (Sr [Mv 10 0,iv 11 (.lenL (.t 10)),Bi 12 .gtr 11 0] (Cd 12 .skip (.exit 0))) (.seq (.blk 1 (.seq (Sr [Mv 15 6,Bi 16 .eql 15 1024] (Cd 16 (Sr [Mv 17 6,iv 2 (.mv (.k (.nsl))),Mv 3 17,Mk 4 9] .ret) .skip)) (Sr [Mv 19 0,Cr 20 tB [.t 19],Mv 18 20,Ex 21 18 0,Ex 22 18 1,Ex 23 18 2,ic 7 (.alloc [I0,I0,I0,.str ⟨#[]⟩]),Sv 4 7 21,Mv 8 22,Mv 9 23] (.seq (Sr [Mv 24 9,Bi 25 .neq 24 0] (Cd 25 (Sr [Mv 26 6,Mv 27 9,iv 2 (.mv (.k (.nsl))),Mv 3 26,Mv 4 27] .ret) .skip)) (Sr [Mv 28 5,Lt 29 4 7,iv 30 (.slit 4 1 [I0,I0,I0,.str ⟨#[]⟩] [(0,.t 29)]),ic 31 (.app 4 false (.t 28) (.t 30)),Mv 5 31] (.reg [Mv 32 8,Mv 0 32])))))) (.reg [Mv 13 6,Bi 14 .add 13 1,Mv 6 14]))
def uD:AC:=Sr [iv 2 (.mv (.k (.nsl))),Mk 3 0,Mk 4 0] (Sr [iv 5 (.mv (.k (.nsl)))] (.seq (Sr [Mk 6 0] (.blk 0 (.loop iP))) (Sr [Mv 33 5,Mv 2 33,Mk 3 (-1),Mk 4 0] .ret)))
def Cw:a8:=⟨34,uD,[.tmp 2,.tmp 3,.tmp 4],none⟩
def eB:AC:=Sr [Bt 13 .lss 12 11] (.seq (Cd 13 .skip (.exit 0)) (.seq (.blk 1 (Sr [Mv 14 12,iv 15 (.iadr none 4 (.t 10) (.t 12)),Lt 16 4 15,ic 7 (.alloc [I0,I0,I0,.str ⟨#[]⟩]),Mv 6 14,Sv 4 7 16] (.seq (Sr [Mv 17 6,Bi 18 .eql 17 1024] (Cd 18 (Sr [Mv 19 6,iv 2 (.mv (.k (.nsl))),Mv 3 19,Mk 4 9] .ret) .skip)) (Sr [Lt 21 4 7,Cr 22 tD [.t 21],Mv 20 22,Ex 23 20 0,Ex 24 20 1,Mv 8 23,Mv 9 24] (.seq (Sr [Mv 25 9,Bi 26 .neq 25 0] (Cd 26 (Sr [Mv 27 6,Mv 28 9,iv 2 (.mv (.k (.nsl))),Mv 3 27,Mv 4 28] .ret) .skip)) (.reg [Mv 29 5,Mv 30 8,ic 31 (.app 1 false (.t 29) (.t 30)),Mv 5 31])))))) (.reg [Bi 32 .add 12 1,Mv 12 32])))
def oU:AC:=Sr [iv 2 (.mv (.k (.nsl))),Mk 3 0,Mk 4 0] (Sr [iv 5 (.mv (.k (.nsl)))] (.seq (Sr [Mv 10 0,iv 11 (.lenL (.t 10)),Mk 12 0] (.blk 0 (.loop eB))) (Sr [Mv 33 5,Mv 2 33,Mk 3 (-1),Mk 4 0] .ret)))
def u3:a8:=⟨34,oU,[.tmp 2,.tmp 3,.tmp 4],none⟩
def mn:AC:=Sr [Bt 9 .lss 8 7] (.seq (Cd 9 .skip (.exit 0)) (.seq (.blk 1 (Sr [Ia 10 6 8,Ld 11 10,Mv 5 11] (.reg [Mv 12 5,Ca 13 kS [.t 3,.t 12]]))) (.reg [Bi 14 .add 8 1,Mv 8 14])))
def Bw:AC:=Sr [ic 2 (.alloc (aO (B0) 32))] (Sr [Al 3 [U0,U0,U0,U0,U0,U0,U0,U0,U0,U0,U0,U0,U0,U0,U0,U0,U0,U0,U0,U0,U0,U0,U0,U0,U0,I0]] (.seq (Sr [Mv 6 0,iv 7 (.lenL (.t 6)),Mk 8 0] (.blk 0 (.loop mn))) (Sr [Cr 15 kg [.t 3],Sv 32 2 15] .ret)))
def IH:a8:=⟨16,Bw,[.cell 2 32 true],none⟩
def qF:AC:=Sr [iv 5 (.slit 4 0 [I0,I0,I0,.str ⟨#[]⟩] []),Mv 6 0,ic 7 (.app 4 false (.t 5) (.t 6)),Mv 2 7] .ret
def jG:a8:=⟨8,qF,[.tmp 2],some (.reg [iv 2 (.mv (.k (.nsl)))],3,4,.cond (.t 4)
 (.seq (.reg [iv 2 (.mv (.k (.nsl)))])
 (.ret))
 (.skip))⟩
def uE:AC:=Sr [iv 4 (.mv (.k (.nilp)))] (Sr [Mv 8 0,Mv 9 1,Ca 10 oH [.t 8,.t 9],Mv 7 10,Ex 11 7 0,Ex 12 7 1,Mv 5 11,Mv 6 12] (Sr [Mv 13 5,Mv 4 13] .ret))
def Cx:a8:=⟨14,uE,[.tmp 4],none⟩
def uF:AC:=Sr [iv 0 (.mv (.k (.nif)))] (Sr [Bu 1 [] [],iv 2 (.mkif 230 (.t 1)),Mv 0 2] .ret)
def Cy:a8:=⟨3,uF,[.tmp 0],none⟩
def iw:AC:=Sr [Mk 2 0] (Sr [Mv 3 0,Nk 4 3,Fa 5 0 4,Ld 6 5,Ca 7 dv [.t 6,K0 0],Mv 2 7] .ret)
def mX:a8:=⟨8,iw,[.tmp 2],none⟩
def i7:AC:=Sr [Mk 4 0,Mk 5 0] (Sr [Mv 7 0,Cr 8 tE [.t 7],Mv 6 8] (.seq (.blk 0 (Sr [Mv 10 6,Bi 11 .eql 10 0,Mv 9 11] (Cd 9 (Sr [Mk 4 0,Mk 5 6] .ret) (Sr [Mv 13 1,iv 14 (.lenL (.t 13)),Mv 15 6,Bt 16 .rem 14 15,Bi 17 .neq 16 0,Mv 12 17] (Cd 12 (Sr [Mk 4 0,Mk 5 3] .ret) (Sr [Mv 19 1,iv 20 (.lenL (.t 19)),Bi 21 .eql 20 0,Mv 22 21,Gv 23 (.mv (.t 1)) 22 false [],Gv 24 (.lenL (.t 23)) 22 false [],Gv 25 (.mv (.t 6)) 22 false [],Gv 26 (.bin .quo (.t 24) (.t 25)) 22 false [],Gv 27 (.bin .gtr (.t 26) (K0 1048576)) 22 false [],iv 28 (.pick (.t 22) (.k (.bool true)) (.t 27)),Mv 18 28] (Cd 18 (Sr [Mk 4 0,Mk 5 7] .ret) .skip))))))) (Sr [Mv 29 1,iv 30 (.lenL (.t 29)),Mv 31 6,Bt 32 .quo 30 31,Mv 4 32,Mk 5 0] .ret)))
def Eg:a8:=⟨33,i7,[.tmp 4,.tmp 5],none⟩
def i8:AC:=Sr [Mk 4 0] (.seq (Sr [Mv 5 0,Nk 6 5,Fa 7 2 6,Ld 8 7,iv 9 (.eq .ptr false (.t 8) (.k (.nilp))),Mv 10 9,Gv 11 (.mv (.t 1)) 10 true [],Gv 12 (.bin .neq (.t 11) (K0 0)) 10 true [],iv 13 (.pick (.t 10) (.t 12) (.k (.bool false)))] (Cd 13 (.reg [Mv 14 0,Mv 15 1,Bu 16 [I0] [(0,1,.t 15)],iv 17 (.boxv (.t 16)),Nk 18 14,Fa 19 2 18,Sx 19 17]) .skip)) (.seq (Sr [Mv 20 0,Nk 21 20,Fa 22 2 21,Ld 23 22,iv 24 (.eq .ptr false (.t 23) (.k (.nilp)))] (Cd 24 (Sr [Mk 4 0] .ret) .skip)) (Sr [Mv 25 0,Nk 26 25,Fa 27 2 26,Ld 28 27,Nk 29 28,Fa 30 0 29,Ld 31 30,Mv 4 31] .ret)))
def wB:a8:=⟨32,i8,[.tmp 4],none⟩
def gR:AC:=Sr [iv 3 (.boxv (.t 1)),Mk 4 0] (.seq (.draw [Dm 5 0,Dk 6 5,Df 7 0 6,Dl 8 7,Df 9 0 3,Dl 10 9,Df 11 1 3,Dl 12 11,Df 13 2 3,Dl 14 13,Dc 15 (.call l5 [.t 8,.t 10,.t 12,.t 14]) [8,10,12,14],Dm 4 15]) .ret)
def ma:a8:=⟨16,gR,[.tmp 4],none⟩
def jK:AC:=.seq (Sr [Fa 20 1 7,Ld 21 20,iv 22 (.eq .fn true (.t 21) (.k (.nfn))),Mv 23 22,Gv 24 (.mv (.t 8)) 23 true [],Gv 25 (.mv (.t 1)) 23 true [],Gv 26 (.lenL (.t 25)) 23 true [],Gv 27 (.bin .lss (.t 24) (.t 26)) 23 true [],iv 28 (.pick (.t 23) (.t 27) (.k (.bool false)))] (Cd 28 .skip (.exit 0))) (.seq (.blk 1 (.seq (.draw [Df 33 1 7,Dl 34 33,Dm 35 1,Dm 36 8,Dm 37 8,Df 38 0 7,Dl 39 38,Dv 40 (.bin .add (.t 37) (.t 39)) [37,39],Dv 41 (.slice .slc 1 (.t 35) (some (.t 36)) (some (.t 40)) none) [35,36,40],Dc 42 (.callv (.t 34) [.t 41]) [34,41],Dv 43 (.bin .neq (.t 42) (K0 0)) [42]]) (Cd 43 (Sr [Mk 4 4] .ret) .skip))) (.reg [Mv 29 8,Fa 30 0 7,Ld 31 30,Bt 32 .add 29 31,Mv 8 32]))
def nM:AC:=Sr [Mk 4 0] (.seq (Sr [Mv 10 0,Mv 11 1,Cr 12 ls [.t 10,.t 11],Mv 9 12,Ex 13 9 0,Ex 14 9 1,Mv 5 13,Mv 6 14] (Sr [Mv 15 6,Bi 16 .neq 15 0] (Cd 16 (Sr [Mv 17 6,Mv 4 17] .ret) .skip))) (Sr [Mv 18 0,Cr 19 ml [.t 18],Al 7 [I0,.nfn,.nsl],Sv 3 7 19] (.seq (Sr [Mk 8 0] (.blk 0 (.loop jK))) (Sr [Mk 4 0] .ret))))
def Ej:a8:=⟨44,nM,[.tmp 4],none⟩
def mE:AC:=Sr [iv 1 (.boxv (.t 0)),ic 2 (.alloc (aO (U0) 4))] (Sr [Fa 3 0 1,Lt 4 4 3,iv 5 (.build (aO (U0) 4) [(0,1,.k (.int .u64 1))]),Cr 6 mi [.t 4,.t 5],Sv 4 2 6] .ret)
def si:a8:=⟨7,mE,[.cell 2 4 true],none⟩
def mr:AC:=Sr [Bi 13 .lss 12 8] (.seq (Cd 13 .skip (.exit 2)) (.seq (.blk 3 (Sr [Mv 14 3,Mv 15 5,iv 16 (.i2i .u8 (.t 15)),iv 17 (.slit 1 1 [B0] [(0,.t 16)]),ic 18 (.app 1 false (.t 14) (.t 17)),Mv 3 18] (.reg [Mv 19 5,iv 20 (.bin .shr (.t 19) (.k (.int .u64 8))),Mv 5 20]))) (.reg [Bi 21 .add 12 1,Mv 12 21])))
def tq:AC:=Sr [Bt 9 .lss 8 7] (.seq (Cd 9 .skip (.exit 0)) (.seq (.blk 1 (Sr [Ia 10 6 8,Ld 11 10,Mv 5 11] (Sr [Mk 12 0] (.blk 2 (.loop mr))))) (.reg [Bi 22 .add 8 1,Mv 8 22])))
def BB:AC:=Sr [iv 2 (.mv (.k (.nsl)))] (Sr [iv 3 (.mv (.k (.nsl)))] (.seq (Sr [Mv 6 0,iv 7 (.lenL (.t 6)),Mk 8 0] (.blk 0 (.loop tq))) (Sr [Mv 23 3,Mv 2 23] .ret)))
def IP:a8:=⟨24,BB,[.tmp 2],none⟩
def j1:AC:=Sr [Mk 2 0] (.seq (.draw [Dm 3 0,Dm 4 0,Dk 5 4,Df 6 1 5,Dl 7 6,Dm 8 0,Dk 9 8,Df 10 0 9,Dl 11 10,Dv 12 (.lenL (.t 11)) [11],Dv 13 (.bin .eql (.t 7) (.t 12)) [7,12],Dc 14 (.call fX [.t 3,.t 13,K0 12]) [3,13],Dm 2 14]) .ret)
def tZ:a8:=⟨15,j1,[.tmp 2],none⟩
def d9:AC:=.seq (Sr [Mv 11 5,Bi 12 .geq 11 0] (Cd 12 .skip (.exit 0))) (.seq (.blk 1 (.seq (Sr [Mv 15 0,Mv 16 5,Cr 17 bT [.t 15,.t 16],Mv 18 1,Mv 19 5,Cr 20 bT [.t 18,.t 19],Bt 21 .lss 17 20] (Cd 21 (Sr [Mk 4 (-1)] .ret) .skip)) (Sr [Mv 22 0,Mv 23 5,Cr 24 bT [.t 22,.t 23],Mv 25 1,Mv 26 5,Cr 27 bT [.t 25,.t 26],Bt 28 .gtr 24 27] (Cd 28 (Sr [Mk 4 1] .ret) .skip)))) (.reg [Mv 13 5,Bi 14 .sub 13 1,Mv 5 14]))
def re:AC:=Sr [Mk 4 0] (.seq (Sr [Mv 6 0,iv 7 (.lenL (.t 6)),Mv 8 1,iv 9 (.lenL (.t 8)),Bt 10 .add 7 9,Mv 5 10] (.blk 0 (.loop d9))) (Sr [Mk 4 0] .ret))
def xX:a8:=⟨29,re,[.tmp 4],none⟩
def uG:AC:=Sr [iv 0 (.mv (.k (.nsl)))] (Sr [iv 1 (.slit 1 8 [U0] [(0,.k (.int .u64 4026531841)),(1,.k (.int .u64 1138881939)),(2,.k (.int .u64 2042196113)),(3,.k (.int .u64 674490440)),(4,.k (.int .u64 2172737629)),(5,.k (.int .u64 3092268470)),(6,.k (.int .u64 3778125865)),(7,.k (.int .u64 811880050))]),Mv 0 1] .ret)
def CB:a8:=⟨2,uG,[.tmp 0],none⟩
def dL:AC:=.seq (Sr [Mv 6 3,Bi 7 .gtr 6 0,Mv 8 7,Gv 9 (.mv (.t 0)) 8 true [],Gv 10 (.mv (.t 3)) 8 true [],Gv 11 (.bin .sub (.t 10) (K0 1)) 8 true [],Gv 12 (.iadr none 1 (.t 9) (.t 11)) 8 true [],Gr 13 (.ld 1 false (.t 12)) 8 true [] 0 0,Gv 14 (.bin .eql (.t 13) (.k (U0))) 8 true [],iv 15 (.pick (.t 8) (.t 14) (.k (.bool false)))] (Cd 15 .skip (.exit 0))) (.blk 1 (.reg [Mv 16 3,Bi 17 .sub 16 1,Mv 3 17]))
def pV:AC:=Sr [iv 2 (.mv (.k (.nsl)))] (Sr [Mv 4 0,iv 5 (.lenL (.t 4)),Mv 3 5] (.seq (.blk 0 (.loop dL)) (Sr [Mv 18 0,Mv 19 3,iv 20 (.slice .slc 1 (.t 18) none (some (.t 19)) none),Mv 2 20] .ret)))
def wC:a8:=⟨21,pV,[.tmp 2],none⟩
def eD:AC:=.seq (Sr [Mv 10 0,iv 11 (.lenL (.t 10)),Bi 12 .gtr 11 0] (Cd 12 .skip (.exit 0))) (.blk 1 (.seq (Sr [Mv 13 5,iv 14 (.lenL (.t 13)),Bi 15 .eql 14 1024] (Cd 15 (Sr [Mv 16 5,iv 17 (.lenL (.t 16)),iv 2 (.mv (.k (.nsl))),Mv 3 17,Mk 4 9] .ret) .skip)) (Sr [Mv 19 0,Cr 20 jR [.t 19],Mv 18 20,Ex 21 18 0,Ex 22 18 1,Ex 23 18 2,ic 6 (.alloc [I0,I0,I0,.str ⟨#[]⟩]),Sv 4 6 21,Mv 7 22,Mv 8 23] (.seq (Sr [Mv 24 8,Bi 25 .neq 24 0] (Cd 25 (Sr [Mv 26 5,iv 27 (.lenL (.t 26)),Mv 28 8,iv 2 (.mv (.k (.nsl))),Mv 3 27,Mv 4 28] .ret) .skip)) (Sr [Mv 29 5,Lt 30 4 6,iv 31 (.slit 4 1 [I0,I0,I0,.str ⟨#[]⟩] [(0,.t 30)]),ic 32 (.app 4 false (.t 29) (.t 31)),Mv 5 32] (.reg [Mv 33 7,Mv 0 33]))))))
def oV:AC:=Sr [iv 2 (.mv (.k (.nsl))),Mk 3 0,Mk 4 0] (Sr [iv 9 (.slit 4 0 [I0,I0,I0,.str ⟨#[]⟩] []),Mv 5 9] (.seq (.blk 0 (.loop eD)) (Sr [Mv 34 5,Mv 2 34,Mk 3 (-1),Mk 4 0] .ret)))
def u4:a8:=⟨35,oV,[.tmp 2,.tmp 3,.tmp 4],none⟩
def cE:AC:=.seq (Sr [Mv 10 6,Mv 11 0,iv 12 (.lenL (.t 11)),Bt 13 .lss 10 12] (Cd 13 .skip (.exit 0))) (.seq (.blk 1 (.seq (Sr [Mv 16 6,Bi 17 .eql 16 1024] (Cd 17 (Sr [Mv 18 6,iv 2 (.mv (.k (.nsl))),Mv 3 18,Mk 4 9] .ret) .skip)) (Sr [Mv 20 0,Mv 21 6,iv 22 (.iadr none 4 (.t 20) (.t 21)),Lt 23 4 22,Cr 24 jS [.t 23],Mv 19 24,Ex 25 19 0,Ex 26 19 1,Mv 7 25,Mv 8 26] (.seq (Sr [Mv 27 8,Bi 28 .neq 27 0] (Cd 28 (Sr [Mv 29 6,Mv 30 8,iv 2 (.mv (.k (.nsl))),Mv 3 29,Mv 4 30] .ret) .skip)) (.reg [Mv 31 5,Mv 32 7,ic 33 (.app 1 false (.t 31) (.t 32)),Mv 5 33]))))) (.reg [Mv 14 6,Bi 15 .add 14 1,Mv 6 15]))
def lg:AC:=Sr [iv 2 (.mv (.k (.nsl))),Mk 3 0,Mk 4 0] (Sr [iv 9 (.slit 1 0 [B0] []),Mv 5 9] (.seq (Sr [Mk 6 0] (.blk 0 (.loop cE))) (Sr [Mv 34 5,Mv 2 34,Mk 3 (-1),Mk 4 0] .ret)))
def qq:a8:=⟨35,lg,[.tmp 2,.tmp 3,.tmp 4],none⟩
def fI:AC:=.seq (Sr [Mv 16 6,Bi 17 .lss 16 136] (Cd 17 .skip (.exit 2))) (.seq (.blk 3 (.draw [Dm 20 4,Dm 21 6,Dm 22 4,Dm 23 6,Dv 24 (.iadr none 1 (.t 22) (.t 23)) [22,23],Dl 25 24,Dm 26 3,Dm 27 5,Dm 28 6,Dv 29 (.bin .add (.t 27) (.t 28)) [27,28],Dv 30 (.iadr none 1 (.t 26) (.t 29)) [26,29],Dl 31 30,Dr 32 (.call mR [.t 25,.t 31]) [25,31] 0 0,Dv 33 (.iadr none 1 (.t 20) (.t 21)) [20,21],Dn (.st 1 (.t 33) (.t 32)) [33,32]])) (.reg [Mv 18 6,Bi 19 .add 18 1,Mv 6 19]))
def lM:AC:=.seq (Sr [Mv 10 5,Mv 11 3,iv 12 (.lenL (.t 11)),Bt 13 .lss 10 12] (Cd 13 .skip (.exit 0))) (.seq (.blk 1 (.seq (Sr [Mk 6 0] (.blk 2 (.loop fI))) (.reg [Mv 34 4,Cr 35 cG [.t 34],Cr 36 fB [.t 35],Ca 37 fh [.t 36],Mv 4 37]))) (.reg [Mv 14 5,Bi 15 .add 14 136,Mv 5 15]))
def rh:AC:=Sr [iv 2 (.mv (.k (.nsl)))] (Sr [Mv 7 0,Cr 8 mQ [.t 7],Mv 3 8] (Sr [ic 9 (.mk 1 [B0] (K0 200)),Mv 4 9] (.seq (Sr [Mk 5 0] (.blk 0 (.loop lM))) (Sr [Mv 38 4,iv 39 (.slice .slc 1 (.t 38) none (some (K0 32)) none),Mv 2 39] .ret))))
def x7:a8:=⟨40,rh,[.tmp 2],none⟩
def cV:AC:=.seq (Sr [Mv 12 4,iv 13 (.lenL (.t 12)),Bi 14 .lss 13 200] (Cd 14 .skip (.exit 0))) (.blk 1 (.reg [Mv 15 4,iv 16 (.slit 1 1 [B0] [(0,.k (B0))]),ic 17 (.app 1 false (.t 15) (.t 16)),Mv 4 17]))
def lN:AC:=Sr [Al 2 [.nsl,I0,I0,I0],Mk 3 0] (.seq (Sr [Mv 5 0,iv 6 (.lenL (.t 5)),Bi 7 .gtr 6 64] (Cd 7 (Sr [Bu 8 [.nsl,I0,I0,I0] [],Sv 4 2 8,Mk 3 1] .ret) .skip)) (Sr [ic 9 (.mk 1 [B0] (K0 136)),Mv 10 0,ic 11 (.app 1 false (.t 9) (.t 10)),Mv 4 11] (.seq (.blk 0 (.loop cV)) (Sr [Mv 18 4,Bu 19 [.nsl,I0,I0,I0] [(0,1,.t 18),(2,1,K0 136)],Sv 4 2 19,Mk 3 0] .ret))))
def ri:a8:=⟨20,lN,[.cell 2 4 true,.tmp 3],none⟩
def dM:AC:=Sr [Mk 4 0,Mk 5 0] (.seq (Sr [Mv 7 0,Cr 8 di [.t 7],Bi 9 .eql 8 0] (Cd 9 (Sr [Mk 4 0,Mk 5 6] .ret) .skip)) (.seq (Sr [Mv 10 1,iv 11 (.lenL (.t 10)),Mv 12 0,Cr 13 di [.t 12],Bt 14 .rem 11 13,Bi 15 .neq 14 0] (Cd 15 (Sr [Mk 4 0,Mk 5 3] .ret) .skip)) (Sr [Mv 16 1,iv 17 (.lenL (.t 16)),Mv 18 0,Cr 19 di [.t 18],Bt 20 .quo 17 19,Mv 6 20] (.seq (Sr [Mv 21 6,Bi 22 .lss 21 1,Mv 23 22,Gv 24 (.mv (.t 6)) 23 false [],Gv 25 (.bin .gtr (.t 24) (K0 1048576)) 23 false [],iv 26 (.pick (.t 23) (.k (.bool true)) (.t 25))] (Cd 26 (Sr [Mk 4 0,Mk 5 7] .ret) .skip)) (Sr [Mv 27 6,Mv 4 27,Mk 5 0] .ret)))))
def u6:a8:=⟨28,dM,[.tmp 4,.tmp 5],none⟩
def pX:AC:=Sr [ic 2 (.box (.t 0)),Al 4 [I0,.nsl,I0,I0,.nsl,.nsl,I0,I0,I0,.nsl,.nsl,.nsl,I0,I0,I0],Mk 5 0] (Sr [Fa 9 1 2,Lt 10 3 9,Mv 11 1,Cr 12 lE [.t 10,.t 11],Mv 8 12,Ex 13 8 0,Ex 14 8 1,Al 6 [.nsl,I0,I0],Sv 3 6 13,Mv 7 14] (Sr [Lt 15 3 6,Fa 16 1 2,Sv 3 16 15] (Sr [Lt 17 15 2,Mv 18 7,Sv 15 4 17,Mv 5 18] .ret)))
def wD:a8:=⟨19,pX,[.cell 4 15 true,.tmp 5],none⟩
def pY:AC:=Sr [ic 2 (.box (.t 0)),iv 3 (.boxv (.t 1)),Al 4 [I0,.nsl,I0,I0,.nsl,.nsl,I0,I0,I0,.nsl,.nsl,.nsl,I0,I0,I0],Mk 5 0] (Sr [Fa 9 1 2,Lt 10 3 9,Fa 11 0 3,Ld 12 11,Fa 13 1 3,Ld 14 13,Fa 15 2 3,Ld 16 15,Cr 17 lF [.t 10,.t 12,.t 14,.t 16],Mv 8 17,Ex 18 8 0,Ex 19 8 1,Al 6 [.nsl,I0,I0],Sv 3 6 18,Mv 7 19] (Sr [Lt 20 3 6,Fa 21 1 2,Sv 3 21 20] (Sr [Lt 22 15 2,Mv 23 7,Sv 15 4 22,Mv 5 23] .ret)))
def wE:a8:=⟨24,pY,[.cell 4 15 true,.tmp 5],none⟩
def bY:AC:=.seq (Sr [Mv 19 7,Mv 20 5,Bt 21 .lss 19 20] (Cd 21 .skip (.exit 0))) (.seq (.blk 1 (Sr [Mv 24 1,Mv 25 7,Mv 26 0,Cr 27 di [.t 26],Bt 28 .mul 25 27,Mv 29 7,Bi 30 .add 29 1,Mv 31 0,Cr 32 di [.t 31],Bt 33 .mul 30 32,iv 34 (.slice .slc 1 (.t 24) (some (.t 28)) (some (.t 33)) none),Mv 8 34] (Sr [Mk 9 0] (.seq (Sr [Mv 35 0,Bi 36 .eql 35 3] (Cd 36 (.reg [Mv 38 8,Cr 39 lG [.t 38],Mv 37 39,Ex 40 37 0,Ex 41 37 1,Mv 9 41]) .skip)) (.seq (Sr [Mv 42 0,Bi 43 .eql 42 4] (Cd 43 (.reg [Mv 45 8,Cr 46 iW [.t 45],Mv 44 46,Ex 47 44 0,Ex 48 44 1,Mv 9 48]) .skip)) (Sr [Mv 49 9,Bi 50 .neq 49 0] (Cd 50 (Sr [Mk 4 4] .ret) .skip))))))) (.reg [Mv 22 7,Bi 23 .add 22 1,Mv 7 23]))
def kJ:AC:=Sr [Mk 4 0] (Sr [Mv 11 0,Mv 12 1,Cr 13 fp [.t 11,.t 12],Mv 10 13,Ex 14 10 0,Ex 15 10 1,Mv 5 14,Mv 6 15] (.seq (Sr [Mv 16 6,Bi 17 .neq 16 0] (Cd 17 (Sr [Mv 18 6,Mv 4 18] .ret) .skip)) (.seq (Sr [Mk 7 0] (.blk 0 (.loop bY))) (Sr [Mk 4 0] .ret))))
def u9:a8:=⟨51,kJ,[.tmp 4],none⟩
def pZ:AC:=Sr [ic 2 (.box (.t 0)),iv 3 (.boxv (.t 1)),Al 4 [I0,.nsl,I0,I0,.nsl,.nsl,I0,I0,I0,.nsl,.nsl,.nsl,I0,I0,I0]] (.seq (Sr [Fa 5 0 2,Ld 6 5,Bi 7 .eql 6 1] (Cd 7 (.draw [Df 8 5 2,Dr 9 (.ld 4 true (.t 8)) [8] 0 0,Dr 10 (.ld 4 true (.t 3)) [3] 0 0,Dr 11 (.call jp [.t 10]) [10] 0 0,Dr 12 (.call fQ [.t 9,.t 11]) [9,11] 0 0,Df 13 5 2,Dn (.st 4 (.t 13) (.t 12)) [13,12]]) (.draw [Df 14 9 2,Dr 15 (.ld 6 true (.t 14)) [14] 0 0,Dr 16 (.ld 4 true (.t 3)) [3] 0 0,Dr 17 (.call A7 [.t 16]) [16] 0 0,Dr 18 (.call xo [.t 15,.t 17]) [15,17] 0 0,Df 19 9 2,Dn (.st 6 (.t 19) (.t 18)) [19,18]]))) (Sr [Lt 20 15 2,Sv 15 4 20] .ret))
def wF:a8:=⟨21,pZ,[.cell 4 15 true],none⟩
def bJ:AC:=.seq (Sr [Mv 9 7,Mv 10 1,Bt 11 .lss 9 10] (Cd 11 .skip (.exit 0))) (.seq (.blk 1 (.seq (Sr [Fa 14 2 2,Ld 15 14,Bi 16 .eql 15 136] (Cd 16 (Sr [Lt 17 4 2,Ca 18 cC [.t 17],Sv 4 2 18] (Sr [Fa 19 1 2,jc (.st 1 (.t 19) (K0 0))] (.reg [Fa 20 2 2,jc (.st 1 (.t 20) (K0 0))]))) .skip)) (Sr [Mv 21 6,Fa 22 0 2,Ld 23 22,Fa 24 2 2,Ld 25 24,Ia 26 23 25,Ld 27 26,iv 28 (.slit 1 1 [B0] [(0,.t 27)]),ic 29 (.app 1 false (.t 21) (.t 28)),Mv 6 29] (.reg [Fa 30 2 2,Ld 31 30,Bi 32 .add 31 1,Fa 33 2 2,Sx 33 32])))) (.reg [Mv 12 7,Bi 13 .add 12 1,Mv 7 13]))
def km:AC:=Sr [ic 2 (.box (.t 0)),Al 4 [.nsl,I0,I0,I0],iv 5 (.mv (.k (.nsl)))] (Sr [iv 8 (.slit 1 0 [B0] []),Mv 6 8] (.seq (Sr [Mk 7 0] (.blk 0 (.loop bJ))) (Sr [Lt 34 4 2,Mv 35 6,Sv 4 4 34,Mv 5 35] .ret)))
def pt:a8:=⟨36,km,[.cell 4 4 true,.tmp 5],none⟩
def gf:AC:=.seq (Sr [Mv 9 7,Bi 10 .lss 9 64] (Cd 10 .skip (.exit 0))) (.seq (.blk 1 (Sr [Mv 13 0,Mv 14 1,Mv 15 7,Bt 16 .add 14 15,Mv 17 0,iv 18 (.lenL (.t 17)),Bt 19 .rem 16 18,Ia 20 13 19,Ld 21 20,Cr 22 jU [.t 21],Mv 8 22] (Sr [Mv 23 8,Cr 24 mj [],Cr 25 ff [.t 23,.t 24],Bi 26 .lss 25 0] (Cd 26 (Sr [Mv 27 8,Mv 28 7,Bi 29 .add 28 1,Mv 4 27,Mv 5 29,Mk 6 0] .ret) .skip)))) (.reg [Mv 11 7,Bi 12 .add 11 1,Mv 7 12]))
def oY:AC:=Sr [iv 4 (.mv (.k (.nsl))),Mk 5 0,Mk 6 0] (.seq (Sr [Mk 7 0] (.blk 0 (.loop gf))) (Sr [iv 4 (.mv (.k (.nsl))),Mk 5 64,Mk 6 11] .ret))
def uR:a8:=⟨30,oY,[.tmp 4,.tmp 5,.tmp 6],none⟩
def ek:AC:=.seq (Sr [Mv 18 6,Bi 19 .lss 18 8] (Cd 19 .skip (.exit 2))) (.seq (.blk 3 (Sr [Mv 22 3,Mv 23 5,iv 24 (.bin .rem (.t 23) (.k (.int .u64 256))),iv 25 (.i2i .u8 (.t 24)),iv 26 (.slit 1 1 [B0] [(0,.t 25)]),ic 27 (.app 1 false (.t 22) (.t 26)),Mv 3 27] (.reg [Mv 28 5,iv 29 (.bin .quo (.t 28) (.k (.int .u64 256))),Mv 5 29]))) (.reg [Mv 20 6,Bi 21 .add 20 1,Mv 6 21]))
def jN:AC:=.seq (Sr [Mv 8 4,Mv 9 0,iv 10 (.lenL (.t 9)),Bt 11 .lss 8 10] (Cd 11 .skip (.exit 0))) (.seq (.blk 1 (Sr [Mv 14 0,Mv 15 4,Ia 16 14 15,Ld 17 16,Mv 5 17] (Sr [Mk 6 0] (.blk 2 (.loop ek))))) (.reg [Mv 12 4,Bi 13 .add 12 1,Mv 4 13]))
def oN:AC:=Sr [iv 2 (.mv (.k (.nsl)))] (Sr [iv 7 (.slit 1 0 [B0] []),Mv 3 7] (.seq (Sr [Mk 4 0] (.blk 0 (.loop jN))) (Sr [Mv 30 3,Mv 2 30] .ret)))
def uS:a8:=⟨31,oN,[.tmp 2],none⟩
def en:AC:=.seq (Sr [Mv 9 6,Mv 10 1,Bt 11 .lss 9 10] (Cd 11 .skip (.exit 0))) (.seq (.blk 1 (.reg [Mv 14 5,Mv 15 0,Mv 16 6,iv 17 (.bin .mul (K0 2) (.t 16)),Cr 18 bT [.t 15,.t 17],Mv 19 0,Mv 20 6,iv 21 (.bin .mul (K0 2) (.t 20)),Bi 22 .add 21 1,Cr 23 bT [.t 19,.t 22],iv 24 (.bin .mul (.t 23) (.k (.int .u64 4294967296))),Bt 25 .add 18 24,iv 26 (.slit 1 1 [U0] [(0,.t 25)]),ic 27 (.app 1 false (.t 14) (.t 26)),Mv 5 27])) (.reg [Mv 12 6,Bi 13 .add 12 1,Mv 6 13]))
def oO:AC:=Sr [iv 4 (.mv (.k (.nsl)))] (Sr [Mv 7 1,ic 8 (.mkc 1 [U0] (K0 0) (.t 7)),Mv 5 8] (.seq (Sr [Mk 6 0] (.blk 0 (.loop en))) (Sr [Mv 28 5,Mv 4 28] .ret)))
def uT:a8:=⟨29,oO,[.tmp 4],none⟩
def io:AC:=Sr [ic 1 (.box (.t 0)),Al 2 [.nsl,I0,I0,I0]] (Sr [Lt 3 4 1,Ca 4 cC [.t 3],Sv 4 1 4] (.seq (.draw [ic 5 (.mk 1 [B0] (K0 136)),Df 6 0 1,Dr 7 (.ld 1 false (.t 6)) [6] 0 1,Dv 8 (.slice .slc 1 (.t 7) (some (K0 136)) none none) [7],Dc 9 (.app 1 false (.t 5) (.t 8)) [5,8],Df 10 0 1,Dn (.st 1 (.t 10) (.t 9)) [10,9]]) (Sr [Fa 11 1 1,jc (.st 1 (.t 11) (K0 0))] (Sr [Fa 12 2 1,jc (.st 1 (.t 12) (K0 136))] (Sr [Lt 13 4 1,Sv 4 2 13] .ret)))))
def mN:a8:=⟨14,io,[.cell 2 4 true],none⟩
def fV:AC:=Sr [ic 1 (.box (.t 0)),Al 2 [.nsl,I0,I0],Mk 3 0] (.seq (Sr [Fa 4 2 1,Ld 5 4,Bi 6 .eql 5 0,Mv 7 6,Gv 8 (.fadr 1 (.t 1)) 7 true [],Gr 9 (.ld 1 false (.t 8)) 7 true [] 0 0,Gv 10 (.fadr 0 (.t 1)) 7 true [],Gr 11 (.ld 1 false (.t 10)) 7 true [] 0 0,Gv 12 (.lenL (.t 11)) 7 true [],Gv 13 (.bin .lss (.t 9) (.t 12)) 7 true [],iv 14 (.pick (.t 7) (.t 13) (.k (.bool false)))] (Cd 14 (.reg [Fa 15 2 1,jc (.st 1 (.t 15) (K0 12))]) .skip)) (.seq (.draw [Dr 16 (.ld 3 true (.t 1)) [1] 0 0,Df 17 2 1,Dr 18 (.ld 1 false (.t 17)) [17] 0 1,Dn (.st 3 (.t 2) (.t 16)) [2,16],Dm 3 18]) .ret))
def tF:a8:=⟨19,fV,[.cell 2 3 true,.tmp 3],none⟩
def pg:AC:=Sr [ic 2 (.alloc [I0,I0,I0,.str ⟨#[]⟩]),iv 3 (.mv (.k (.nsl))),Mk 4 0] (Sr [Mv 9 0,Bu 10 [.nsl,.bool false] [(0,1,.t 9)],ic 11 (.box (.t 10)),Mv 5 11] (Sr [Mv 12 5,Ca 13 dj [.t 12,K0 1],Mv 14 5,Ca 15 dj [.t 14,K0 1],Mv 16 5,Ca 17 dj [.t 16,K0 4],iv 18 (.build [I0,I0,I0,.str ⟨#[]⟩] [(0,1,.t 13),(1,1,.t 15),(2,1,.t 17)]),ic 6 (.alloc [I0,I0,I0,.str ⟨#[]⟩]),Sv 4 6 18] (Sr [Mv 19 5,Ca 20 dj [.t 19,K0 2],Mv 7 20] (Sr [Mv 21 5,Mv 22 7,Ca 23 iX [.t 21,.t 22],ir 24 (.b2s (.t 23)),Fa 25 3 6,Sx 25 24] (.seq (Sr [Mv 26 5,Nk 27 26,Fa 28 1 27,Ld 29 28] (Cd 29 (Sr [iv 30 (.build [I0,I0,I0,.str ⟨#[]⟩] []),Sv 4 2 30,iv 3 (.mv (.k (.nsl))),Mk 4 2] .ret) .skip)) (.seq (Sr [Lt 31 4 6,Cr 32 lH [.t 31],Mv 8 32] (Sr [Mv 33 8,Bi 34 .neq 33 0] (Cd 34 (Sr [iv 35 (.build [I0,I0,I0,.str ⟨#[]⟩] []),Mv 36 8,Sv 4 2 35,iv 3 (.mv (.k (.nsl))),Mv 4 36] .ret) .skip))) (.seq (.draw [Dr 37 (.ld 4 true (.t 6)) [6] 0 0,Dm 38 5,Dk 39 38,Df 40 0 39,Dl 41 40,Dr 42 (.call gu [.t 41]) [41] 0 0,Dn (.st 4 (.t 2) (.t 37)) [2,37],Dm 3 42,Mk 4 0]) .ret)))))))
def GD:a8:=⟨43,pg,[.cell 2 4 true,.tmp 3,.tmp 4],none⟩
def yB:AC:=Sr [iv 1 (.boxv (.t 0)),iv 2 (.mv (.k (.nsl))),Mk 3 0] (.seq (Sr [Lt 6 4 1,Cr 7 lH [.t 6],Mv 4 7] (Sr [Mv 8 4,Bi 9 .neq 8 0] (Cd 9 (Sr [Mv 10 4,iv 2 (.mv (.k (.nsl))),Mv 3 10] .ret) .skip))) (Sr [Fa 11 0 1,Ld 12 11,iv 13 (.i2i .u8 (.t 12)),Fa 14 1 1,Ld 15 14,iv 16 (.i2i .u8 (.t 15)),iv 17 (.slit 1 2 [B0] [(0,.t 13),(1,.t 16)]),Fa 18 2 1,Ld 19 18,Ca 20 iI [.t 17,.t 19,K0 4],Mv 5 20] (.seq (.draw [Dm 21 5,Df 22 3 1,Dl 23 22,Dv 24 (.lenS (.t 23)) [23],Dc 25 (.call iI [.t 21,.t 24,K0 2]) [21,24],Df 26 3 1,Dr 27 (.ld 1 false (.t 26)) [26] 0 1,Dc 28 (.app 1 false (.t 25) (.t 27)) [25,27],Dm 2 28,Mk 3 0]) .ret)))
def GF:a8:=⟨29,yB,[.tmp 2,.tmp 3],none⟩
def fW:AC:=Sr [Bt 9 .lss 8 7] (.seq (Cd 9 .skip (.exit 0)) (.seq (.blk 1 (Sr [Ia 10 6 8,Ld 11 10,Mv 5 11] (Sr [Mv 12 0,Mv 13 0,Nk 14 13,Fa 15 25 14,Ld 16 15,Mv 17 5,Ca 18 dS [.t 12,.t 16,.t 17]] (Sr [Mv 19 0,Nk 20 19,Fa 21 25 20,Ld 22 21,Bi 23 .add 22 1,Nk 24 19,Fa 25 25 24,Sx 25 23] (Sr [Mv 26 0,Nk 27 26,Fa 28 25 27,Ld 29 28,Bi 30 .eql 29 136] (Cd 30 (.reg [Mv 31 0,Mv 32 0,Mv 33 0,Nk 34 33,Fa 35 0 34,Lt 36 25 35,Cr 37 dD [.t 36],Nk 38 31,Fa 39 0 38,Sv 25 39 37,Nk 40 32,Fa 41 25 40,jc (.st 1 (.t 41) (K0 0))]) .skip)))))) (.reg [Bi 42 .add 8 1,Mv 8 42])))
def oP:AC:=Sr [Mv 6 1,iv 7 (.lenL (.t 6)),Mk 8 0] (.blk 0 (.loop fW))
def uU:a8:=⟨43,oP,[],none⟩
def qO:AC:=Sr [ic 2 (.alloc (aO (B0) 32))] (Sr [Mv 5 0,Nk 6 5,Lt 7 26 6,Al 3 [U0,U0,U0,U0,U0,U0,U0,U0,U0,U0,U0,U0,U0,U0,U0,U0,U0,U0,U0,U0,U0,U0,U0,U0,U0,I0],Sv 26 3 7] (Sr [Fa 8 25 3,Ld 9 8,Ca 10 dS [.t 3,.t 9,.k (.int .u8 6)]] (Sr [Ca 11 dS [.t 3,K0 135,.k (.int .u8 128)]] (Sr [Fa 12 0 3,Lt 13 25 12,Cr 14 dD [.t 13],Cr 15 fY [.t 14],ic 4 (.alloc (aO (B0) 200)),Sv 200 4 15] (Sr [iv 16 (.slice (.arr 200) 1 (.t 4) none (some (K0 32)) none),iv 17 (.s2a 32 (.t 16)),Lt 18 32 17,Sv 32 2 18] .ret)))))
def xC:a8:=⟨19,qO,[.cell 2 32 true],none⟩
def sx:AC:=Sr [iv 4 (.mv (.k (.nilp))),Mk 5 0] (.seq (Sr [Mv 7 1,iv 8 (.lenL (.t 7)),Mv 9 0,ir 10 (.inv (.t 9) "Width" []),Mv 11 0,ir 12 (.inv (.t 11) "Rate" []),Bt 13 .sub 10 12,Bt 14 .gtr 8 13] (Cd 14 (Sr [iv 4 (.mv (.k (.nilp))),Mk 5 1] .ret) .skip)) (.seq (.draw [Dm 15 0,Dm 16 0,Dr 17 (.inv (.t 16) "Width" []) [16] 0 0,Dc 18 (.mk 1 [B0] (.t 17)) [17,17],Dm 19 0,Dr 20 (.inv (.t 19) "Rate" []) [19] 0 1,Dv 21 (.build [.nif,.nsl,I0,I0,I0] [(0,1,.t 15),(1,1,.t 18),(3,1,.t 20)]) [15,18,20],Dc 22 (.box (.t 21)) [21],Dm 6 22]) (.seq (.draw [Dm 23 6,Dk 24 23,Df 25 1 24,Dl 26 25,Dm 27 0,Dr 28 (.inv (.t 27) "Rate" []) [27] 0 0,Dv 29 (.slice .slc 1 (.t 26) (some (.t 28)) none none) [26,28],Dm 30 1,Dc 31 (.copy 1 (.t 29) (.t 30)) [29,30]]) (Sr [Mv 32 6,Mv 4 32,Mk 5 0] .ret))))
def zj:a8:=⟨33,sx,[.tmp 4,.tmp 5],none⟩
def yE:AC:=Sr [Mk 2 0] (Sr [Mv 3 0,Cr 4 ml [.t 3],iv 5 (.fld 0 1 false (.t 4)),Mv 2 5] .ret)
def GG:a8:=⟨6,yE,[.tmp 2],none⟩
def iU:AC:=Sr [Mk 8 0] (Sr [Mv 11 1,Mv 12 2,Mv 13 3,iv 14 (.build [I0,I0,I0,.str ⟨#[]⟩] [(0,1,.t 11),(1,1,.t 12),(2,1,.t 13)]),ic 9 (.alloc [I0,I0,I0,.str ⟨#[]⟩]),Sv 4 9 14] (.seq (.draw [Dm 15 0,Dm 16 0,Dk 17 16,Df 18 1 17,Dl 19 18,Dm 20 0,Dk 21 20,Df 22 0 21,Dl 23 22,Dv 24 (.lenL (.t 23)) [23],Dv 25 (.bin .lss (.t 19) (.t 24)) [19,24],Dm 26 25,Gm 27 0 26 true,Gk 28 27 26 true,Gf 29 0 28 26 true,Gl 30 29 26 true,Gm 31 0 26 true,Gk 32 31 26 true,Gf 33 1 32 26 true,Gl 34 33 26 true,Gv 35 (.iadr none 4 (.t 30) (.t 34)) 26 true [30,34,26],Gr 36 (.ld 4 true (.t 35)) 26 true [35,26] 0 0,Gr 37 (.ld 4 true (.t 9)) 26 true [9,26] 0 0,Gr 38 (.call xI [.t 36,.t 37]) 26 true [36,37,26] 0 0,Dv 39 (.pick (.t 26) (.t 38) (.k (.bool false))) [26,38],Dc 40 (.call fX [.t 15,.t 39,K0 10]) [15,39],Dm 10 40]) (.seq (Sr [Mv 41 10,Bi 42 .eql 41 0] (Cd 42 (.reg [Mv 43 0,Nk 44 43,Fa 45 1 44,Ld 46 45,Bi 47 .add 46 1,Nk 48 43,Fa 49 1 48,Sx 49 47]) .skip)) (Sr [Mv 50 10,Mv 8 50] .ret))))
def vU:a8:=⟨51,iU,[.tmp 8],none⟩
def gP:AC:=Sr [Al 2 [I0,.nfn,.nsl]] (.seq (Sr [Mv 3 0] (.blk 0 (Sr [Bi 5 .eql 3 1,Mv 4 5] (Cd 4 (Sr [Bu 6 [I0,.nfn,.nsl] [(0,1,K0 1)],Sv 3 2 6] .ret) (Sr [Bi 8 .eql 3 2,Mv 7 8] (Cd 7 (Sr [iv 9 (.slit 1 1 [I0] [(0,K0 8)]),Bu 10 [I0,.nfn,.nsl] [(0,1,K0 8),(2,1,.t 9)],Sv 3 2 10] .ret) (Sr [Bi 12 .eql 3 3,Mv 11 12] (Cd 11 (Sr [iv 13 (.slit 1 1 [I0] [(0,K0 32)]),iv 14 (.build [I0,.nfn,.nsl] [(0,1,K0 32),(1,1,.k (.fn (.func gv) [] [])),(2,1,.t 13)]),Sv 3 2 14] .ret) (Sr [Bi 16 .eql 3 4,Mv 15 16] (Cd 15 (Sr [iv 17 (.slit 1 4 [I0] [(0,K0 31),(1,K0 31),(2,K0 31),(3,K0 3)]),iv 18 (.build [I0,.nfn,.nsl] [(0,1,K0 96),(1,1,.k (.fn (.func gy) [] [])),(2,1,.t 17)]),Sv 3 2 18] .ret) .skip)))))))))) (Sr [Bu 19 [I0,.nfn,.nsl] [],Sv 3 2 19] .ret))
def Ct:a8:=⟨20,gP,[.cell 2 3 true],none⟩
def cw:AC:=Sr [Bi 23 .lss 22 4] (.seq (Cd 23 .skip (.exit 2)) (.seq (.blk 3 (Sr [Mv 24 22,iv 25 (.idxA 4 1 false (.t 21) (.t 22)),Mv 11 24,Mv 12 25] (.reg [Mv 27 11,Mv 28 11,iv 29 (.iadr (some 5) 1 (.t 7) (.t 28)),Ld 30 29,Mv 31 9,Mv 32 12,Mv 33 10,Cr 34 ol [.t 30,.t 31,.t 32,.t 33],Mv 26 34,Ex 35 26 0,Ex 36 26 1,iv 37 (.iadr (some 5) 1 (.t 7) (.t 27)),Sx 37 35,Mv 10 36]))) (.reg [Bi 38 .add 22 1,Mv 22 38])))
def fC:AC:=.seq (Sr [Mv 57 14,Bi 58 .lss 57 4] (Cd 58 .skip (.exit 4))) (.seq (.blk 5 (.draw [Dm 62 14,Dv 63 (.bin .sub (.t 62) (K0 1)) [62],Dm 64 14,Dv 65 (.iadr (some 5) 1 (.t 7) (.t 64)) [7,64],Dl 66 65,Dm 67 13,Dm 68 14,Dv 69 (.iadr (some 4) 1 (.t 5) (.t 68)) [5,68],Dl 70 69,Dm 71 10,Dr 72 (.call ol [.t 66,.t 67,.t 70,.t 71]) [66,67,70,71] 0 0,Dm 61 72,Dv 73 (.ext (.t 61) 0) [61],Dv 74 (.ext (.t 61) 1) [61],Dv 75 (.iadr (some 5) 1 (.t 7) (.t 63)) [7,63],Dn (.st 1 (.t 75) (.t 73)) [75,73],Dm 10 74])) (.reg [Mv 59 14,Bi 60 .add 59 1,Mv 14 60]))
def iN:AC:=Sr [Bi 19 .lss 18 4] (.seq (Cd 19 .skip (.exit 0)) (.seq (.blk 1 (Sr [iv 20 (.idxA 4 1 false (.t 17) (.t 18)),Mv 9 20] (Sr [iv 10 (.mv (.k (U0)))] (.seq (Sr [Lt 21 4 3,Mk 22 0] (.blk 2 (.loop cw))) (Sr [iv 39 (.iadr (some 5) 1 (.t 7) (K0 4)),Ld 40 39,Mv 41 10,Bt 42 .add 40 41,iv 43 (.iadr (some 5) 1 (.t 7) (K0 4)),Sx 43 42] (Sr [iv 44 (.iadr (some 5) 1 (.t 7) (K0 0)),Ld 45 44,Mv 46 6,Bt 47 .mul 45 46,Mv 13 47] (Sr [iv 49 (.iadr (some 5) 1 (.t 7) (K0 0)),Ld 50 49,Mv 51 13,iv 52 (.iadr (some 4) 1 (.t 5) (K0 0)),Ld 53 52,Cr 54 ol [.t 50,.t 51,.t 53,.k (U0)],Mv 48 54,Ex 55 48 0,Ex 56 48 1,Mv 10 56] (.seq (Sr [Mk 14 1] (.blk 4 (.loop fC))) (Sr [iv 77 (.iadr (some 5) 1 (.t 7) (K0 4)),Ld 78 77,Mv 79 10,Ca 80 bU [.t 78,.t 79,.k (U0)],Mv 76 80,Ex 81 76 0,Ex 82 76 1,iv 83 (.iadr (some 5) 1 (.t 7) (K0 3)),Sx 83 81,Mv 10 82] (.reg [Mv 84 10,iv 85 (.iadr (some 5) 1 (.t 7) (K0 4)),Sx 85 84])))))))))) (.reg [Bi 86 .add 18 1,Mv 18 86])))
def uy:AC:=Sr [iv 2 (.boxv (.t 0)),iv 3 (.boxv (.t 1)),ic 4 (.alloc (aO (U0) 4))] (Sr [Cr 15 kj [],Cr 16 pH [],ic 5 (.alloc (aO (U0) 4)),Sv 4 5 15,Mv 6 16] (Sr [ic 7 (.alloc (aO (U0) 5))] (.seq (Sr [Lt 17 4 2,Mk 18 0] (.blk 0 (.loop iN))) (Sr [iv 87 (.slice (.arr 5) 1 (.t 7) none (some (K0 4)) none),iv 88 (.s2a 4 (.t 87)),Lt 89 4 88,Cr 90 pn [.t 89],Sv 4 4 90] .ret))))
def Cu:a8:=⟨91,uy,[.cell 4 4 true],none⟩
def ny:AC:=Sr [Mk 6 0] (.seq (Sr [Mv 7 1] (Cd 7 (.reg [Mk 2 0]) .skip)) (Sr [Mv 8 0,Mv 9 2,Ca 10 dv [.t 8,.t 9],Mv 6 10] .ret))
def tG:a8:=⟨11,ny,[.tmp 6],none⟩
def fD:AC:=.seq (Sr [Mv 12 7,Mv 13 0,iv 14 (.lenL (.t 13)),Bt 15 .lss 12 14] (Cd 15 .skip (.exit 0))) (.seq (.blk 1 (.seq (.draw [Dm 18 0,Dm 19 7,Dv 20 (.iadr none 1 (.t 18) (.t 19)) [18,19],Dl 21 20,Dv 22 (.bin .add (.k (.int .u64 4294967296)) (.t 21)) [21],Dm 23 1,Dm 24 7,Dr 25 (.call bT [.t 23,.t 24]) [23,24] 0 0,Dv 26 (.bin .sub (.t 22) (.t 25)) [22,25],Dm 27 6,Dv 28 (.bin .sub (.t 26) (.t 27)) [26,27],Dm 8 28]) (Sr [Mv 29 5,Mv 30 8,iv 31 (.bin .rem (.t 30) (.k (.int .u64 4294967296))),iv 32 (.slit 1 1 [U0] [(0,.t 31)]),ic 33 (.app 1 false (.t 29) (.t 32)),Mv 5 33] (.reg [Mv 34 8,iv 35 (.bin .quo (.t 34) (.k (.int .u64 4294967296))),iv 36 (.bin .sub (.k (.int .u64 1)) (.t 35)),Mv 6 36])))) (.reg [Mv 16 7,Bi 17 .add 16 1,Mv 7 17]))
def qP:AC:=Sr [iv 4 (.mv (.k (.nsl)))] (Sr [Mv 9 0,iv 10 (.lenL (.t 9)),ic 11 (.mkc 1 [U0] (K0 0) (.t 10)),Mv 5 11] (Sr [iv 6 (.mv (.k (U0)))] (.seq (Sr [Mk 7 0] (.blk 0 (.loop fD))) (Sr [Mv 37 5,Cr 38 eg [.t 37],Mv 4 38] .ret))))
def xE:a8:=⟨39,qP,[.tmp 4],none⟩
def mO:AC:=Sr [iv 4 (.mv (.k (U0)))] (.seq (Sr [Mv 5 1,Mv 6 0,iv 7 (.lenL (.t 6)),Bt 8 .lss 5 7] (Cd 8 (Sr [Mv 9 0,Mv 10 1,Ia 11 9 10,Ld 12 11,Mv 4 12] .ret) .skip)) (Sr [iv 4 (.mv (.k (U0)))] .ret))
def xF:a8:=⟨13,mO,[.tmp 4],none⟩
def eo:AC:=Sr [ic 2 (.alloc [I0,I0,I0,.str ⟨#[]⟩]),iv 3 (.mv (.k (.nsl))),Mk 4 0] (.seq (Sr [Mv 8 0,iv 9 (.lenL (.t 8)),Bi 10 .lss 9 8,Mv 11 10,Gv 12 (.mv (.t 0)) 11 false [],Gv 13 (.lenL (.t 12)) 11 false [],Gv 14 (.mv (.t 0)) 11 false [],Gv 15 (.slice .slc 1 (.t 14) (some (K0 6)) (some (K0 8)) none) 11 false [],Gr 16 (.call iO [.t 15]) 11 false [] 0 0,Gv 17 (.bin .add (K0 8) (.t 16)) 11 false [],Gv 18 (.bin .lss (.t 13) (.t 17)) 11 false [],iv 19 (.pick (.t 11) (.k (.bool true)) (.t 18))] (Cd 19 (Sr [iv 20 (.build [I0,I0,I0,.str ⟨#[]⟩] []),Sv 4 2 20,iv 3 (.mv (.k (.nsl))),Mk 4 2] .ret) .skip)) (Sr [Mv 21 0,iv 22 (.slice .slc 1 (.t 21) (some (K0 6)) (some (K0 8)) none),Cr 23 iO [.t 22],iv 24 (.bin .add (K0 8) (.t 23)),Mv 5 24] (.seq (.draw [Dm 25 0,Dv 26 (.iadr none 1 (.t 25) (K0 0)) [25],Dr 27 (.ld 1 false (.t 26)) [26] 0 1,Dv 28 (.i2i .i64 (.t 27)) [27],Dm 29 0,Dv 30 (.iadr none 1 (.t 29) (K0 1)) [29],Dr 31 (.ld 1 false (.t 30)) [30] 0 1,Dv 32 (.i2i .i64 (.t 31)) [31],Dm 33 0,Dv 34 (.slice .slc 1 (.t 33) (some (K0 2)) (some (K0 6)) none) [33],Dr 35 (.call iO [.t 34]) [34] 0 1,Dm 36 0,Dm 37 5,Dv 38 (.slice .slc 1 (.t 36) (some (K0 8)) (some (.t 37)) none) [36,37],Dr 39 (.b2s (.t 38)) [38] 0 1,⟨(some 40),.v (.build [I0,I0,I0,.str ⟨#[]⟩] [(0,1,.t 28),(1,1,.t 32),(2,1,.t 35),(3,1,.t 39)]),none,[28,32,35,39],0,0⟩,ic 6 (.alloc [I0,I0,I0,.str ⟨#[]⟩]),Dn (.st 4 (.t 6) (.t 40)) [6,40]]) (.seq (Sr [Lt 41 4 6,Cr 42 dJ [.t 41],Mv 7 42] (Sr [Mv 43 7,Bi 44 .neq 43 0] (Cd 44 (Sr [iv 45 (.build [I0,I0,I0,.str ⟨#[]⟩] []),Mv 46 7,Sv 4 2 45,iv 3 (.mv (.k (.nsl))),Mv 4 46] .ret) .skip))) (.seq (.draw [Dr 47 (.ld 4 true (.t 6)) [6] 0 0,Dm 48 0,Dm 49 5,Dv 50 (.slice .slc 1 (.t 48) (some (.t 49)) none none) [48,49],Dn (.st 4 (.t 2) (.t 47)) [2,47],Dm 3 50,Mk 4 0]) .ret)))))
def tH:a8:=⟨51,eo,[.cell 2 4 true,.tmp 3,.tmp 4],none⟩
def jO:AC:=Sr [iv 1 (.boxv (.t 0)),iv 2 (.mv (.k (.nsl))),Mk 3 0] (.seq (Sr [Lt 6 4 1,Cr 7 dJ [.t 6],Mv 4 7] (Sr [Mv 8 4,Bi 9 .neq 8 0] (Cd 9 (Sr [Mv 10 4,iv 2 (.mv (.k (.nsl))),Mv 3 10] .ret) .skip))) (.seq (.draw [Df 11 0 1,Dl 12 11,Dc 13 (.call aY [.t 12,K0 1]) [12],Df 14 1 1,Dr 15 (.ld 1 false (.t 14)) [14] 0 1,Dc 16 (.call aY [.t 15,K0 1]) [15],Dc 17 (.app 1 false (.t 13) (.t 16)) [13,16],Dm 5 17]) (.seq (.draw [Dm 18 5,Df 19 2 1,Dl 20 19,Dc 21 (.call aY [.t 20,K0 4]) [20],Dc 22 (.app 1 false (.t 18) (.t 21)) [18,21],Df 23 3 1,Dr 24 (.ld 1 false (.t 23)) [23] 0 2,Dv 25 (.lenS (.t 24)) [24],Dc 26 (.call aY [.t 25,K0 2]) [25],Dc 27 (.app 1 false (.t 22) (.t 26)) [22,26],Dm 5 27]) (Sr [Mv 28 5,Fa 29 3 1,Ld 30 29,ic 31 (.s2b (.t 30)),ic 32 (.app 1 false (.t 28) (.t 31)),Mv 2 32,Mk 3 0] .ret))))
def tI:a8:=⟨33,jO,[.tmp 2,.tmp 3],none⟩
def lB:AC:=.seq (Sr [Mv 9 3,iv 10 (.lenL (.t 9)),Bi 11 .rem 10 136,Bi 12 .neq 11 0] (Cd 12 .skip (.exit 0))) (.blk 1 (.reg [Mv 13 3,iv 14 (.slit 1 1 [B0] [(0,.k (B0))]),ic 15 (.app 1 true (.t 13) (.t 14)),Mv 3 15]))
def qQ:AC:=Sr [iv 2 (.mv (.k (.nsl)))] (Sr [iv 4 (.slit 1 0 [B0] []),Mv 5 0,ic 6 (.app 1 true (.t 4) (.t 5)),iv 7 (.slit 1 1 [B0] [(0,.k (.int .u8 6))]),ic 8 (.app 1 true (.t 6) (.t 7)),Mv 3 8] (.seq (.blk 0 (.loop lB)) (Sr [Mv 16 3,Mv 17 3,iv 18 (.lenL (.t 17)),Bi 19 .sub 18 1,Mv 20 3,Mv 21 3,iv 22 (.lenL (.t 21)),Bi 23 .sub 22 1,Ia 24 20 23,Ld 25 24,iv 26 (.bin .add (.t 25) (.k (.int .u8 128))),Ia 27 16 19,Sx 27 26] (Sr [Mv 28 3,Mv 2 28] .ret))))
def xG:a8:=⟨29,qQ,[.tmp 2],none⟩
def iV:AC:=.seq (Sr [Mv 14 9,Bi 15 .lss 14 8] (Cd 15 .skip (.exit 0))) (.seq (.blk 1 (.seq (Sr [Mv 18 7,Bi 19 .rem 18 2,Mv 20 8,Bi 21 .rem 20 2,Bt 22 .neq 19 21] (Cd 22 (.reg [Mv 23 5,Mv 24 6,Bt 25 .add 23 24,Mv 5 25]) .skip)) (Sr [Mv 26 7,Bi 27 .quo 26 2,Mv 7 27] (Sr [Mv 28 8,Bi 29 .quo 28 2,Mv 8 29] (.reg [Mv 30 6,Bi 31 .mul 30 2,Mv 6 31]))))) (.reg [Mv 16 9,Bi 17 .add 16 1,Mv 9 17]))
def qR:AC:=Sr [iv 4 (.mv (.k (B0)))] (Sr [Mk 5 0] (Sr [Mk 6 1] (Sr [Mv 10 0,iv 11 (.i2i .i64 (.t 10)),Mv 12 1,iv 13 (.i2i .i64 (.t 12)),Mv 7 11,Mv 8 13] (.seq (Sr [Mk 9 0] (.blk 0 (.loop iV))) (Sr [Mv 32 5,iv 33 (.i2i .u8 (.t 32)),Mv 4 33] .ret)))))
def xH:a8:=⟨34,qR,[.tmp 4],none⟩
def et:AC:=.seq (Sr [Mv 15 6,Bi 16 .lss 15 8] (Cd 16 .skip (.exit 2))) (.seq (.blk 3 (Sr [Mv 19 3,Mv 20 5,iv 21 (.bin .rem (.t 20) (.k (.int .u64 256))),iv 22 (.i2i .u8 (.t 21)),iv 23 (.slit 1 1 [B0] [(0,.t 22)]),ic 24 (.app 1 true (.t 19) (.t 23)),Mv 3 24] (.reg [Mv 25 5,iv 26 (.bin .quo (.t 25) (.k (.int .u64 256))),Mv 5 26]))) (.reg [Mv 17 6,Bi 18 .add 17 1,Mv 6 18]))
def jP:AC:=.seq (Sr [Mv 8 4,Bi 9 .lss 8 25] (Cd 9 .skip (.exit 0))) (.seq (.blk 1 (Sr [Mv 12 4,iv 13 (.iadr (some 25) 1 (.t 1) (.t 12)),Ld 14 13,Mv 5 14] (Sr [Mk 6 0] (.blk 2 (.loop et))))) (.reg [Mv 10 4,Bi 11 .add 10 1,Mv 4 11]))
def oQ:AC:=Sr [iv 1 (.boxv (.t 0)),iv 2 (.mv (.k (.nsl)))] (Sr [iv 7 (.slit 1 0 [B0] []),Mv 3 7] (.seq (Sr [Mk 4 0] (.blk 0 (.loop jP))) (Sr [Mv 27 3,Mv 2 27] .ret)))
def uV:a8:=⟨28,oQ,[.tmp 2],none⟩
def dy:AC:=.seq (Sr [Mv 7 4,Bi 8 .lss 7 24] (Cd 8 .skip (.exit 0))) (.seq (.blk 1 (.reg [Lt 11 1600 3,Mv 12 4,Cr 13 kD [.t 11,.t 12],Sv 1600 3 13])) (.reg [Mv 9 4,Bi 10 .add 9 1,Mv 4 10]))
def my:AC:=Sr [iv 1 (.boxv (.t 0)),ic 2 (.alloc (aO (U0) 25))] (Sr [Lt 5 25 1,Cr 6 jr [.t 5],ic 3 (.alloc (aO (.bool false) 1600)),Sv 1600 3 6] (.seq (Sr [Mk 4 0] (.blk 0 (.loop dy))) (Sr [Lt 14 1600 3,Cr 15 kE [.t 14],Sv 25 2 15] .ret)))
def rW:a8:=⟨16,my,[.cell 2 25 true],none⟩
def b8:AC:=.seq (Sr [Mv 9 4,Bi 10 .geq 9 0] (Cd 10 .skip (.exit 0))) (.seq (.blk 1 (.draw [Dm 13 4,Dv 14 (.bin .quo (.t 13) (K0 8)) [13],Dm 15 4,Dv 16 (.bin .quo (.t 15) (K0 8)) [15],Dv 17 (.iadr (some 25) 1 (.t 3) (.t 16)) [3,16],Dl 18 17,Dv 19 (.bin .mul (.t 18) (.k (.int .u64 256))) [18],Dm 20 0,Dm 21 4,Dv 22 (.iadr none 1 (.t 20) (.t 21)) [20,21],Dl 23 22,Dv 24 (.i2i .u64 (.t 23)) [23],Dv 25 (.bin .add (.t 19) (.t 24)) [19,24],Dv 26 (.iadr (some 25) 1 (.t 3) (.t 14)) [3,14],Dn (.st 1 (.t 26) (.t 25)) [26,25]])) (.reg [Mv 11 4,Bi 12 .sub 11 1,Mv 4 12]))
def jn:AC:=Sr [ic 2 (.alloc (aO (U0) 25))] (Sr [iv 5 (.build (aO (U0) 25) []),ic 3 (.alloc (aO (U0) 25)),Sv 25 3 5] (.seq (Sr [Mv 6 0,iv 7 (.lenL (.t 6)),Bi 8 .sub 7 1,Mv 4 8] (.blk 0 (.loop b8))) (Sr [Lt 27 25 3,Sv 25 2 27] .ret)))
def rX:a8:=⟨28,jn,[.cell 2 25 true],none⟩
def dz:AC:=.seq (Sr [Mv 13 4,Bi 14 .geq 13 0] (Cd 14 .skip (.exit 0))) (.seq (.blk 1 (.draw [Dm 17 3,Dm 18 4,Dv 19 (.bin .quo (.t 18) (K0 4)) [18],Dm 20 3,Dm 21 4,Dv 22 (.bin .quo (.t 21) (K0 4)) [21],Dv 23 (.iadr none 1 (.t 20) (.t 22)) [20,22],Dl 24 23,Dv 25 (.bin .mul (.t 24) (.k (.int .u64 256))) [24],Dm 26 0,Dm 27 4,Dv 28 (.iadr none 1 (.t 26) (.t 27)) [26,27],Dl 29 28,Dv 30 (.i2i .u64 (.t 29)) [29],Dv 31 (.bin .add (.t 25) (.t 30)) [25,30],Dv 32 (.iadr none 1 (.t 17) (.t 19)) [17,19],Dn (.st 1 (.t 32) (.t 31)) [32,31]])) (.reg [Mv 15 4,Bi 16 .sub 15 1,Mv 4 16]))
def mA:AC:=Sr [iv 2 (.mv (.k (.nsl)))] (Sr [Mv 5 0,iv 6 (.lenL (.t 5)),Bi 7 .quo 6 4,Bi 8 .add 7 1,ic 9 (.mk 1 [U0] (.t 8)),Mv 3 9] (.seq (Sr [Mv 10 0,iv 11 (.lenL (.t 10)),Bi 12 .sub 11 1,Mv 4 12] (.blk 0 (.loop dz))) (Sr [Mv 33 3,Cr 34 eg [.t 33],Mv 2 34] .ret)))
def rY:a8:=⟨35,mA,[.tmp 2],none⟩
def d8:AC:=Sr [Mk 2 0] (.seq (Sr [Mv 3 0] (.blk 0 (Sr [Bi 5 .eql 3 1,Mv 4 5] (Cd 4 (Sr [Mk 2 1] .ret) (Sr [Bi 7 .eql 3 2,Mv 6 7] (Cd 6 (Sr [Mk 2 8] .ret) (Sr [Bi 9 .eql 3 3,Mv 8 9] (Cd 8 (Sr [Mk 2 32] .ret) (Sr [Bi 11 .eql 3 4,Mv 10 11] (Cd 10 (Sr [Mk 2 96] .ret) .skip)))))))))) (Sr [Mk 2 0] .ret))
def vW:a8:=⟨12,d8,[.tmp 2],none⟩
def lC:AC:=Sr [ic 2 (.box (.t 0)),Al 4 [.nsl,I0,I0],Mk 5 0] (.seq (Sr [Fa 6 2 2,Ld 7 6,Bi 8 .eql 7 0] (Cd 8 (.reg [Mv 9 1,Fa 10 2 2,Sx 10 9]) .skip)) (.seq (.draw [Dr 11 (.ld 3 true (.t 2)) [2] 0 0,Df 12 2 2,Dr 13 (.ld 1 false (.t 12)) [12] 0 1,Dn (.st 3 (.t 4) (.t 11)) [4,11],Dm 5 13]) .ret))
def vX:a8:=⟨14,lC,[.cell 4 3 true,.tmp 5],none⟩
def dh:AC:=Sr [ic 4 (.box (.t 0)),Al 8 [.nsl,I0,I0],Mk 9 0] (.seq (Sr [Fa 10 2 4,Ld 11 10,Bi 12 .neq 11 0] (Cd 12 (.seq (.draw [Dr 13 (.ld 3 true (.t 4)) [4] 0 0,Df 14 2 4,Dr 15 (.ld 1 false (.t 14)) [14] 0 1,Dn (.st 3 (.t 8) (.t 13)) [8,13],Dm 9 15]) .ret) .skip)) (.seq (Sr [Fa 16 1 4,Ld 17 16,Fa 18 0 4,Ld 19 18,iv 20 (.lenL (.t 19)),Bt 21 .geq 17 20,Mv 22 21,Gv 23 (.fadr 0 (.t 4)) 22 false [],Gr 24 (.ld 1 false (.t 23)) 22 false [] 0 0,Gv 25 (.fadr 1 (.t 4)) 22 false [],Gr 26 (.ld 1 false (.t 25)) 22 false [] 0 0,Gv 27 (.iadr none 4 (.t 24) (.t 26)) 22 false [],Gv 28 (.fadr 0 (.t 27)) 22 false [],Gr 29 (.ld 1 false (.t 28)) 22 false [] 0 0,Gv 30 (.mv (.t 1)) 22 false [],Gv 31 (.bin .neq (.t 29) (.t 30)) 22 false [],iv 32 (.pick (.t 22) (.k (.bool true)) (.t 31)),Mv 33 32,Gv 34 (.fadr 0 (.t 4)) 33 false [],Gr 35 (.ld 1 false (.t 34)) 33 false [] 0 0,Gv 36 (.fadr 1 (.t 4)) 33 false [],Gr 37 (.ld 1 false (.t 36)) 33 false [] 0 0,Gv 38 (.iadr none 4 (.t 35) (.t 37)) 33 false [],Gv 39 (.fadr 1 (.t 38)) 33 false [],Gr 40 (.ld 1 false (.t 39)) 33 false [] 0 0,Gv 41 (.mv (.t 2)) 33 false [],Gv 42 (.bin .neq (.t 40) (.t 41)) 33 false [],iv 43 (.pick (.t 33) (.k (.bool true)) (.t 42)),Mv 44 43,Gv 45 (.fadr 0 (.t 4)) 44 false [],Gr 46 (.ld 1 false (.t 45)) 44 false [] 0 0,Gv 47 (.fadr 1 (.t 4)) 44 false [],Gr 48 (.ld 1 false (.t 47)) 44 false [] 0 0,Gv 49 (.iadr none 4 (.t 46) (.t 48)) 44 false [],Gv 50 (.fadr 2 (.t 49)) 44 false [],Gr 51 (.ld 1 false (.t 50)) 44 false [] 0 0,Gv 52 (.mv (.t 3)) 44 false [],Gv 53 (.bin .neq (.t 51) (.t 52)) 44 false [],iv 54 (.pick (.t 44) (.k (.bool true)) (.t 53))] (Cd 54 (Sr [Fa 55 2 4,jc (.st 1 (.t 55) (K0 10))] (Sr [Lt 56 3 4,Sv 3 8 56,Mk 9 10] .ret)) .skip)) (Sr [Fa 57 1 4,Ld 58 57,Bi 59 .add 58 1,Fa 60 1 4,Sx 60 59] (Sr [Lt 61 3 4,Sv 3 8 61,Mk 9 0] .ret))))
def vY:a8:=⟨62,dh,[.cell 8 3 true,.tmp 9],none⟩
def lD:AC:=Sr [iv 2 (.mv (.k (.nsl))),Mk 3 0] (.seq (Sr [Mv 5 0,iv 6 (.lenL (.t 5)),Bi 7 .neq 6 32] (Cd 7 (Sr [iv 2 (.mv (.k (.nsl))),Mk 3 1] .ret) .skip)) (Sr [Mv 8 0,Cr 9 cH [.t 8],Mv 4 9] (.seq (Sr [Mv 10 4,Cr 11 mj [],Cr 12 ff [.t 10,.t 11],Bi 13 .geq 12 0] (Cd 13 (Sr [iv 2 (.mv (.k (.nsl))),Mk 3 4] .ret) .skip)) (Sr [Mv 14 4,Mv 2 14,Mk 3 0] .ret))))
def vZ:a8:=⟨15,lD,[.tmp 2,.tmp 3],none⟩
def fE:AC:=Sr [iv 2 (.mv (.k (.nsl))),Mk 3 0] (Sr [Mv 7 0,Cr 8 lJ [.k (.bool true),.t 7],Mv 6 8,Ex 9 6 0,Ex 10 6 1,Mv 4 9,Mv 5 10] (.seq (Sr [Mv 11 5,Bi 12 .neq 11 0] (Cd 12 (Sr [Mv 13 5,iv 2 (.mv (.k (.nsl))),Mv 3 13] .ret) .skip)) (.seq (Sr [Mv 14 4,iv 15 (.lenL (.t 14)),Bi 16 .eql 15 0,Mv 17 16,Gv 18 (.mv (.t 4)) 17 false [],Gr 19 (.call eu [.t 18]) 17 false [] 0 0,Gv 20 (.un .not (.t 19)) 17 false [],iv 21 (.pick (.t 17) (.k (.bool true)) (.t 20))] (Cd 21 (Sr [iv 2 (.mv (.k (.nsl))),Mk 3 4] .ret) .skip)) (Sr [Mv 22 4,Mv 2 22,Mk 3 0] .ret))))
def v6:a8:=⟨23,fE,[.tmp 2,.tmp 3],none⟩
def bG:AC:=.seq (Sr [Mv 11 5,Mv 12 1,iv 13 (.lenL (.t 12)),Bt 14 .lss 11 13] (Cd 14 .skip (.exit 0))) (.seq (.blk 1 (.seq (Sr [Fa 17 1 2,Ld 18 17,Bi 19 .eql 18 136] (Cd 19 (Sr [Lt 20 4 2,Ca 21 cC [.t 20],Sv 4 2 21] (.reg [Fa 22 1 2,jc (.st 1 (.t 22) (K0 0))])) .skip)) (.seq (.draw [Df 23 0 2,Dl 24 23,Df 25 1 2,Dl 26 25,Dm 27 1,Dm 28 5,Dv 29 (.iadr none 1 (.t 27) (.t 28)) [27,28],Dl 30 29,Dv 31 (.iadr none 1 (.t 24) (.t 26)) [24,26],Dn (.st 1 (.t 31) (.t 30)) [31,30]]) (Sr [Fa 32 1 2,Ld 33 32,Bi 34 .add 33 1,Fa 35 1 2,Sx 35 34] (.reg [Fa 36 2 2,jc (.st 1 (.t 36) (K0 136))]))))) (.reg [Mv 15 5,Bi 16 .add 15 1,Mv 5 16]))
def kh:AC:=Sr [ic 2 (.box (.t 0)),Al 4 [.nsl,I0,I0,I0]] (Sr [iv 6 (.slit 1 0 [B0] []),Fa 7 0 2,Ld 8 7,ic 9 (.app 1 true (.t 6) (.t 8)),Fa 10 0 2,Sx 10 9] (.seq (Sr [Mk 5 0] (.blk 0 (.loop bG))) (Sr [Lt 37 4 2,Sv 4 4 37] .ret)))
def ph:a8:=⟨38,kh,[.cell 4 4 true],none⟩
def jo:AC:=Sr [iv 1 (.boxv (.t 0)),iv 2 (.mv (.k (.nsl)))] (.seq (Sr [Lt 4 4 1,Cr 5 kF [.t 4],iv 6 (.un .not (.t 5))] (Cd 6 (Sr [iv 2 (.mv (.k (.nsl)))] .ret) .skip)) (.seq (.draw [Df 7 0 1,Dl 8 7,Dc 9 (.call aY [.t 8,K0 1]) [8],Df 10 1 1,Dr 11 (.ld 1 false (.t 10)) [10] 0 1,Dc 12 (.call aY [.t 11,K0 1]) [11],Dc 13 (.app 1 false (.t 9) (.t 12)) [9,12],Dm 3 13]) (.seq (.draw [Dm 14 3,Df 15 2 1,Dl 16 15,Dc 17 (.call aY [.t 16,K0 4]) [16],Dc 18 (.app 1 false (.t 14) (.t 17)) [14,17],Df 19 3 1,Dr 20 (.ld 1 false (.t 19)) [19] 0 2,Dc 21 (.app 1 false (.t 18) (.t 20)) [18,20],Dm 2 21]) .ret)))
def rZ:a8:=⟨22,jo,[.tmp 2],none⟩
def ki:AC:=Sr [ic 1 (.box (.t 0)),Al 2 [.nsl,I0,I0,I0]] (Sr [Fa 3 0 1,Ld 4 3,Cr 5 cG [.t 4],Cr 6 fB [.t 5],Ca 7 fh [.t 6],Fa 8 0 1,Sx 8 7] (Sr [Fa 9 3 1,Ld 10 9,Bi 11 .add 10 1,Fa 12 3 1,Sx 12 11] (Sr [Lt 13 4 1,Sv 4 2 13] .ret)))
def pi:a8:=⟨14,ki,[.cell 2 4 true],none⟩
def nH:AC:=Sr [iv 2 (.mv (.k (.nsl)))] (Sr [iv 4 (.slit 1 0 [B0] []),Mv 5 0,ic 6 (.app 1 true (.t 4) (.t 5)),Mv 3 6] (Sr [Mv 7 3,Mv 8 3,iv 9 (.iadr none 1 (.t 8) (K0 31)),Ld 10 9,iv 11 (.bin .rem (.t 10) (.k (.int .u8 64))),iv 12 (.iadr none 1 (.t 7) (K0 31)),Sx 12 11] (Sr [Mv 13 3,Cr 14 cH [.t 13],Mv 2 14] .ret)))
def tV:a8:=⟨15,nH,[.tmp 2],none⟩
def jy:AC:=Sr [Bt 13 .lss 12 11] (.seq (Cd 13 .skip (.exit 0)) (.seq (.blk 1 (Sr [Mv 14 12,Ia 15 10 12,Ld 16 15,Mv 6 14,Mv 7 16] (.reg [Mv 17 5,Mv 18 7,iv 19 (.i2i .i64 (.t 18)),Mv 20 6,iv 21 (.bin .mul (K0 8) (.t 20)),Bt 22 .shl 19 21,Bt 23 .or 17 22,Mv 5 23]))) (.reg [Bi 24 .add 12 1,Mv 12 24])))
def nJ:AC:=Sr [Mk 4 0] (Sr [Mk 5 0] (.seq (Sr [Mv 8 0,Mv 9 1,Ca 10 iX [.t 8,.t 9],iv 11 (.lenL (.t 10)),Mk 12 0] (.blk 0 (.loop jy))) (Sr [Mv 25 5,Mv 4 25] .ret)))
def tW:a8:=⟨26,nJ,[.tmp 4],none⟩
def lK:AC:=Sr [iv 4 (.mv (.k (.nsl)))] (.seq (Sr [Mv 6 0,Nk 7 6,Fa 8 0 7,Ld 9 8,iv 10 (.lenL (.t 9)),Mv 11 1,Bt 12 .lss 10 11] (Cd 12 (Sr [Mv 13 0,Nk 14 13,Fa 15 1 14,jc (.st 1 (.t 15) (.k (.bool true)))] (.reg [Mk 1 0])) .skip)) (Sr [Mv 16 0,Nk 17 16,Fa 18 0 17,Ld 19 18,Mv 20 1,Mv 21 1,iv 22 (.slice .slc 1 (.t 19) none (some (.t 20)) (some (.t 21))),Mv 5 22] (Sr [Mv 23 0,Mv 24 0,Nk 25 24,Fa 26 0 25,Ld 27 26,Mv 28 1,iv 29 (.slice .slc 1 (.t 27) (some (.t 28)) none none),Nk 30 23,Fa 31 0 30,Sx 31 29] (Sr [Mv 32 5,Mv 4 32] .ret))))
def ww:a8:=⟨33,lK,[.tmp 4],none⟩
def Bs:AC:=Sr [iv 1 (.boxv (.t 0)),Mk 2 0] (Sr [Fa 6 0 1,Ld 7 6,Cr 8 vx [.t 7],Mv 5 8,Ex 9 5 0,Ex 10 5 1,Mv 3 9,Mv 4 10] (.seq (.blk 0 (Sr [Mv 12 3,iv 13 (.lenL (.t 12)),Bi 14 .eql 13 0,Mv 11 14] (Cd 11 (Sr [Mk 2 5] .ret) (Sr [Mv 16 3,Fa 17 1 1,Ld 18 17,Cr 19 fS [.t 16,.t 18],iv 20 (.un .not (.t 19)),Mv 15 20] (Cd 15 (Sr [Mk 2 6] .ret) (Sr [Fa 22 2 1,Ld 23 22,Bi 24 .lss 23 1,Mv 25 24,Gv 26 (.fadr 2 (.t 1)) 25 false [],Gr 27 (.ld 1 false (.t 26)) 25 false [] 0 0,Gv 28 (.mv (.t 4)) 25 false [],Gv 29 (.bin .gtr (.t 27) (.t 28)) 25 false [],iv 30 (.pick (.t 25) (.k (.bool true)) (.t 29)),Mv 21 30] (Cd 21 (Sr [Mk 2 7] .ret) (Sr [Fa 32 3 1,Ld 33 32,iv 34 (.lenS (.t 33)),Bi 35 .gtr 34 255,Mv 31 35] (Cd 31 (Sr [Mk 2 8] .ret) .skip))))))))) (Sr [Mk 2 0] .ret)))
def IF:a8:=⟨36,Bs,[.tmp 2],none⟩
def zL:AC:=Sr [iv 5 (.slit 1 0 [B0] []),Mv 6 0,ic 7 (.app 1 false (.t 5) (.t 6)),Mv 2 7] .ret
def qo:a8:=⟨8,zL,[.tmp 2],some (.reg [iv 2 (.mv (.k (.nsl)))],3,4,.cond (.t 4)
 (.seq (.reg [iv 2 (.mv (.k (.nsl)))])
 (.ret))
 (.skip))⟩
def ge:AC:=Sr [Bt 10 .lss 9 8] (.seq (Cd 10 .skip (.exit 0)) (.seq (.blk 1 (Sr [Mv 11 9,Mv 7 11] (.reg [Mv 12 0,Mv 13 1,Mv 14 7,iv 15 (.bin .mul (K0 8) (.t 14)),Bt 16 .shr 13 15,iv 17 (.i2i .u8 (.t 16)),iv 18 (.slit 1 1 [B0] [(0,.t 17)]),ic 19 (.app 1 false (.t 12) (.t 18)),Mv 0 19]))) (.reg [Bi 20 .add 9 1,Mv 9 20])))
def tp:AC:=Sr [iv 6 (.mv (.k (.nsl)))] (.seq (Sr [Mv 8 2,Mk 9 0] (.blk 0 (.loop ge))) (Sr [Mv 21 0,Mv 6 21] .ret))
def GS:a8:=⟨22,tp,[.tmp 6],none⟩
def qY:AC:=.draw [Dm 6 0,Dm 7 1,Dv 8 (.bin .quo (.t 7) (K0 8)) [7],Dk 9 6,Df 10 0 9,Dv 11 (.iadr (some 25) 1 (.t 10) (.t 8)) [10,8],Dl 12 11,Dm 13 2,Dv 14 (.i2i .u64 (.t 13)) [13],Dm 15 1,Dv 16 (.bin .rem (.t 15) (K0 8)) [15],Dv 17 (.bin .mul (K0 8) (.t 16)) [16],Dv 18 (.bin .shl (.t 14) (.t 17)) [14,17],Dv 19 (.bin .xor (.t 12) (.t 18)) [12,18],Dk 20 6,Df 21 0 20,Dv 22 (.iadr (some 25) 1 (.t 21) (.t 8)) [21,8],Dn (.st 1 (.t 22) (.t 19)) [22,19]]
def xP:a8:=⟨23,qY,[],none⟩
def cU:AC:=Sr [Bi 5 .lss 4 24] (.seq (Cd 5 .skip (.exit 0)) (.seq (.blk 1 (Sr [Mv 6 4,Mv 3 6] (.reg [Lt 7 25 1,Mv 8 3,Cr 9 jV [.t 7,.t 8],Sv 25 1 9]))) (.reg [Bi 10 .add 4 1,Mv 4 10])))
def lL:AC:=Sr [ic 1 (.box (.t 0)),ic 2 (.alloc (aO (U0) 25))] (.seq (Sr [Mk 4 0] (.blk 0 (.loop cU))) (Sr [Lt 11 25 1,Sv 25 2 11] .ret))
def qZ:a8:=⟨12,lL,[.cell 2 25 true],none⟩
def nL:AC:=Sr [ic 1 (.box (.t 0)),ic 2 (.alloc (aO (B0) 200))] (Sr [iv 3 (.slice (.arr 25) 1 (.t 1) none none none),Cr 4 rQ [.t 3],iv 5 (.s2a 200 (.t 4)),Lt 6 200 5,Sv 200 2 6] .ret)
def tY:a8:=⟨7,nL,[.cell 2 200 true],none⟩
def yQ:AC:=Sr [ic 0 (.alloc (aO (U0) 4))] (Sr [iv 1 (.build (aO (U0) 4) [(0,1,.k (.int .u64 4891460686036598785)),(1,1,.k (.int .u64 2896914383306846353)),(2,1,.k (.int .u64 13281191951274694749)),(3,1,.k (.int .u64 3486998266802970665))]),Sv 4 0 1] .ret)
def GV:a8:=⟨2,yQ,[.cell 0 4 true],none⟩
def jZ:AC:=Sr [Bi 46 .lss 45 6] (.seq (Cd 46 .skip (.exit 0)) (.seq (.blk 1 (.reg [Mv 47 5,Mv 48 0,iv 49 (.iadr none 1 (.t 48) (K0 0)),Ld 50 49,Mv 51 5,Bt 52 .mul 50 51,iv 53 (.bin .sub (.k (.int .u64 2)) (.t 52)),Bt 54 .mul 47 53,Mv 5 54])) (.reg [Bi 55 .add 45 1,Mv 45 55])))
def qp:AC:=Sr [Bt 76 .lss 75 74] (.seq (Cd 76 .skip (.exit 2)) (.seq (.blk 3 (.reg [Mv 77 4,Mv 78 4,Mv 79 4,Nk 80 79,Fa 81 2 80,Ld 82 81,Cr 83 fZ [.t 78,.t 82,.k (U0)],Nk 84 77,Fa 85 2 84,Sx 85 83])) (.reg [Bi 86 .add 75 1,Mv 75 86])))
def Hx:AC:=Sr [iv 2 (.mv (.k (.nilp))),Mk 3 0] (.seq (Sr [Mv 6 0,iv 7 (.lenL (.t 6)),Bi 8 .lss 7 1,Mv 9 8,Gv 10 (.mv (.t 0)) 9 false [],Gv 11 (.lenL (.t 10)) 9 false [],Gv 12 (.bin .gtr (.t 11) (K0 16)) 9 false [],iv 13 (.pick (.t 9) (.k (.bool true)) (.t 12)),Mv 14 13,Gv 15 (.mv (.t 0)) 14 false [],Gv 16 (.iadr none 1 (.t 15) (K0 0)) 14 false [],Gr 17 (.ld 1 false (.t 16)) 14 false [] 0 0,Gv 18 (.bin .and (.t 17) (.k (.int .u64 1))) 14 false [],Gv 19 (.bin .eql (.t 18) (.k (U0))) 14 false [],iv 20 (.pick (.t 14) (.k (.bool true)) (.t 19)),Mv 21 20,Gv 22 (.mv (.t 0)) 21 false [],Gv 23 (.mv (.t 0)) 21 false [],Gv 24 (.lenL (.t 23)) 21 false [],Gv 25 (.bin .sub (.t 24) (K0 1)) 21 false [],Gv 26 (.iadr none 1 (.t 22) (.t 25)) 21 false [],Gr 27 (.ld 1 false (.t 26)) 21 false [] 0 0,Gv 28 (.bin .eql (.t 27) (.k (U0))) 21 false [],iv 29 (.pick (.t 21) (.k (.bool true)) (.t 28)),Mv 30 29,Gv 31 (.mv (.t 0)) 30 false [],Gv 32 (.lenL (.t 31)) 30 false [],Gv 33 (.bin .eql (.t 32) (K0 1)) 30 false [],Gv 34 (.mv (.t 33)) 30 false [],Gv 35 (.mv (.t 0)) 34 true [],Gv 36 (.iadr none 1 (.t 35) (K0 0)) 34 true [],Gr 37 (.ld 1 false (.t 36)) 34 true [] 0 0,Gv 38 (.bin .eql (.t 37) (.k (.int .u64 1))) 34 true [],Gv 39 (.pick (.t 34) (.t 38) (.k (.bool false))) 30 false [],iv 40 (.pick (.t 30) (.k (.bool true)) (.t 39))] (Cd 40 (Sr [iv 2 (.mv (.k (.nilp))),Mk 3 1] .ret) .skip)) (Sr [Mv 41 0,Cr 42 cM [.t 41],Bu 43 [.nsl,U0,.nsl] [(0,1,.t 42)],ic 44 (.box (.t 43)),Mv 4 44] (Sr [iv 5 (.mv (.k (.int .u64 1)))] (.seq (Sr [Mk 45 0] (.blk 0 (.loop jZ))) (Sr [Mv 56 4,Mv 57 5,iv 58 (.un .neg (.t 57)),Nk 59 56,Fa 60 1 59,Sx 60 58] (Sr [Mv 61 4,Mv 62 0,iv 63 (.lenL (.t 62)),ic 64 (.mk 1 [U0] (.t 63)),Nk 65 61,Fa 66 2 65,Sx 66 64] (Sr [Mv 67 4,Nk 68 67,Fa 69 2 68,Ld 70 69,iv 71 (.iadr none 1 (.t 70) (K0 0)),jc (.st 1 (.t 71) (.k (.int .u64 1)))] (.seq (Sr [Mv 72 0,iv 73 (.lenL (.t 72)),iv 74 (.bin .mul (K0 128) (.t 73)),Mk 75 0] (.blk 2 (.loop qp))) (Sr [Mv 87 4,Mv 2 87,Mk 3 0] .ret)))))))))
def NI:a8:=⟨88,Hx,[.tmp 2,.tmp 3],none⟩
def kZ:AC:=Sr [Bi 6 .lss 5 512] (.seq (Cd 6 .skip (.exit 0)) (.seq (.blk 1 (.reg [Lt 7 4 3,Lt 8 4 3,Cr 9 vy [.t 7,.t 8],Cr 10 pn [.t 9],Sv 4 3 10])) (.reg [Bi 11 .add 5 1,Mv 5 11])))
def yR:AC:=Sr [iv 1 (.boxv (.t 0)),ic 2 (.alloc (aO (U0) 4))] (Sr [iv 4 (.build (aO (U0) 4) [(0,1,.k (.int .u64 1))]),ic 3 (.alloc (aO (U0) 4)),Sv 4 3 4] (.seq (Sr [Mk 5 0] (.blk 0 (.loop kZ))) (Sr [Lt 12 4 1,Lt 13 4 3,Cr 14 mi [.t 12,.t 13],iv 15 (.build (aO (U0) 4) [(0,4,.t 14)]),Sv 4 2 15] .ret)))
def GW:a8:=⟨16,yR,[.cell 2 4 true],none⟩
def iy:AC:=.seq (Sr [Mv 16 6,Bi 17 .geq 16 0] (Cd 17 .skip (.exit 0))) (.seq (.blk 1 (.reg [Mv 20 0,Mv 21 5,Mv 22 1,Mv 23 6,Bi 24 .quo 23 64,Ia 25 22 24,Ld 26 25,Mv 27 6,Bi 28 .rem 27 64,Bt 29 .shr 26 28,iv 30 (.bin .and (.t 29) (.k (.int .u64 1))),Cr 31 fZ [.t 20,.t 21,.t 30],Mv 5 31])) (.reg [Mv 18 6,Bi 19 .sub 18 1,Mv 6 19]))
def mD:AC:=Sr [iv 4 (.mv (.k (.nsl)))] (Sr [Mv 7 0,Nk 8 7,Fa 9 0 8,Ld 10 9,iv 11 (.lenL (.t 10)),ic 12 (.mk 1 [U0] (.t 11)),Mv 5 12] (.seq (Sr [Mv 13 1,Cr 14 tS [.t 13],Bi 15 .sub 14 1,Mv 6 15] (.blk 0 (.loop iy))) (Sr [Mv 32 5,Mv 4 32] .ret)))
def sf:a8:=⟨33,mD,[.tmp 4],none⟩
def mq:AC:=Sr [Bt 14 .lss 13 12] (.seq (Cd 14 .skip (.exit 0)) (.seq (.blk 1 (Sr [Mv 15 13,Ia 16 11 13,Ld 17 16,Mv 4 15,Mv 5 17] (.draw [Dm 18 3,Dm 19 4,Dv 20 (.bin .quo (.t 19) (K0 8)) [19],Dv 21 (.iadr none 1 (.t 18) (.t 20)) [18,20],Dl 22 21,Dm 23 5,Dv 24 (.i2i .u64 (.t 23)) [23],Dm 25 4,Dv 26 (.bin .rem (.t 25) (K0 8)) [25],Dv 27 (.bin .mul (K0 8) (.t 26)) [26],Dv 28 (.bin .shl (.t 24) (.t 27)) [24,27],Dv 29 (.bin .or (.t 22) (.t 28)) [22,28],Dv 30 (.iadr none 1 (.t 18) (.t 20)) [18,20],Dn (.st 1 (.t 30) (.t 29)) [30,29]]))) (.reg [Bi 31 .add 13 1,Mv 13 31])))
def BA:AC:=Sr [iv 2 (.mv (.k (.nsl)))] (Sr [Mv 6 0,iv 7 (.lenL (.t 6)),Bi 8 .add 7 7,Bi 9 .quo 8 8,ic 10 (.mk 1 [U0] (.t 9)),Mv 3 10] (.seq (Sr [Mv 11 0,iv 12 (.lenL (.t 11)),Mk 13 0] (.blk 0 (.loop mq))) (Sr [Mv 32 3,Mv 2 32] .ret)))
def IL:a8:=⟨33,BA,[.tmp 2],none⟩
def Ek:AC:=Sr [ic 2 (.box (.t 0)),ic 3 (.box (.t 1)),iv 4 (.mv (.k (.bool false)))] (Sr [Fa 5 3 2,jc (.st 1 (.t 5) (.k (.str ⟨#[]⟩))),Fa 6 3 3,jc (.st 1 (.t 6) (.k (.str ⟨#[]⟩)))] (Sr [Lt 7 4 2,Lt 8 4 3,iv 9 (.eq (.agg [.i,.i,.i,.s]) false (.t 7) (.t 8)),Mv 4 9] .ret))
def Lc:a8:=⟨10,Ek,[.tmp 4],none⟩
def mZ:AC:=Sr [Mk 2 0] (Sr [Mv 6 0,Cr 7 gx [.t 6],Mv 5 7,Ex 8 5 0,Ex 9 5 1,ic 3 (.alloc (aO (U0) 4)),Sv 4 3 8,Mv 4 9] (Sr [Mv 10 4,Mv 2 10] .ret))
def xS:a8:=⟨11,mZ,[.tmp 2],none⟩
def m5:AC:=Sr [ic 2 (.alloc (aO (U0) 4)),Mk 3 0] (.seq (Sr [Mv 7 0,iv 8 (.lenL (.t 7)),Bi 9 .neq 8 32] (Cd 9 (Sr [iv 10 (.build (aO (U0) 4) []),Sv 4 2 10,Mk 3 1] .ret) .skip)) (Sr [Mv 11 0,Cr 12 oi [.t 11],iv 13 (.s2a 4 (.t 12)),Lt 14 4 13,ic 4 (.alloc (aO (U0) 4)),Sv 4 4 14] (.seq (.seq (.draw [Dr 16 (.ld 4 true (.t 4)) [4] 0 1,Dr 17 (.call kj []) [] 0 1,Dr 18 (.call nE [.t 16,.t 17]) [16,17] 0 1,Dm 15 18,Dv 19 (.ext (.t 15) 0) [15],Dv 20 (.ext (.t 15) 1) [15],ic 5 (.alloc (aO (U0) 4)),Dn (.st 4 (.t 5) (.t 19)) [5,19],Dm 6 20]) (Sr [Mv 21 6,iv 22 (.bin .eql (.t 21) (.k (U0)))] (Cd 22 (Sr [iv 23 (.build (aO (U0) 4) []),Sv 4 2 23,Mk 3 4] .ret) .skip))) (Sr [Lt 24 4 4,Cr 25 tj [.t 24],Sv 4 2 25,Mk 3 0] .ret))))
def xV:a8:=⟨26,m5,[.cell 2 4 true,.tmp 3],none⟩
def rc:AC:=Sr [Mk 2 0] (Sr [Mv 6 0,Cr 7 vv [.t 6],Mv 5 7,Ex 8 5 0,Ex 9 5 1,ic 3 (.alloc (aO (U0) 12)),Sv 12 3 8,Mv 4 9] (Sr [Mv 10 4,Mv 2 10] .ret))
def xW:a8:=⟨11,rc,[.tmp 2],none⟩
def oq:AC:=Sr [ic 2 (.alloc (aO (U0) 12)),Mk 3 0] (Sr [Cr 7 vI [],Mv 4 7] (Sr [Mv 9 4,Mv 10 0,Cr 11 ox [.t 9,.t 10],Mv 8 11,Ex 12 8 0,Ex 13 8 1,ic 5 (.alloc (aO (U0) 12)),Sv 12 5 12,Mv 6 13] (.seq (.blk 0 (Sr [Mv 15 6,Bi 16 .neq 15 0,Mv 14 16] (Cd 14 (Sr [iv 17 (.build (aO (U0) 12) []),Mv 18 6,Sv 12 2 17,Mv 3 18] .ret) (.seq (.draw [Dm 20 4,Dr 21 (.ld 12 true (.t 5)) [5] 0 0,Cr 22 oy [],Dr 23 (.call oz [.t 22]) [22] 0 0,Dr 24 (.call pK [.t 20,.t 21,.t 23]) [20,21,23] 0 0,Cr 25 yj [],Dv 26 (.fld 0 12 true (.t 25)) [25],Dv 27 (.eq (.agg (aO .i 12)) true (.t 24) (.t 26)) [24,26],Dm 19 27]) (Cd 19 (Sr [iv 28 (.build (aO (U0) 12) []),Sv 12 2 28,Mk 3 4] .ret) .skip))))) (Sr [Lt 29 12 5,iv 30 (.build (aO (U0) 12) [(0,12,.t 29)]),Sv 12 2 30,Mk 3 0] .ret))))
def IR:a8:=⟨31,oq,[.cell 2 12 true,.tmp 3],none⟩
def iQ:AC:=Sr [Bi 6 .lss 5 6] (.seq (Cd 6 .skip (.exit 0)) (.seq (.blk 1 (.reg [Mv 7 2,Mv 8 1,Mv 9 2,Bt 10 .mul 8 9,iv 11 (.bin .sub (.k (.int .u64 2)) (.t 10)),Bt 12 .mul 7 11,Mv 2 12])) (.reg [Bi 13 .add 5 1,Mv 5 13])))
def uH:AC:=Sr [iv 0 (.mv (.k (U0)))] (Sr [Cr 3 kj [],iv 4 (.idxA 4 1 false (.t 3) (K0 0)),Mv 1 4,iv 2 (.mv (.k (.int .u64 1)))] (.seq (Sr [Mk 5 0] (.blk 0 (.loop iQ))) (Sr [Mv 14 2,iv 15 (.un .neg (.t 14)),Mv 0 15] .ret)))
def CC:a8:=⟨16,uH,[.tmp 0],none⟩
def BC:AC:=Sr [iv 8 (.mv (.k (U0))),iv 9 (.mv (.k (U0)))] (Sr [Mv 14 1,Mv 15 2,Cr 16 j4 [.t 14,.t 15],Mv 13 16,Ex 17 13 0,Ex 18 13 1,Mv 10 17,Mv 11 18] (Sr [Mv 20 11,Mv 21 0,Ca 22 bU [.t 20,.t 21,.k (U0)],Mv 19 22,Ex 23 19 0,Ex 24 19 1,Mv 11 23,Mv 12 24] (Sr [Mv 25 10,Mv 26 12,Bt 27 .add 25 26,Mv 10 27] (Sr [Mv 29 11,Mv 30 3,Ca 31 bU [.t 29,.t 30,.k (U0)],Mv 28 31,Ex 32 28 0,Ex 33 28 1,Mv 11 32,Mv 12 33] (Sr [Mv 34 11,Mv 35 10,Mv 36 12,Bt 37 .add 35 36,Mv 8 34,Mv 9 37] .ret)))))
def IV:a8:=⟨38,BC,[.tmp 8,.tmp 9],none⟩
def tu:AC:=Sr [iv 1 (.boxv (.t 0)),ic 2 (.alloc (aO (U0) 4))] (.seq (.seq (.draw [Dr 6 (.ld 4 true (.t 1)) [1] 0 1,Dr 7 (.call kj []) [] 0 1,Dr 8 (.call nE [.t 6,.t 7]) [6,7] 0 1,Dm 5 8,Dv 9 (.ext (.t 5) 0) [5],Dv 10 (.ext (.t 5) 1) [5],ic 3 (.alloc (aO (U0) 4)),Dn (.st 4 (.t 3) (.t 9)) [3,9],Dm 4 10]) (Sr [Mv 11 4,iv 12 (.bin .eql (.t 11) (.k (U0)))] (Cd 12 (Sr [Lt 13 4 3,Sv 4 2 13] .ret) .skip))) (Sr [Lt 14 4 1,Sv 4 2 14] .ret))
def GX:a8:=⟨15,tu,[.cell 2 4 true],none⟩
def bW:AC:=Sr [Mk 2 0] (.seq (Sr [Mv 3 0,iv 4 (.bin .geq (.t 3) (.k (.int .u64 4294967296)))] (Cd 4 (Sr [Mv 5 0,iv 6 (.bin .shr (.t 5) (.k (.int .u64 32))),Mv 0 6] (.reg [Mk 2 32])) .skip)) (.seq (Sr [Mv 7 0,iv 8 (.bin .geq (.t 7) (.k (.int .u64 65536)))] (Cd 8 (Sr [Mv 9 0,iv 10 (.bin .shr (.t 9) (.k (.int .u64 16))),Mv 0 10] (.reg [Mv 11 2,Bi 12 .add 11 16,Mv 2 12])) .skip)) (.seq (Sr [Mv 13 0,iv 14 (.bin .geq (.t 13) (.k (.int .u64 256)))] (Cd 14 (Sr [Mv 15 0,iv 16 (.bin .shr (.t 15) (.k (.int .u64 8))),Mv 0 16] (.reg [Mv 17 2,Bi 18 .add 17 8,Mv 2 18])) .skip)) (Sr [Mv 19 2,Mv 20 0,iv 21 (.i2i .u8 (.t 20)),iv 22 (.idxS (.k (.str zfB)) (.t 21)),iv 23 (.i2i .i64 (.t 22)),Bt 24 .add 19 23,Mv 2 24] .ret))))
def x6:a8:=⟨25,bW,[.tmp 2],none⟩
def m6:AC:=.seq (Sr [Mv 8 4,Bi 9 .geq 8 0] (Cd 9 .skip (.exit 0))) (.seq (.blk 1 (.reg [Mv 12 3,Bi 13 .mul 12 256,Mv 14 0,Mv 15 4,Ia 16 14 15,Ld 17 16,iv 18 (.i2i .i64 (.t 17)),Bt 19 .add 13 18,Mv 3 19])) (.reg [Mv 10 4,Bi 11 .sub 10 1,Mv 4 11]))
def sR:AC:=Sr [Mk 2 0] (Sr [Mk 3 0] (.seq (Sr [Mv 5 0,iv 6 (.lenL (.t 5)),Bi 7 .sub 6 1,Mv 4 7] (.blk 0 (.loop m6))) (Sr [Mv 20 3,Mv 2 20] .ret)))
def zU:a8:=⟨21,sR,[.tmp 2],none⟩
def au:AC:=Sr [iv 1 (.boxv (.t 0)),Mk 2 0] (.seq (Sr [Fa 3 0 1,Ld 4 3,Bi 5 .lss 4 1,Mv 6 5,Gv 7 (.fadr 0 (.t 1)) 6 false [],Gr 8 (.ld 1 false (.t 7)) 6 false [] 0 0,Gv 9 (.bin .gtr (.t 8) (K0 3)) 6 false [],iv 10 (.pick (.t 6) (.k (.bool true)) (.t 9))] (Cd 10 (Sr [Mk 2 5] .ret) .skip)) (.seq (Sr [Fa 11 0 1,Ld 12 11,Bi 13 .eql 12 1,Mv 14 13,Gv 15 (.fadr 1 (.t 1)) 14 true [],Gr 16 (.ld 1 false (.t 15)) 14 true [] 0 0,Gv 17 (.bin .lss (.t 16) (K0 1)) 14 true [],Gv 18 (.mv (.t 17)) 14 true [],Gv 19 (.fadr 1 (.t 1)) 18 false [],Gr 20 (.ld 1 false (.t 19)) 18 false [] 0 0,Gv 21 (.bin .gtr (.t 20) (K0 4)) 18 false [],Gv 22 (.pick (.t 18) (.k (.bool true)) (.t 21)) 14 true [],iv 23 (.pick (.t 14) (.t 22) (.k (.bool false))),Mv 24 23,Gv 25 (.fadr 0 (.t 1)) 24 false [],Gr 26 (.ld 1 false (.t 25)) 24 false [] 0 0,Gv 27 (.bin .eql (.t 26) (K0 2)) 24 false [],Gv 28 (.mv (.t 27)) 24 false [],Gv 29 (.fadr 1 (.t 1)) 28 true [],Gr 30 (.ld 1 false (.t 29)) 28 true [] 0 0,Gv 31 (.bin .neq (.t 30) (K0 1)) 28 true [],Gv 32 (.pick (.t 28) (.t 31) (.k (.bool false))) 24 false [],Gv 33 (.mv (.t 32)) 24 false [],Gv 34 (.fadr 1 (.t 1)) 33 true [],Gr 35 (.ld 1 false (.t 34)) 33 true [] 0 0,Gv 36 (.bin .neq (.t 35) (K0 3)) 33 true [],Gv 37 (.pick (.t 33) (.t 36) (.k (.bool false))) 24 false [],iv 38 (.pick (.t 24) (.k (.bool true)) (.t 37)),Mv 39 38,Gv 40 (.fadr 0 (.t 1)) 39 false [],Gr 41 (.ld 1 false (.t 40)) 39 false [] 0 0,Gv 42 (.bin .eql (.t 41) (K0 3)) 39 false [],Gv 43 (.mv (.t 42)) 39 false [],Gv 44 (.fadr 1 (.t 1)) 43 true [],Gr 45 (.ld 1 false (.t 44)) 43 true [] 0 0,Gv 46 (.bin .neq (.t 45) (K0 0)) 43 true [],Gv 47 (.pick (.t 43) (.t 46) (.k (.bool false))) 39 false [],iv 48 (.pick (.t 39) (.k (.bool true)) (.t 47))] (Cd 48 (Sr [Mk 2 6] .ret) .skip)) (.seq (Sr [Fa 49 2 1,Ld 50 49,Bi 51 .lss 50 1,Mv 52 51,Gv 53 (.fadr 2 (.t 1)) 52 false [],Gr 54 (.ld 1 false (.t 53)) 52 false [] 0 0,Gv 55 (.bin .gtr (.t 54) (K0 1048576)) 52 false [],iv 56 (.pick (.t 52) (.k (.bool true)) (.t 55)),Mv 57 56,Gv 58 (.fadr 0 (.t 1)) 57 false [],Gr 59 (.ld 1 false (.t 58)) 57 false [] 0 0,Gv 60 (.bin .eql (.t 59) (K0 3)) 57 false [],Gv 61 (.mv (.t 60)) 57 false [],Gv 62 (.fadr 2 (.t 1)) 61 true [],Gr 63 (.ld 1 false (.t 62)) 61 true [] 0 0,Gv 64 (.bin .neq (.t 63) (K0 1)) 61 true [],Gv 65 (.pick (.t 61) (.t 64) (.k (.bool false))) 57 false [],iv 66 (.pick (.t 57) (.k (.bool true)) (.t 65))] (Cd 66 (Sr [Mk 2 7] .ret) .skip)) (.seq (Sr [Fa 67 3 1,Ld 68 67,iv 69 (.lenS (.t 68)),Bi 70 .gtr 69 255] (Cd 70 (Sr [Mk 2 8] .ret) .skip)) (Sr [Mk 2 0] .ret)))))
def u5:a8:=⟨71,au,[.tmp 2],none⟩
def jw:AC:=.seq (Sr [Mv 8 6,Mv 9 1,Bt 10 .lss 8 9] (Cd 10 .skip (.exit 0))) (.seq (.blk 1 (Sr [Mv 13 5,Mv 14 0,Bi 15 .rem 14 256,iv 16 (.i2i .u8 (.t 15)),iv 17 (.slit 1 1 [B0] [(0,.t 16)]),ic 18 (.app 1 false (.t 13) (.t 17)),Mv 5 18] (.reg [Mv 19 0,Bi 20 .quo 19 256,Mv 0 20]))) (.reg [Mv 11 6,Bi 12 .add 11 1,Mv 6 12]))
def nN:AC:=Sr [iv 4 (.mv (.k (.nsl)))] (Sr [iv 7 (.slit 1 0 [B0] []),Mv 5 7] (.seq (Sr [Mk 6 0] (.blk 0 (.loop jw))) (Sr [Mv 21 5,Mv 4 21] .ret)))
def t7:a8:=⟨22,nN,[.tmp 4],none⟩
def b9:AC:=.seq (Sr [Mv 15 6,Bi 16 .lss 15 64] (Cd 16 .skip (.exit 2))) (.seq (.blk 3 (Sr [Mv 19 4,Bi 20 .rem 19 5,Mv 21 4,Bi 22 .quo 21 5,Mv 23 6,Mv 24 5,iv 25 (.bin .rem (.t 24) (.k (.int .u64 2))),iv 26 (.bin .eql (.t 25) (.k (.int .u64 1))),iv 27 (.iadr (some 5) 320 (.t 3) (.t 20)),iv 28 (.iadr (some 5) 64 (.t 27) (.t 22)),iv 29 (.iadr (some 64) 1 (.t 28) (.t 23)),Sx 29 26] (.reg [Mv 30 5,iv 31 (.bin .quo (.t 30) (.k (.int .u64 2))),Mv 5 31]))) (.reg [Mv 17 6,Bi 18 .add 17 1,Mv 6 18]))
def dE:AC:=.seq (Sr [Mv 8 4,Bi 9 .lss 8 25] (Cd 9 .skip (.exit 0))) (.seq (.blk 1 (Sr [Mv 12 4,iv 13 (.iadr (some 25) 1 (.t 1) (.t 12)),Ld 14 13,Mv 5 14] (Sr [Mk 6 0] (.blk 2 (.loop b9))))) (.reg [Mv 10 4,Bi 11 .add 10 1,Mv 4 11]))
def mF:AC:=Sr [iv 1 (.boxv (.t 0)),ic 2 (.alloc (aO (.bool false) 1600))] (Sr [iv 7 (.build (aO (.bool false) 1600) []),ic 3 (.alloc (aO (.bool false) 1600)),Sv 1600 3 7] (.seq (Sr [Mk 4 0] (.blk 0 (.loop dE))) (Sr [Lt 32 1600 3,Sv 1600 2 32] .ret)))
def sk:a8:=⟨33,mF,[.cell 2 1600 true],none⟩
def eE:AC:=.seq (Sr [Mv 14 6,Bi 15 .lss 14 64] (Cd 15 .skip (.exit 0))) (.seq (.blk 1 (.draw [Dm 18 6,Dm 19 6,Dv 20 (.iadr (some 5) 320 (.t 2) (K0 0)) [2],Dv 21 (.iadr (some 5) 64 (.t 20) (K0 0)) [20],Dv 22 (.iadr (some 64) 1 (.t 21) (.t 19)) [21,19],Dl 23 22,Dm 24 6,Dv 25 (.iadr (some 64) 1 (.t 5) (.t 24)) [5,24],Dl 26 25,Dv 27 (.eq .bool true (.t 23) (.t 26)) [23,26],Dv 28 (.iadr (some 5) 320 (.t 2) (K0 0)) [2],Dv 29 (.iadr (some 5) 64 (.t 28) (K0 0)) [28],Dv 30 (.iadr (some 64) 1 (.t 29) (.t 18)) [29,18],Dn (.st 1 (.t 30) (.t 27)) [30,27]])) (.reg [Mv 16 6,Bi 17 .add 16 1,Mv 6 17]))
def oW:AC:=Sr [ic 2 (.box (.t 0)),ic 4 (.alloc (aO (.bool false) 1600))] (Sr [Lt 7 1600 2,Cr 8 kK [.t 7],Cr 9 nl [.t 8],Cr 10 oC [.t 9],Cr 11 nk [.t 10],Sv 1600 2 11] (Sr [Mv 12 1,Cr 13 iF [.t 12],ic 5 (.alloc (aO (.bool false) 64)),Sv 64 5 13] (.seq (Sr [Mk 6 0] (.blk 0 (.loop eE))) (Sr [Lt 31 1600 2,Sv 1600 4 31] .ret))))
def vc:a8:=⟨32,oW,[.cell 4 1600 true],none⟩
def bZ:AC:=.seq (Sr [Mv 12 6,Bi 13 .geq 12 0] (Cd 13 .skip (.exit 2))) (.seq (.blk 3 (Sr [Mv 16 5,iv 17 (.bin .mul (.t 16) (.k (.int .u64 2))),Mv 5 17] (Sr [Mv 18 4,Bi 19 .rem 18 5,Mv 20 4,Bi 21 .quo 20 5,Mv 22 6,iv 23 (.iadr (some 5) 320 (.t 1) (.t 19)),iv 24 (.iadr (some 5) 64 (.t 23) (.t 21)),iv 25 (.iadr (some 64) 1 (.t 24) (.t 22)),Ld 26 25] (Cd 26 (.reg [Mv 27 5,iv 28 (.bin .add (.t 27) (.k (.int .u64 1))),Mv 5 28]) .skip)))) (.reg [Mv 14 6,Bi 15 .sub 14 1,Mv 6 15]))
def eF:AC:=.seq (Sr [Mv 8 4,Bi 9 .lss 8 25] (Cd 9 .skip (.exit 0))) (.seq (.blk 1 (Sr [iv 5 (.mv (.k (U0)))] (.seq (Sr [Mk 6 63] (.blk 2 (.loop bZ))) (.reg [Mv 29 4,Mv 30 5,iv 31 (.iadr (some 25) 1 (.t 3) (.t 29)),Sx 31 30])))) (.reg [Mv 10 4,Bi 11 .add 10 1,Mv 4 11]))
def oX:AC:=Sr [iv 1 (.boxv (.t 0)),ic 2 (.alloc (aO (U0) 25))] (Sr [iv 7 (.build (aO (U0) 25) []),ic 3 (.alloc (aO (U0) 25)),Sv 25 3 7] (.seq (Sr [Mk 4 0] (.blk 0 (.loop eF))) (Sr [Lt 32 25 3,Sv 25 2 32] .ret)))
def vd:a8:=⟨33,oX,[.cell 2 25 true],none⟩
def ja:AC:=Sr [iv 4 (.mv (.k (.nsl))),Mk 5 0] (.seq (Sr [Mv 7 1,iv 8 (.lenL (.t 7)),Bi 9 .neq 8 96] (Cd 9 (Sr [iv 4 (.mv (.k (.nsl))),Mk 5 1] .ret) .skip)) (Sr [Mv 10 1,Cr 11 cH [.t 10],Mv 6 11] (.seq (Sr [Mv 12 6,Mv 13 0,Cr 14 lS [.t 13],Cr 15 ff [.t 12,.t 14],Bi 16 .geq 15 0] (Cd 16 (Sr [iv 4 (.mv (.k (.nsl))),Mk 5 4] .ret) .skip)) (Sr [Mv 17 6,Mv 4 17,Mk 5 0] .ret))))
def wG:a8:=⟨18,ja,[.tmp 4,.tmp 5],none⟩
def aL:AC:=.seq (Sr [Mv 9 0,iv 10 (.iadr none 1 (.t 9) (K0 0)),Ld 11 10,iv 12 (.bin .rem (.t 11) (.k (.int .u64 2))),iv 13 (.bin .eql (.t 12) (.k (U0)))] (Cd 13 .skip (.exit 2))) (.blk 3 (Sr [Mv 14 0,Cr 15 lT [.t 14],Mv 0 15] (Sr [Mv 16 3,iv 17 (.iadr none 1 (.t 16) (K0 0)),Ld 18 17,iv 19 (.bin .rem (.t 18) (.k (.int .u64 8))),iv 20 (.bin .eql (.t 19) (.k (.int .u64 3))),Mv 21 20,Gv 22 (.mv (.t 3)) 21 false [],Gv 23 (.iadr none 1 (.t 22) (K0 0)) 21 false [],Gr 24 (.ld 1 false (.t 23)) 21 false [] 0 0,Gv 25 (.bin .rem (.t 24) (.k (.int .u64 8))) 21 false [],Gv 26 (.bin .eql (.t 25) (.k (.int .u64 5))) 21 false [],iv 27 (.pick (.t 21) (.k (.bool true)) (.t 26))] (Cd 27 (.reg [Mv 28 4,iv 29 (.un .not (.t 28)),Mv 4 29]) .skip))))
def dW:AC:=.seq (Sr [Mv 6 0,iv 7 (.lenL (.t 6)),Bi 8 .gtr 7 0] (Cd 8 .skip (.exit 0))) (.blk 1 (.seq (.blk 2 (.loop aL)) (.seq (Sr [Mv 30 0,Mv 31 3,Cr 32 ff [.t 30,.t 31],Bi 33 .lss 32 0] (Cd 33 (.seq (Sr [Mv 34 0,iv 35 (.iadr none 1 (.t 34) (K0 0)),Ld 36 35,iv 37 (.bin .rem (.t 36) (.k (.int .u64 4))),iv 38 (.bin .eql (.t 37) (.k (.int .u64 3))),Mv 39 38,Gv 40 (.mv (.t 3)) 39 true [],Gv 41 (.iadr none 1 (.t 40) (K0 0)) 39 true [],Gr 42 (.ld 1 false (.t 41)) 39 true [] 0 0,Gv 43 (.bin .rem (.t 42) (.k (.int .u64 4))) 39 true [],Gv 44 (.bin .eql (.t 43) (.k (.int .u64 3))) 39 true [],iv 45 (.pick (.t 39) (.t 44) (.k (.bool false)))] (Cd 45 (.reg [Mv 46 4,iv 47 (.un .not (.t 46)),Mv 4 47]) .skip)) (.reg [Mv 48 3,Mv 49 0,Mv 0 48,Mv 3 49])) .skip)) (.reg [Mv 50 0,Mv 51 3,Cr 52 mP [.t 50,.t 51],Mv 0 52]))))
def nP:AC:=Sr [iv 2 (.mv (.k (.bool false)))] (Sr [Cr 5 jM [],Mv 3 5] (Sr [iv 4 (.mv (.k (.bool true)))] (.seq (.blk 0 (.loop dW)) (Sr [Mv 53 4,Mv 2 53] .ret))))
def uc:a8:=⟨54,nP,[.tmp 2],none⟩
def dN:AC:=Sr [iv 1 (.boxv (.t 0)),iv 2 (.mv (.k (.bool false)))] (.seq (Sr [Fa 5 0 1,Ld 6 5,Fa 7 1 1,Ld 8 7,Fa 9 2 1,Ld 10 9,iv 11 (.build [I0,I0,I0,.str ⟨#[]⟩] [(0,1,.t 6),(1,1,.t 8),(2,1,.t 10)]),Cr 12 dJ [.t 11],Bi 13 .neq 12 0] (Cd 13 (Sr [iv 2 (.mv (.k (.bool false)))] .ret) .skip)) (.seq (Sr [Fa 14 0 1,Ld 15 14,Bi 16 .neq 15 1] (Cd 16 (Sr [Fa 17 3 1,Ld 18 17,iv 19 (.lenL (.t 18)),Bi 20 .eql 19 0,Mv 2 20] .ret) .skip)) (Sr [Fa 22 1 1,Ld 23 22,Fa 24 3 1,Ld 25 24,Cr 26 fp [.t 23,.t 25],Mv 21 26,Ex 27 21 0,Ex 28 21 1,Mv 3 27,Mv 4 28] (Sr [Mv 29 4,Bi 30 .eql 29 0,Mv 31 30,Gv 32 (.mv (.t 3)) 31 true [],Gv 33 (.fadr 2 (.t 1)) 31 true [],Gr 34 (.ld 1 false (.t 33)) 31 true [] 0 0,Gv 35 (.bin .eql (.t 32) (.t 34)) 31 true [],iv 36 (.pick (.t 31) (.t 35) (.k (.bool false))),Mv 37 36,Gv 38 (.fadr 1 (.t 1)) 37 true [],Gr 39 (.ld 1 false (.t 38)) 37 true [] 0 0,Gv 40 (.fadr 3 (.t 1)) 37 true [],Gr 41 (.ld 1 false (.t 40)) 37 true [] 0 0,Gr 42 (.call ij [.t 39,.t 41]) 37 true [] 0 0,Gv 43 (.bin .eql (.t 42) (K0 0)) 37 true [],iv 44 (.pick (.t 37) (.t 43) (.k (.bool false))),Mv 2 44] .ret))))
def ve:a8:=⟨45,dN,[.tmp 2],none⟩
def BE:AC:=Sr [iv 2 (.mv (.k (.nsl))),Mk 3 0] (.seq (Sr [Mv 4 0] (.blk 0 (Sr [Bi 6 .eql 4 1,Mv 5 6] (Cd 5 (Sr [iv 7 (.slit 1 4 [I0] [(0,K0 1),(1,K0 2),(2,K0 3),(3,K0 4)]),Mv 2 7,Mk 3 1048576] .ret) (Sr [Bi 9 .eql 4 2,Mv 8 9] (Cd 8 (Sr [iv 10 (.slit 1 2 [I0] [(0,K0 1),(1,K0 3)]),Mv 2 10,Mk 3 1048576] .ret) (Sr [Bi 12 .eql 4 3,Mv 11 12] (Cd 11 (Sr [iv 13 (.slit 1 1 [I0] [(0,K0 0)]),Mv 2 13,Mk 3 1] .ret) .skip)))))))) (Sr [iv 2 (.mv (.k (.nsl))),Mk 3 0] .ret))
def IX:a8:=⟨14,BE,[.tmp 2,.tmp 3],none⟩
def kn:AC:=Sr [iv 4 (.mv (.k (.bool false)))] (Sr [Mv 5 0,Mv 6 1,Cr 7 jx [.t 5,.t 6],Bi 8 .geq 7 0,Mv 4 8] .ret)
def pu:a8:=⟨9,kn,[.tmp 4],none⟩
def nR:AC:=Sr [ic 2 (.box (.t 0)),ic 4 (.alloc (aO (U0) 25))] (Sr [Lt 5 25 2,Cr 6 j5 [.t 5],Cr 7 j6 [.t 6],Cr 8 lU [.t 7],Sv 25 2 8] (.seq (.draw [Dv 9 (.iadr (some 25) 1 (.t 2) (K0 0)) [2],Dl 10 9,Dm 11 1,Dr 12 (.call np [.t 11]) [11] 0 0,Dv 13 (.bin .xor (.t 10) (.t 12)) [10,12],Dv 14 (.iadr (some 25) 1 (.t 2) (K0 0)) [2],Dn (.st 1 (.t 14) (.t 13)) [14,13]]) (Sr [Lt 15 25 2,Sv 25 4 15] .ret)))
def ud:a8:=⟨16,nR,[.cell 4 25 true],none⟩
def iz:AC:=Sr [iv 2 (.mv (.k (.nsl)))] (.seq (Sr [Mv 3 0,iv 4 (.eq .slc false (.t 3) (.k (.nsl)))] (Cd 4 (Sr [iv 2 (.mv (.k (.nsl)))] .ret) .skip)) (Sr [iv 5 (.slit 1 0 [U0] []),Mv 6 0,ic 7 (.app 1 false (.t 5) (.t 6)),Mv 2 7] .ret))
def m7:a8:=⟨8,iz,[.tmp 2],none⟩
def cK:AC:=Sr [Bt 16 .lss 15 14] (.seq (Cd 16 .skip (.exit 0)) (.seq (.blk 1 (Sr [Mv 17 15,Ia 18 13 15,Ld 19 18,Mv 8 17,Mv 9 19] (Sr [Mv 20 7,Mv 21 8,Mv 22 9,iv 23 (.bin .shl (.t 22) (.k (.int .u64 1))),Mv 24 2,Bt 25 .or 23 24,Ia 26 20 21,Sx 26 25] (.reg [Mv 27 9,iv 28 (.bin .shr (.t 27) (.k (.int .u64 63))),Mv 2 28])))) (.reg [Bi 29 .add 15 1,Mv 15 29])))
def nS:AC:=Sr [iv 6 (.mv (.k (.nsl)))] (Sr [Mv 10 1,iv 11 (.lenL (.t 10)),ic 12 (.mk 1 [U0] (.t 11)),Mv 7 12] (.seq (Sr [Mv 13 1,iv 14 (.lenL (.t 13)),Mk 15 0] (.blk 0 (.loop cK))) (Sr [Mv 30 0,Mv 31 7,Mv 32 2,Cr 33 fm [.t 30,.t 31,.t 32],Mv 6 33] .ret)))
def ue:a8:=⟨34,nS,[.tmp 6],none⟩
def mu:AC:=Sr [Bi 8 .lss 7 4] (.seq (Cd 8 .skip (.exit 0)) (.seq (.blk 1 (Sr [Mv 9 7,Mv 6 9] (.draw [Dm 11 6,Dm 12 6,Dv 13 (.iadr (some 4) 1 (.t 2) (.t 12)) [2,12],Dl 14 13,Dm 15 6,Dv 16 (.iadr (some 4) 1 (.t 3) (.t 15)) [3,15],Dl 17 16,Dm 18 5,Dc 19 (.call bU [.t 14,.t 17,.t 18]) [14,17,18],Dm 10 19,Dv 20 (.ext (.t 10) 0) [10],Dv 21 (.ext (.t 10) 1) [10],Dv 22 (.iadr (some 4) 1 (.t 4) (.t 11)) [4,11],Dn (.st 1 (.t 22) (.t 20)) [22,20],Dm 5 21]))) (.reg [Bi 23 .add 7 1,Mv 7 23])))
def BH:AC:=Sr [iv 2 (.boxv (.t 0)),iv 3 (.boxv (.t 1)),ic 4 (.alloc (aO (U0) 4))] (Sr [iv 5 (.mv (.k (U0)))] (.seq (Sr [Mk 7 0] (.blk 0 (.loop mu))) (Sr [Lt 24 4 4,Sv 4 4 24] .ret)))
def I3:a8:=⟨25,BH,[.cell 4 4 true],none⟩
def rl:AC:=.seq (Sr [Mv 7 3,Bi 8 .geq 7 0] (Cd 8 .skip (.exit 0))) (.seq (.blk 1 (Sr [Mv 11 0,Mv 12 3,Ia 13 11 12,Ld 14 13,iv 15 (.bin .neq (.t 14) (.k (U0)))] (Cd 15 (Sr [Mv 16 3,iv 17 (.bin .mul (K0 64) (.t 16)),Mv 18 0,Mv 19 3,Ia 20 18 19,Ld 21 20,Cr 22 mS [.t 21],Bt 23 .add 17 22,Mv 2 23] .ret) .skip))) (.reg [Mv 9 3,Bi 10 .sub 9 1,Mv 3 10]))
def Er:AC:=Sr [Mk 2 0] (.seq (Sr [Mv 4 0,iv 5 (.lenL (.t 4)),Bi 6 .sub 5 1,Mv 3 6] (.blk 0 (.loop rl))) (Sr [Mk 2 0] .ret))
def Lh:a8:=⟨24,Er,[.tmp 2],none⟩
def jL:AC:=Sr [Bi 8 .lss 7 4] (.seq (Cd 8 .skip (.exit 0)) (.seq (.blk 1 (Sr [Mv 9 7,Mv 6 9] (.draw [Dm 11 6,Dm 12 6,Dv 13 (.iadr (some 4) 1 (.t 2) (.t 12)) [2,12],Dl 14 13,Dm 15 6,Dv 16 (.iadr (some 4) 1 (.t 3) (.t 15)) [3,15],Dl 17 16,Dm 18 5,Dc 19 (.call gJ [.t 14,.t 17,.t 18]) [14,17,18],Dm 10 19,Dv 20 (.ext (.t 10) 0) [10],Dv 21 (.ext (.t 10) 1) [10],Dv 22 (.iadr (some 4) 1 (.t 4) (.t 11)) [4,11],Dn (.st 1 (.t 22) (.t 20)) [22,20],Dm 5 21]))) (.reg [Bi 23 .add 7 1,Mv 7 23])))
def wJ:AC:=Sr [iv 2 (.boxv (.t 0)),iv 3 (.boxv (.t 1)),ic 4 (.alloc (aO (U0) 4)),iv 5 (.mv (.k (U0)))] (.seq (Sr [Mk 7 0] (.blk 0 (.loop jL))) (Sr [Lt 24 4 4,Mv 25 5,Sv 4 4 24,Mv 5 25] .ret))
def Es:a8:=⟨26,wJ,[.cell 4 4 true,.tmp 5],none⟩
def BK:AC:=Sr [iv 0 (.mv (.k (.nilp)))] (Sr [Cr 1 rI [],Cr 2 uq [.t 1],Mv 0 2] .ret)
def I6:a8:=⟨3,BK,[.tmp 0],none⟩
def li:AC:=Sr [ic 4 (.alloc (aO (U0) 12)),Mk 5 0] (.seq (Sr [Mv 7 1,iv 8 (.lenL (.t 7)),Bi 9 .neq 8 96] (Cd 9 (Sr [iv 10 (.build (aO (U0) 12) []),Sv 12 4 10,Mk 5 1] .ret) .skip)) (Sr [Mv 11 1,Cr 12 oi [.t 11],Mv 6 12] (.seq (Sr [Mv 13 6,Mv 14 0,Nk 15 14,Fa 16 0 15,Ld 17 16,Cr 18 gm [.t 17],Cr 19 wX [.t 13,.t 18],Bi 20 .geq 19 0] (Cd 20 (Sr [iv 21 (.build (aO (U0) 12) []),Sv 12 4 21,Mk 5 4] .ret) .skip)) (Sr [Mv 22 6,iv 23 (.s2a 12 (.t 22)),Lt 24 12 23,Sv 12 4 24,Mk 5 0] .ret))))
def z7:a8:=⟨25,li,[.cell 4 12 true,.tmp 5],none⟩
def uI:AC:=Sr [iv 4 (.boxv (.t 1)),iv 5 (.boxv (.t 2)),ic 6 (.alloc (aO (U0) 12))] (.seq (.draw [Dm 7 0,Dk 8 7,Df 9 0 8,Dl 10 9,Dv 11 (.mkfn (.func ef) [.t 10] []) [10],Dr 12 (.ld 12 true (.t 4)) [4] 0 0,Dr 13 (.ld 12 true (.t 5)) [5] 0 0,Dr 14 (.call FG [.t 11,.t 12,.t 13]) [11,12,13] 0 0,Dn (.st 12 (.t 6) (.t 14)) [6,14]]) .ret)
def CF:a8:=⟨15,uI,[.cell 6 12 true],none⟩
def m8:AC:=.seq (Sr [Mv 5 3,Bi 6 .geq 5 0] (Cd 6 .skip (.exit 0))) (.seq (.blk 1 (.draw [Dm 9 3,Dm 10 3,Dv 11 (.iadr (some 12) 1 (.t 1) (.t 10)) [1,10],Dl 12 11,Dv 13 (.bin .shr (.t 12) (.k (.int .u64 1))) [12],Dm 14 2,Dv 15 (.bin .shl (.t 14) (.k (.int .u64 63))) [14],Dv 16 (.bin .or (.t 13) (.t 15)) [13,15],Dm 17 3,Dv 18 (.iadr (some 12) 1 (.t 1) (.t 17)) [1,17],Dl 19 18,Dv 20 (.bin .and (.t 19) (.k (.int .u64 1))) [19],Dv 21 (.iadr (some 12) 1 (.t 1) (.t 9)) [1,9],Dn (.st 1 (.t 21) (.t 16)) [21,16],Dm 2 20])) (.reg [Mv 7 3,Bi 8 .sub 7 1,Mv 3 8]))
def sX:AC:=Sr [iv 0 (.mv (.k (.nilp)))] (Sr [Cr 4 rI [],ic 1 (.alloc (aO (U0) 12)),Sv 12 1 4,iv 2 (.mv (.k (U0)))] (.seq (Sr [Mk 3 11] (.blk 0 (.loop m8))) (Sr [Lt 22 12 1,Cr 23 uq [.t 22],Mv 0 23] .ret)))
def z8:a8:=⟨24,sX,[.tmp 0],none⟩
def sY:AC:=Sr [ic 2 (.alloc (aO (U0) 12))] (Sr [Mv 3 0,Nk 4 3,Fa 5 0 4,Ld 6 5,Cr 7 gm [.t 6],iv 8 (.s2a 12 (.t 7)),Lt 9 12 8,Sv 12 2 9] .ret)
def Aa:a8:=⟨10,sY,[.cell 2 12 true],none⟩
def Eu:AC:=Sr [ic 0 (.alloc (aO (U0) 12))] (Sr [iv 1 (.build (aO (U0) 12) [(0,1,.k (.int .u64 1))]),iv 2 (.build (aO (U0) 12) [(0,12,.t 1)]),Sv 12 0 2] .ret)
def Li:a8:=⟨3,Eu,[.cell 0 12 true],none⟩
def rm:AC:=Sr [iv 4 (.mv (.k (U0))),iv 5 (.mv (.k (U0)))] (Sr [Mv 14 0,iv 15 (.bin .and (.t 14) (.k (.int .u64 4294967295))),Mv 6 15] (Sr [Mv 16 0,iv 17 (.bin .shr (.t 16) (.k (.int .u64 32))),Mv 7 17] (Sr [Mv 18 1,iv 19 (.bin .and (.t 18) (.k (.int .u64 4294967295))),Mv 8 19] (Sr [Mv 20 1,iv 21 (.bin .shr (.t 20) (.k (.int .u64 32))),Mv 9 21] (Sr [Mv 22 6,Mv 23 8,Bt 24 .mul 22 23,Mv 10 24] (Sr [Mv 25 7,Mv 26 8,Bt 27 .mul 25 26,Mv 28 10,iv 29 (.bin .shr (.t 28) (.k (.int .u64 32))),Bt 30 .add 27 29,Mv 11 30] (Sr [Mv 31 11,iv 32 (.bin .and (.t 31) (.k (.int .u64 4294967295))),Mv 12 32] (Sr [Mv 33 11,iv 34 (.bin .shr (.t 33) (.k (.int .u64 32))),Mv 13 34] (Sr [Mv 35 12,Mv 36 6,Mv 37 9,Bt 38 .mul 36 37,Bt 39 .add 35 38,Mv 12 39] (Sr [Mv 40 7,Mv 41 9,Bt 42 .mul 40 41,Mv 43 13,Bt 44 .add 42 43,Mv 45 12,iv 46 (.bin .shr (.t 45) (.k (.int .u64 32))),Bt 47 .add 44 46,Mv 4 47] (Sr [Mv 48 0,Mv 49 1,Bt 50 .mul 48 49,Mv 5 50] .ret)))))))))))
def yb:a8:=⟨51,rm,[.tmp 4,.tmp 5],none⟩
def dm:AC:=.seq (Sr [Mv 16 6,Bi 17 .lss 16 64] (Cd 17 .skip (.exit 4))) (.seq (.blk 5 (.draw [Dm 20 4,Dm 21 5,Dm 22 6,Dm 23 4,Dm 24 5,Dm 25 6,Dv 26 (.iadr (some 5) 320 (.t 1) (.t 23)) [1,23],Dv 27 (.iadr (some 5) 64 (.t 26) (.t 24)) [26,24],Dv 28 (.iadr (some 64) 1 (.t 27) (.t 25)) [27,25],Dl 29 28,Dm 30 4,Dv 31 (.bin .add (.t 30) (K0 1)) [30],Dv 32 (.bin .rem (.t 31) (K0 5)) [31],Dm 33 5,Dm 34 6,Dv 35 (.iadr (some 5) 320 (.t 1) (.t 32)) [1,32],Dv 36 (.iadr (some 5) 64 (.t 35) (.t 33)) [35,33],Dv 37 (.iadr (some 64) 1 (.t 36) (.t 34)) [36,34],Dl 38 37,Dv 39 (.un .not (.t 38)) [38],Dm 40 39,Gm 41 4 40 true,Gv 42 (.bin .add (.t 41) (K0 2)) 40 true [41,40],Gv 43 (.bin .rem (.t 42) (K0 5)) 40 true [42,40],Gm 44 5 40 true,Gm 45 6 40 true,Gv 46 (.iadr (some 5) 320 (.t 1) (.t 43)) 40 true [1,43,40],Gv 47 (.iadr (some 5) 64 (.t 46) (.t 44)) 40 true [46,44,40],Gv 48 (.iadr (some 64) 1 (.t 47) (.t 45)) 40 true [47,45,40],Gl 49 48 40 true,Dv 50 (.pick (.t 40) (.t 49) (.k (.bool false))) [40,49],Dv 51 (.eq .bool true (.t 29) (.t 50)) [29,50],Dv 52 (.iadr (some 5) 320 (.t 3) (.t 20)) [3,20],Dv 53 (.iadr (some 5) 64 (.t 52) (.t 21)) [52,21],Dv 54 (.iadr (some 64) 1 (.t 53) (.t 22)) [53,22],Dn (.st 1 (.t 54) (.t 51)) [54,51]])) (.reg [Mv 18 6,Bi 19 .add 18 1,Mv 6 19]))
def ec:AC:=.seq (Sr [Mv 12 5,Bi 13 .lss 12 5] (Cd 13 .skip (.exit 2))) (.seq (.blk 3 (Sr [Mk 6 0] (.blk 4 (.loop dm)))) (.reg [Mv 14 5,Bi 15 .add 14 1,Mv 5 15]))
def fK:AC:=.seq (Sr [Mv 8 4,Bi 9 .lss 8 5] (Cd 9 .skip (.exit 0))) (.seq (.blk 1 (Sr [Mk 5 0] (.blk 2 (.loop ec)))) (.reg [Mv 10 4,Bi 11 .add 10 1,Mv 4 11]))
def rp:AC:=Sr [iv 1 (.boxv (.t 0)),ic 2 (.alloc (aO (.bool false) 1600))] (Sr [iv 7 (.build (aO (.bool false) 1600) []),ic 3 (.alloc (aO (.bool false) 1600)),Sv 1600 3 7] (.seq (Sr [Mk 4 0] (.blk 0 (.loop fK))) (Sr [Lt 55 1600 3,Sv 1600 2 55] .ret)))
def yd:a8:=⟨56,rp,[.cell 2 1600 true],none⟩
def eY:AC:=.seq (Sr [Mv 11 5,Bi 12 .lss 11 5] (Cd 12 .skip (.exit 2))) (.seq (.blk 3 (.draw [Dm 15 5,Dm 16 4,Dv 17 (.bin .mul (K0 2) (.t 16)) [16],Dm 18 5,Dv 19 (.bin .mul (K0 3) (.t 18)) [18],Dv 20 (.bin .add (.t 17) (.t 19)) [17,19],Dv 21 (.bin .rem (.t 20) (K0 5)) [20],Dm 22 4,Dm 23 5,Dv 24 (.iadr (some 5) 320 (.t 1) (.t 22)) [1,22],Dv 25 (.iadr (some 5) 64 (.t 24) (.t 23)) [24,23],Dr 26 (.ld 64 true (.t 25)) [25] 0 0,Dv 27 (.iadr (some 5) 320 (.t 3) (.t 15)) [3,15],Dv 28 (.iadr (some 5) 64 (.t 27) (.t 21)) [27,21],Dn (.st 64 (.t 28) (.t 26)) [28,26]])) (.reg [Mv 13 5,Bi 14 .add 13 1,Mv 5 14]))
def gG:AC:=.seq (Sr [Mv 7 4,Bi 8 .lss 7 5] (Cd 8 .skip (.exit 0))) (.seq (.blk 1 (Sr [Mk 5 0] (.blk 2 (.loop eY)))) (.reg [Mv 9 4,Bi 10 .add 9 1,Mv 4 10]))
def sZ:AC:=Sr [iv 1 (.boxv (.t 0)),ic 2 (.alloc (aO (.bool false) 1600))] (Sr [iv 6 (.build (aO (.bool false) 1600) []),ic 3 (.alloc (aO (.bool false) 1600)),Sv 1600 3 6] (.seq (Sr [Mk 4 0] (.blk 0 (.loop gG))) (Sr [Lt 29 1600 3,Sv 1600 2 29] .ret)))
def Ab:a8:=⟨30,sZ,[.cell 2 1600 true],none⟩
def ed:AC:=.seq (Sr [Mv 18 7,Bi 19 .lss 18 64] (Cd 19 .skip (.exit 2))) (.seq (.blk 3 (.draw [Dm 22 4,Dm 23 5,Dm 24 7,Dm 25 6,Dv 26 (.bin .add (.t 25) (K0 1)) [25],Dm 27 6,Dv 28 (.bin .add (.t 27) (K0 2)) [27],Dv 29 (.bin .mul (.t 26) (.t 28)) [26,28],Dv 30 (.bin .quo (.t 29) (K0 2)) [29],Dv 31 (.bin .add (.t 24) (.t 30)) [24,30],Dv 32 (.bin .rem (.t 31) (K0 64)) [31],Dm 33 4,Dm 34 5,Dm 35 7,Dv 36 (.iadr (some 5) 320 (.t 1) (.t 33)) [1,33],Dv 37 (.iadr (some 5) 64 (.t 36) (.t 34)) [36,34],Dv 38 (.iadr (some 64) 1 (.t 37) (.t 35)) [37,35],Dl 39 38,Dv 40 (.iadr (some 5) 320 (.t 3) (.t 22)) [3,22],Dv 41 (.iadr (some 5) 64 (.t 40) (.t 23)) [40,23],Dv 42 (.iadr (some 64) 1 (.t 41) (.t 32)) [41,32],Dn (.st 1 (.t 42) (.t 39)) [42,39]])) (.reg [Mv 20 7,Bi 21 .add 20 1,Mv 7 21]))
def fL:AC:=.seq (Sr [Mv 14 6,Bi 15 .lss 14 24] (Cd 15 .skip (.exit 0))) (.seq (.blk 1 (.seq (Sr [Mk 7 0] (.blk 2 (.loop ed))) (.reg [Mv 43 5,Mv 44 4,iv 45 (.bin .mul (K0 2) (.t 44)),Mv 46 5,iv 47 (.bin .mul (K0 3) (.t 46)),Bt 48 .add 45 47,Bi 49 .rem 48 5,Mv 4 43,Mv 5 49]))) (.reg [Mv 16 6,Bi 17 .add 16 1,Mv 6 17]))
def rq:AC:=Sr [iv 1 (.boxv (.t 0)),ic 2 (.alloc (aO (.bool false) 1600))] (Sr [iv 8 (.build (aO (.bool false) 1600) []),ic 3 (.alloc (aO (.bool false) 1600)),Sv 1600 3 8] (Sr [iv 9 (.iadr (some 5) 320 (.t 1) (K0 0)),iv 10 (.iadr (some 5) 64 (.t 9) (K0 0)),Lt 11 64 10,iv 12 (.iadr (some 5) 320 (.t 3) (K0 0)),iv 13 (.iadr (some 5) 64 (.t 12) (K0 0)),Sv 64 13 11] (Sr [Mk 4 1,Mk 5 0] (.seq (Sr [Mk 6 0] (.blk 0 (.loop fL))) (Sr [Lt 50 1600 3,Sv 1600 2 50] .ret)))))
def yf:a8:=⟨51,rq,[.cell 2 1600 true],none⟩
def aT:AC:=.seq (Sr [Mv 22 7,Bi 23 .lss 22 5] (Cd 23 .skip (.exit 4))) (.seq (.blk 5 (Sr [Mv 26 4,Mv 27 7,Mv 28 5,iv 29 (.iadr (some 5) 320 (.t 1) (.t 26)),iv 30 (.iadr (some 5) 64 (.t 29) (.t 27)),iv 31 (.iadr (some 64) 1 (.t 30) (.t 28)),Ld 32 31] (Cd 32 (.reg [Mv 33 6,Bi 34 .add 33 1,Mv 6 34]) .skip))) (.reg [Mv 24 7,Bi 25 .add 24 1,Mv 7 25]))
def bu:AC:=.seq (Sr [Mv 18 5,Bi 19 .lss 18 64] (Cd 19 .skip (.exit 2))) (.seq (.blk 3 (Sr [Mk 6 0] (.seq (Sr [Mk 7 0] (.blk 4 (.loop aT))) (.reg [Mv 35 4,Mv 36 5,Mv 37 6,Bi 38 .rem 37 2,Bi 39 .eql 38 1,iv 40 (.iadr (some 5) 64 (.t 3) (.t 35)),iv 41 (.iadr (some 64) 1 (.t 40) (.t 36)),Sx 41 39])))) (.reg [Mv 20 5,Bi 21 .add 20 1,Mv 5 21]))
def bL:AC:=.seq (Sr [Mv 14 4,Bi 15 .lss 14 5] (Cd 15 .skip (.exit 0))) (.seq (.blk 1 (Sr [Mk 5 0] (.blk 2 (.loop bu)))) (.reg [Mv 16 4,Bi 17 .add 16 1,Mv 4 17]))
def b7:AC:=.seq (Sr [Mv 51 11,Bi 52 .lss 51 64] (Cd 52 .skip (.exit 10))) (.seq (.blk 11 (.seq (.draw [Dm 55 9,Dv 56 (.bin .add (.t 55) (K0 4)) [55],Dv 57 (.bin .rem (.t 56) (K0 5)) [56],Dm 58 11,Dv 59 (.iadr (some 5) 64 (.t 3) (.t 57)) [3,57],Dv 60 (.iadr (some 64) 1 (.t 59) (.t 58)) [59,58],Dl 61 60,Dm 62 9,Dv 63 (.bin .add (.t 62) (K0 1)) [62],Dv 64 (.bin .rem (.t 63) (K0 5)) [63],Dm 65 11,Dv 66 (.bin .add (.t 65) (K0 63)) [65],Dv 67 (.bin .rem (.t 66) (K0 64)) [66],Dv 68 (.iadr (some 5) 64 (.t 3) (.t 64)) [3,64],Dv 69 (.iadr (some 64) 1 (.t 68) (.t 67)) [68,67],Dl 70 69,Dv 71 (.eq .bool true (.t 61) (.t 70)) [61,70],Dm 12 71]) (.draw [Dm 72 9,Dm 73 10,Dm 74 11,Dm 75 9,Dm 76 10,Dm 77 11,Dv 78 (.iadr (some 5) 320 (.t 1) (.t 75)) [1,75],Dv 79 (.iadr (some 5) 64 (.t 78) (.t 76)) [78,76],Dv 80 (.iadr (some 64) 1 (.t 79) (.t 77)) [79,77],Dl 81 80,Dm 82 12,Dv 83 (.eq .bool true (.t 81) (.t 82)) [81,82],Dv 84 (.iadr (some 5) 320 (.t 8) (.t 72)) [8,72],Dv 85 (.iadr (some 5) 64 (.t 84) (.t 73)) [84,73],Dv 86 (.iadr (some 64) 1 (.t 85) (.t 74)) [85,74],Dn (.st 1 (.t 86) (.t 83)) [86,83]]))) (.reg [Mv 53 11,Bi 54 .add 53 1,Mv 11 54]))
def dq:AC:=.seq (Sr [Mv 47 10,Bi 48 .lss 47 5] (Cd 48 .skip (.exit 8))) (.seq (.blk 9 (Sr [Mk 11 0] (.blk 10 (.loop b7)))) (.reg [Mv 49 10,Bi 50 .add 49 1,Mv 10 50]))
def eH:AC:=.seq (Sr [Mv 43 9,Bi 44 .lss 43 5] (Cd 44 .skip (.exit 6))) (.seq (.blk 7 (Sr [Mk 10 0] (.blk 8 (.loop dq)))) (.reg [Mv 45 9,Bi 46 .add 45 1,Mv 9 46]))
def o0:AC:=Sr [iv 1 (.boxv (.t 0)),ic 2 (.alloc (aO (.bool false) 1600))] (Sr [iv 13 (.build (aO (.bool false) 320) []),ic 3 (.alloc (aO (.bool false) 320)),Sv 320 3 13] (.seq (Sr [Mk 4 0] (.blk 0 (.loop bL))) (Sr [iv 42 (.build (aO (.bool false) 1600) []),ic 8 (.alloc (aO (.bool false) 1600)),Sv 1600 8 42] (.seq (Sr [Mk 9 0] (.blk 6 (.loop eH))) (Sr [Lt 87 1600 8,Sv 1600 2 87] .ret)))))
def vi:a8:=⟨88,o0,[.cell 2 1600 true],none⟩
def cX:AC:=.seq (Sr [Mv 14 5,Bi 15 .lss 14 7] (Cd 15 .skip (.exit 0))) (.seq (.blk 1 (Sr [Mv 18 4,Bi 19 .sub 18 1,Mv 20 5,Mv 21 0,iv 22 (.bin .mul (K0 7) (.t 21)),Bt 23 .add 20 22,Cr 24 oD [.t 23],iv 25 (.iadr (some 64) 1 (.t 3) (.t 19)),Sx 25 24] (.reg [Mv 26 4,Bi 27 .mul 26 2,Mv 4 27]))) (.reg [Mv 16 5,Bi 17 .add 16 1,Mv 5 17]))
def lQ:AC:=Sr [ic 2 (.alloc (aO (.bool false) 64))] (Sr [iv 6 (.build (aO (.bool false) 64) []),ic 3 (.alloc (aO (.bool false) 64)),Sv 64 3 6] (.seq (Sr [Mv 7 0,Bi 8 .lss 7 0,Mv 9 8,Gv 10 (.mv (.t 0)) 9 false [],Gv 11 (.bin .gtr (.t 10) (K0 23)) 9 false [],iv 12 (.pick (.t 9) (.k (.bool true)) (.t 11))] (Cd 12 (Sr [Lt 13 64 3,Sv 64 2 13] .ret) .skip)) (Sr [Mk 4 1] (.seq (Sr [Mk 5 0] (.blk 0 (.loop cX))) (Sr [Lt 28 64 3,Sv 64 2 28] .ret)))))
def rt:a8:=⟨29,lQ,[.cell 2 64 true],none⟩
def qe:AC:=Sr [iv 2 (.mv (.k (.nsl)))] (.seq (Sr [Mv 3 0] (Cd 3 (Sr [Cr 4 jM [],Mv 2 4] .ret) .skip)) (Sr [Cr 5 L1 [],Mv 2 5] .ret))
def wQ:a8:=⟨6,qe,[.tmp 2],none⟩
def uK:AC:=Sr [iv 0 (.mv (.k (.nsl)))] (Sr [iv 1 (.slit 1 24 [U0] [(0,.k (.int .u64 4294967295)),(1,.k (.int .u64 4294967295)),(2,.k (.int .u64 2788832800)),(3,.k (.int .u64 4098638569)),(4,.k (.int .u64 1650360006)),(5,.k (.int .u64 3833967990)),(6,.k (.int .u64 1834074693)),(7,.k (.int .u64 1340159341)),(8,.k (.int .u64 4066317367)),(9,.k (.int .u64 808127085)),(10,.k (.int .u64 3443147547)),(11,.k (.int .u64 4019526067)),(12,.k (.int .u64 2385773789)),(13,.k (.int .u64 1363806329)),(14,.k (.int .u64 991140642)),(15,.k (.int .u64 34324134)),(16,.k (.int .u64 2322058356)),(17,.k (.int .u64 688016904)),(18,.k (.int .u64 2161908945)),(19,.k (.int .u64 3301335691)),(20,.k (.int .u64 560513588)),(21,.k (.int .u64 3373259426)),(22,.k (.int .u64 4294967295)),(23,.k (.int .u64 4294967295))]),Mv 0 1] .ret)
def CH:a8:=⟨2,uK,[.tmp 0],none⟩
def dQ:AC:=.seq (Sr [Mv 8 4,Mv 9 0,iv 10 (.lenL (.t 9)),Bt 11 .lss 8 10] (Cd 11 .skip (.exit 0))) (.seq (.blk 1 (Sr [Mv 14 3,Mv 15 4,Mv 16 0,Mv 17 4,Ia 18 16 17,Ld 19 18,iv 20 (.bin .quo (.t 19) (.k (.int .u64 2))),Ia 21 14 15,Sx 21 20] (Sr [Mv 22 4,Bi 23 .add 22 1,Mv 24 0,iv 25 (.lenL (.t 24)),Bt 26 .lss 23 25] (Cd 26 (.draw [Dm 27 3,Dm 28 4,Dm 29 3,Dm 30 4,Dv 31 (.iadr none 1 (.t 29) (.t 30)) [29,30],Dl 32 31,Dm 33 0,Dm 34 4,Dv 35 (.bin .add (.t 34) (K0 1)) [34],Dv 36 (.iadr none 1 (.t 33) (.t 35)) [33,35],Dl 37 36,Dv 38 (.bin .rem (.t 37) (.k (.int .u64 2))) [37],Dv 39 (.bin .mul (.t 38) (.k (.int .u64 2147483648))) [38],Dv 40 (.bin .add (.t 32) (.t 39)) [32,39],Dv 41 (.iadr none 1 (.t 27) (.t 28)) [27,28],Dn (.st 1 (.t 41) (.t 40)) [41,40]]) .skip)))) (.reg [Mv 12 4,Bi 13 .add 12 1,Mv 4 13]))
def qf:AC:=Sr [iv 2 (.mv (.k (.nsl)))] (Sr [Mv 5 0,iv 6 (.lenL (.t 5)),ic 7 (.mk 1 [U0] (.t 6)),Mv 3 7] (.seq (Sr [Mk 4 0] (.blk 0 (.loop dQ))) (Sr [Mv 42 3,Cr 43 eg [.t 42],Mv 2 43] .ret)))
def wR:a8:=⟨44,qf,[.tmp 2],none⟩
def iE:AC:=Sr [Bt 9 .lss 8 7] (.seq (Cd 9 .skip (.exit 0)) (.seq (.blk 1 (Sr [Mv 10 8,Mv 5 10] (Sr [Mv 11 1,Mv 12 0,Mv 13 5,Ia 14 12 13,Ld 15 14,Bt 16 .eql 11 15] (Cd 16 (Sr [Mv 17 5,Mv 4 17] .ret) .skip)))) (.reg [Bi 18 .add 8 1,Mv 8 18])))
def mH:AC:=Sr [Mk 4 0] (.seq (Sr [Mv 6 0,iv 7 (.lenL (.t 6)),Mk 8 0] (.blk 0 (.loop iE))) (Sr [Mk 4 (-1)] .ret))
def ss:a8:=⟨19,mH,[.tmp 4],none⟩
def bB:AC:=Sr [Bi 10 .lss 9 25] (.seq (Cd 10 .skip (.exit 0)) (.seq (.blk 1 (Sr [Mv 11 9,iv 12 (.idxA 25 1 false (.t 8) (.t 9)),Mv 4 11,Mv 5 12] (.reg [Mv 13 4,Bi 14 .rem 13 5,iv 15 (.iadr (some 5) 1 (.t 3) (.t 14)),Ld 16 15,Mv 17 5,Bt 18 .xor 16 17,iv 19 (.iadr (some 5) 1 (.t 3) (.t 14)),Sx 19 18]))) (.reg [Bi 20 .add 9 1,Mv 9 20])))
def dX:AC:=Sr [Bi 22 .lss 21 25] (.seq (Cd 22 .skip (.exit 2)) (.seq (.blk 3 (Sr [Mv 23 21,Mv 6 23] (Sr [Mv 24 6,Bi 25 .rem 24 5,Mv 7 25] (.draw [Dm 26 6,Dv 27 (.iadr (some 25) 1 (.t 1) (.t 26)) [1,26],Dl 28 27,Dm 29 7,Dv 30 (.bin .add (.t 29) (K0 4)) [29],Dv 31 (.bin .rem (.t 30) (K0 5)) [30],Dv 32 (.iadr (some 5) 1 (.t 3) (.t 31)) [3,31],Dl 33 32,Dm 34 7,Dv 35 (.bin .add (.t 34) (K0 1)) [34],Dv 36 (.bin .rem (.t 35) (K0 5)) [35],Dv 37 (.iadr (some 5) 1 (.t 3) (.t 36)) [3,36],Dl 38 37,Dr 39 (.call dZ [.t 38,K0 1]) [38] 0 0,Dv 40 (.bin .xor (.t 33) (.t 39)) [33,39],Dv 41 (.bin .xor (.t 28) (.t 40)) [28,40],Dv 42 (.iadr (some 25) 1 (.t 1) (.t 26)) [1,26],Dn (.st 1 (.t 42) (.t 41)) [42,41]])))) (.reg [Bi 43 .add 21 1,Mv 21 43])))
def n7:AC:=Sr [ic 1 (.box (.t 0)),ic 2 (.alloc (aO (U0) 25))] (Sr [ic 3 (.alloc (aO (U0) 5))] (.seq (Sr [Lt 8 25 1,Mk 9 0] (.blk 0 (.loop bB))) (.seq (Sr [Mk 21 0] (.blk 2 (.loop dX))) (Sr [Lt 44 25 1,Sv 25 2 44] .ret))))
def uh:a8:=⟨45,n7,[.cell 2 25 true],none⟩
def dU:AC:=Sr [Bi 12 .lss 11 24] (.seq (Cd 12 .skip (.exit 0)) (.seq (.blk 1 (Sr [Mv 13 11,Mv 6 13] (Sr [Mv 14 4,iv 15 (.bin .mul (K0 2) (.t 14)),Mv 16 5,iv 17 (.bin .mul (K0 3) (.t 16)),Bt 18 .add 15 17,Bi 19 .rem 18 5,Mv 7 19] (Sr [Mv 20 5,Mv 21 7,iv 22 (.bin .mul (K0 5) (.t 21)),Bt 23 .add 20 22,Mv 24 4,Mv 25 5,iv 26 (.bin .mul (K0 5) (.t 25)),Bt 27 .add 24 26,iv 28 (.iadr (some 25) 1 (.t 1) (.t 27)),Ld 29 28,Mv 30 6,Bi 31 .add 30 1,Mv 32 6,Bi 33 .add 32 2,Bt 34 .mul 31 33,Bi 35 .quo 34 2,Cr 36 dZ [.t 29,.t 35],iv 37 (.iadr (some 25) 1 (.t 3) (.t 23)),Sx 37 36] (.reg [Mv 38 5,Mv 39 7,Mv 4 38,Mv 5 39]))))) (.reg [Bi 40 .add 11 1,Mv 11 40])))
def nO:AC:=Sr [iv 1 (.boxv (.t 0)),ic 2 (.alloc (aO (U0) 25))] (Sr [iv 8 (.iadr (some 25) 1 (.t 1) (K0 0)),Ld 9 8,iv 10 (.build (aO (U0) 25) [(0,1,.t 9)]),ic 3 (.alloc (aO (U0) 25)),Sv 25 3 10] (Sr [Mk 4 1,Mk 5 0] (.seq (Sr [Mk 11 0] (.blk 0 (.loop dU))) (Sr [Lt 41 25 3,Sv 25 2 41] .ret))))
def ub:a8:=⟨42,nO,[.cell 2 25 true],none⟩
def fj:AC:=Sr [Bi 8 .lss 7 25] (.seq (Cd 8 .skip (.exit 0)) (.seq (.blk 1 (Sr [Mv 9 7,Mv 4 9] (Sr [Mv 10 4,Mv 11 4,Bi 12 .rem 11 5,Bt 13 .sub 10 12,Mv 5 13] (.draw [Dm 14 4,Dv 15 (.iadr (some 25) 1 (.t 3) (.t 14)) [3,14],Dl 16 15,Dm 17 5,Dm 18 4,Dv 19 (.bin .add (.t 18) (K0 2)) [18],Dv 20 (.bin .rem (.t 19) (K0 5)) [19],Dv 21 (.bin .add (.t 17) (.t 20)) [17,20],Dv 22 (.iadr (some 25) 1 (.t 1) (.t 21)) [1,21],Dl 23 22,Dm 24 5,Dm 25 4,Dv 26 (.bin .add (.t 25) (K0 1)) [25],Dv 27 (.bin .rem (.t 26) (K0 5)) [26],Dv 28 (.bin .add (.t 24) (.t 27)) [24,27],Dv 29 (.iadr (some 25) 1 (.t 1) (.t 28)) [1,28],Dl 30 29,Dv 31 (.bin .andNot (.t 23) (.t 30)) [23,30],Dv 32 (.bin .xor (.t 16) (.t 31)) [16,31],Dv 33 (.iadr (some 25) 1 (.t 3) (.t 14)) [3,14],Dn (.st 1 (.t 33) (.t 32)) [33,32]])))) (.reg [Bi 34 .add 7 1,Mv 7 34])))
def p6:AC:=Sr [iv 1 (.boxv (.t 0)),ic 2 (.alloc (aO (U0) 25))] (Sr [Lt 6 25 1,ic 3 (.alloc (aO (U0) 25)),Sv 25 3 6] (.seq (Sr [Mk 7 0] (.blk 0 (.loop fj))) (Sr [Lt 35 25 3,Sv 25 2 35] .ret)))
def wH:a8:=⟨36,p6,[.cell 2 25 true],none⟩
def rj:AC:=Sr [iv 2 (.mv (.k (U0)))] (.seq (Sr [Mv 3 0,Bi 4 .lss 3 0,Mv 5 4,Gv 6 (.mv (.t 0)) 5 false [],Gv 7 (.bin .geq (.t 6) (K0 24)) 5 false [],iv 8 (.pick (.t 5) (.k (.bool true)) (.t 7))] (Cd 8 (Sr [iv 2 (.mv (.k (U0)))] .ret) .skip)) (Sr [Mv 9 0,iv 10 (.iadr (some 24) 1 (.g 3) (.t 9)),Ld 11 10,Mv 2 11] .ret))
def x9:a8:=⟨12,rj,[.tmp 2],none⟩
def gZ:AC:=Sr [iv 6 (.mv (.k (.nsl)))] (.seq (Sr [Mv 9 2,iv 10 (.bin .eql (.t 9) (.k (U0))),Mv 11 10,Gv 12 (.mv (.t 1)) 11 true [],Gv 13 (.mv (.t 0)) 11 true [],Gv 14 (.nck (.t 13)) 11 true [],Gv 15 (.fadr 0 (.t 14)) 11 true [],Gr 16 (.ld 1 false (.t 15)) 11 true [] 0 0,Gr 17 (.call wX [.t 12,.t 16]) 11 true [] 0 0,Gv 18 (.bin .lss (.t 17) (K0 0)) 11 true [],iv 19 (.pick (.t 11) (.t 18) (.k (.bool false)))] (Cd 19 (Sr [Mv 20 1,Mv 6 20] .ret) .skip)) (Sr [Mv 22 1,Mv 23 0,Nk 24 23,Fa 25 0 24,Ld 26 25,Cr 27 BX [.t 22,.t 26],Mv 21 27,Ex 28 21 0,Ex 29 21 1,Mv 7 28,Mv 8 29] (Sr [Mv 30 7,Mv 6 30] .ret)))
def vg:a8:=⟨31,gZ,[.tmp 6],none⟩
def Eo:AC:=Sr [iv 1 (.boxv (.t 0)),iv 2 (.mv (.k (.nilp)))] (Sr [iv 6 (.slice (.arr 12) 1 (.t 1) none none none),Cr 7 A9 [.t 6],Mv 5 7,Ex 8 5 0,Ex 9 5 1,Mv 3 8,Mv 4 9] (Sr [Mv 10 3,Bu 11 [.nilp] [(0,1,.t 10)],iv 12 (.boxv (.t 11)),Mv 2 12] .ret))
def Lg:a8:=⟨13,Eo,[.tmp 2],none⟩
def BG:AC:=Sr [ic 0 (.alloc (aO (U0) 12))] (Sr [iv 1 (.build (aO (U0) 12) [(0,1,.k (.int .u64 18446744073709551615)),(1,1,.k (.int .u64 17603518614768072224)),(2,1,.k (.int .u64 16466767132611215046)),(3,1,.k (.int .u64 5755940542857986629)),(4,1,.k (.int .u64 3470879405153129527)),(5,1,.k (.int .u64 17263733006627652379)),(6,1,.k (.int .u64 5857503583518590173)),(7,1,.k (.int .u64 147421033984662306)),(8,1,.k (.int .u64 2955010104097229940)),(9,1,.k (.int .u64 14179128828124470481)),(10,1,.k (.int .u64 14488038916154245684)),(11,1,.k (.int .u64 18446744073709551615))]),Sv 12 0 1] .ret)
def I1:a8:=⟨2,BG,[.cell 0 12 true],none⟩
def qu:AC:=.seq (Sr [Mv 13 5,Bi 14 .geq 13 0] (Cd 14 .skip (.exit 0))) (.seq (.blk 1 (Sr [Mv 17 0,Mv 18 5,Cr 19 td [.t 17,.t 18],Mv 20 1,Mv 21 5,Cr 22 td [.t 20,.t 21],Cr 23 kL [.t 19,.t 22],Mv 6 23] (Sr [Mv 24 6,Bi 25 .neq 24 0] (Cd 25 (Sr [Mv 26 6,Mv 4 26] .ret) .skip)))) (.reg [Mv 15 5,Bi 16 .sub 15 1,Mv 5 16]))
def HE:AC:=Sr [Mk 4 0] (.seq (Sr [Mv 7 0,iv 8 (.lenL (.t 7)),Mv 9 1,iv 10 (.lenL (.t 9)),iv 11 (.mxmn true [.t 8,.t 10]),Bi 12 .sub 11 1,Mv 5 12] (.blk 0 (.loop qu))) (Sr [Mk 4 0] .ret))
def N3:a8:=⟨27,HE,[.tmp 4],none⟩
def nT:AC:=Sr [iv 2 (.mv (.k (.nsl)))] (Sr [Mv 3 0,Nk 4 3,Fa 5 0 4,Ld 6 5,Cr 7 cM [.t 6],Mv 2 7] .ret)
def ug:a8:=⟨8,nT,[.tmp 2],none⟩
def Kx:AC:=Sr [iv 4 (.boxv (.t 1)),iv 5 (.boxv (.t 2)),ic 6 (.alloc (aO (U0) 12))] (.seq (.draw [Dm 7 0,Dv 8 (.slice (.arr 12) 1 (.t 4) none none none) [4],Dv 9 (.slice (.arr 12) 1 (.t 5) none none none) [5],Dc 10 (.callv (.t 7) [.t 8,.t 9]) [7,8,9],Dv 11 (.s2a 12 (.t 10)) [10],Dr 12 (.ld 12 true (.t 11)) [11] 1 1,Dn (.st 12 (.t 6) (.t 12)) [6,12]]) .ret)
def Rh:a8:=⟨13,Kx,[.cell 6 12 true],none⟩
def dO:AC:=.seq (Sr [Mv 38 10,Bi 39 .geq 38 0] (Cd 39 .skip (.exit 0))) (.seq (.blk 1 (Sr [Mv 42 0,Mv 43 9,Mv 44 9,Cr 45 bS [.t 42,.t 43,.t 44],Mv 9 45] (Sr [Mv 46 2,Mv 47 10,Bi 48 .quo 47 64,Ia 49 46 48,Ld 50 49,Mv 51 10,Bi 52 .rem 51 64,Bt 53 .shr 50 52,iv 54 (.bin .and (.t 53) (.k (.int .u64 1))),iv 55 (.bin .eql (.t 54) (.k (.int .u64 1)))] (Cd 55 (.reg [Mv 56 0,Mv 57 9,Mv 58 8,Cr 59 bS [.t 56,.t 57,.t 58],Mv 9 59]) .skip)))) (.reg [Mv 40 10,Bi 41 .sub 40 1,Mv 10 41]))
def p8:AC:=Sr [iv 6 (.mv (.k (.nsl)))] (Sr [Mv 11 0,Nk 12 11,Fa 13 0 12,Ld 14 13,iv 15 (.lenL (.t 14)),ic 16 (.mk 1 [U0] (.t 15)),Mv 7 16] (Sr [Mv 17 7,iv 18 (.iadr none 1 (.t 17) (K0 0)),jc (.st 1 (.t 18) (.k (.int .u64 1)))] (.seq (.draw [Dm 19 0,Dm 20 0,Dm 21 1,Dr 22 (.call jq [.t 20,.t 21]) [20,21] 0 0,Dm 23 0,Dk 24 23,Df 25 2 24,Dl 26 25,Dr 27 (.call bS [.t 19,.t 22,.t 26]) [19,22,26] 0 0,Dm 28 0,Dm 29 7,Dm 30 0,Dk 31 30,Df 32 2 31,Dl 33 32,Dr 34 (.call bS [.t 28,.t 29,.t 33]) [28,29,33] 0 0,Dm 8 27,Dm 9 34]) (.seq (Sr [Mv 35 2,Cr 36 tS [.t 35],Bi 37 .sub 36 1,Mv 10 37] (.blk 0 (.loop dO))) (Sr [Mv 60 0,Mv 61 9,Mv 62 7,Cr 63 bS [.t 60,.t 61,.t 62],Mv 6 63] .ret)))))
def wI:a8:=⟨64,p8,[.tmp 6],none⟩
def eX:AC:=Sr [Bt 21 .lss 20 19] (.seq (Cd 21 .skip (.exit 2)) (.seq (.blk 3 (Sr [Ia 22 18 20,Ld 23 22,Mv 6 23] (Sr [Mv 24 3,Mv 25 6,Bt 26 .quo 24 25,Bi 27 .rem 26 2,Bi 28 .eql 27 1] (Cd 28 (.reg [Mv 29 3,Mv 30 6,Bt 31 .sub 29 30,Mv 3 31]) (.reg [Mv 32 3,Mv 33 6,Bt 34 .add 32 33,Mv 3 34]))))) (.reg [Bi 35 .add 20 1,Mv 20 35])))
def j3:AC:=.seq (Sr [Mv 7 4,Mv 8 0,Bt 9 .lss 7 8] (Cd 9 .skip (.exit 0))) (.seq (.blk 1 (Sr [Mv 12 3,Bi 13 .mul 12 2,Mv 3 13] (Sr [Mv 14 3,Bi 15 .geq 14 256] (Cd 15 (Sr [Mv 16 3,Bi 17 .sub 16 256,Mv 3 17] (Sr [iv 18 (.slit 1 4 [I0] [(0,K0 64),(1,K0 32),(2,K0 16),(3,K0 1)]),iv 19 (.lenL (.t 18)),Mk 20 0] (.blk 2 (.loop eX)))) .skip)))) (.reg [Mv 10 4,Bi 11 .add 10 1,Mv 4 11]))
def sW:AC:=Sr [iv 2 (.mv (.k (.bool false)))] (Sr [Mk 3 1] (.seq (Sr [Mk 4 0] (.blk 0 (.loop j3))) (Sr [Mv 36 3,Bi 37 .rem 36 2,Bi 38 .eql 37 1,Mv 2 38] .ret)))
def z6:a8:=⟨39,sW,[.tmp 2],none⟩
def ko:AC:=Sr [iv 4 (.mv (.k (U0)))] (Sr [Mv 6 1,iv 7 (.i2i .u64 (.t 6)),iv 8 (.bin .and (.t 7) (.k (.int .u64 63))),Mv 5 8] (Sr [Mv 9 0,Mv 10 5,Bt 11 .shl 9 10,Mv 12 0,Mv 13 5,iv 14 (.bin .sub (.k (.int .u64 64)) (.t 13)),Bt 15 .shr 12 14,Bt 16 .or 11 15,Mv 4 16] .ret))
def pw:a8:=⟨17,ko,[.tmp 4],none⟩
def HG:AC:=Sr [iv 4 (.mv (.k (.nsl))),iv 5 (.mv (.k (U0)))] (Sr [Mv 6 0,Mv 7 1,ir 8 (.call yo [.t 6,.t 7,.k (.fn (.func gJ) [] [])]),Ex 9 8 0,Ex 10 8 1,Mv 4 9,Mv 5 10] .ret)
def N8:a8:=⟨11,HG,[.tmp 4,.tmp 5],none⟩
def hJ:AC:=Sr [Mk 4 0] (Sr [Mv 7 0,Cr 8 j7 [.t 7],Mv 5 8] (Sr [Mv 9 1,Cr 10 j7 [.t 9],Mv 6 10] (.seq (Sr [Mv 11 5] (Cd 11 (.seq (Sr [Mv 12 6] (Cd 12 (Sr [Mk 4 0] .ret) .skip)) (Sr [Mk 4 (-1)] .ret)) .skip)) (.seq (Sr [Mv 13 6] (Cd 13 (Sr [Mk 4 1] .ret) .skip)) (.seq (Sr [Mv 14 0,Mv 15 1,Bt 16 .lss 14 15] (Cd 16 (Sr [Mk 4 (-1)] .ret) .skip)) (.seq (Sr [Mv 17 0,Mv 18 1,Bt 19 .gtr 17 18] (Cd 19 (Sr [Mk 4 1] .ret) .skip)) (Sr [Mk 4 0] .ret)))))))
def vh:a8:=⟨20,hJ,[.tmp 4],none⟩
def Fy:AC:=Sr [iv 4 (.mv (.k (U0)))] (.seq (Sr [Mv 5 1,Mv 6 0,iv 7 (.lenL (.t 6)),Bt 8 .lss 5 7] (Cd 8 (Sr [Mv 9 0,Mv 10 1,Ia 11 9 10,Ld 12 11,Mv 4 12] .ret) .skip)) (Sr [iv 4 (.mv (.k (U0)))] .ret))
def Rj:a8:=⟨13,Fy,[.tmp 4],none⟩
def aP:AC:=Sr [Bt 34 .lss 33 32] (.seq (Cd 34 .skip (.exit 2)) (.seq (.blk 3 (Sr [Mv 35 33,Ia 36 31 33,Ld 37 36,Mv 13 35,Mv 14 37] (.reg [Mv 39 8,Mv 40 13,Mv 41 8,Mv 42 13,Ia 43 41 42,Ld 44 43,Mv 45 10,Mv 46 14,Mv 47 11,Cr 48 qw [.t 44,.t 45,.t 46,.t 47],Mv 38 48,Ex 49 38 0,Ex 50 38 1,Ia 51 39 40,Sx 51 49,Mv 11 50]))) (.reg [Bi 52 .add 33 1,Mv 33 52])))
def bK:AC:=.seq (Sr [Mv 92 16,Mv 93 7,Bt 94 .lss 92 93] (Cd 94 .skip (.exit 4))) (.seq (.blk 5 (.draw [Dm 98 8,Dm 99 16,Dv 100 (.bin .sub (.t 99) (K0 1)) [99],Dm 101 8,Dm 102 16,Dv 103 (.iadr none 1 (.t 101) (.t 102)) [101,102],Dl 104 103,Dm 105 15,Dm 106 0,Dk 107 106,Df 108 0 107,Dl 109 108,Dm 110 16,Dv 111 (.iadr none 1 (.t 109) (.t 110)) [109,110],Dl 112 111,Dm 113 11,Dr 114 (.call qw [.t 104,.t 105,.t 112,.t 113]) [104,105,112,113] 0 0,Dm 97 114,Dv 115 (.ext (.t 97) 0) [97],Dv 116 (.ext (.t 97) 1) [97],Dv 117 (.iadr none 1 (.t 98) (.t 100)) [98,100],Dn (.st 1 (.t 117) (.t 115)) [117,115],Dm 11 116])) (.reg [Mv 95 16,Bi 96 .add 95 1,Mv 16 96]))
def bm:AC:=Sr [Bt 28 .lss 27 26] (.seq (Cd 28 .skip (.exit 0)) (.seq (.blk 1 (Sr [Ia 29 25 27,Ld 30 29,Mv 10 30] (Sr [iv 11 (.mv (.k (U0))),iv 12 (.mv (.k (U0)))] (.seq (Sr [Mv 31 2,iv 32 (.lenL (.t 31)),Mk 33 0] (.blk 2 (.loop aP))) (Sr [Mv 54 8,Mv 55 7,Mv 56 8,Mv 57 7,Ia 58 56 57,Ld 59 58,Mv 60 11,Ca 61 bU [.t 59,.t 60,.k (U0)],Mv 53 61,Ex 62 53 0,Ex 63 53 1,Ia 64 54 55,Sx 64 62,Mv 12 63] (Sr [Mv 65 8,Mv 66 7,Bi 67 .add 66 1,Mv 68 12,Ia 69 65 67,Sx 69 68] (.seq (.draw [Dm 70 8,Dv 71 (.iadr none 1 (.t 70) (K0 0)) [70],Dl 72 71,Dm 73 0,Dk 74 73,Df 75 1 74,Dl 76 75,Dv 77 (.bin .mul (.t 72) (.t 76)) [72,76],Dm 15 77]) (.seq (.draw [Dm 79 8,Dv 80 (.iadr none 1 (.t 79) (K0 0)) [79],Dl 81 80,Dm 82 15,Dm 83 0,Dk 84 83,Df 85 0 84,Dl 86 85,Dv 87 (.iadr none 1 (.t 86) (K0 0)) [86],Dl 88 87,Dr 89 (.call qw [.t 81,.t 82,.t 88,.k (U0)]) [81,82,88] 0 0,Dm 78 89,Dv 90 (.ext (.t 78) 0) [78],Dv 91 (.ext (.t 78) 1) [78],Dm 11 91]) (.seq (Sr [Mk 16 1] (.blk 4 (.loop bK))) (Sr [Mv 119 8,Mv 120 7,Bi 121 .sub 120 1,Mv 122 8,Mv 123 7,Ia 124 122 123,Ld 125 124,Mv 126 11,Ca 127 bU [.t 125,.t 126,.k (U0)],Mv 118 127,Ex 128 118 0,Ex 129 118 1,Ia 130 119 121,Sx 130 128,Mv 12 129] (.reg [Mv 131 8,Mv 132 7,Mv 133 8,Mv 134 7,Bi 135 .add 134 1,Ia 136 133 135,Ld 137 136,Mv 138 12,Bt 139 .add 137 138,Ia 140 131 132,Sx 140 139]))))))))))) (.reg [Bi 141 .add 27 1,Mv 27 141])))
def mG:AC:=Sr [iv 6 (.mv (.k (.nsl)))] (Sr [Mv 17 0,Nk 18 17,Fa 19 0 18,Ld 20 19,iv 21 (.lenL (.t 20)),Mv 7 21] (Sr [Mv 22 7,Bi 23 .add 22 2,ic 24 (.mk 1 [U0] (.t 23)),Mv 8 24] (.seq (Sr [Mv 25 1,iv 26 (.lenL (.t 25)),Mk 27 0] (.blk 0 (.loop bm))) (.seq (.draw [Dm 142 0,Dm 143 8,Dm 144 7,Dv 145 (.slice .slc 1 (.t 143) none (some (.t 144)) none) [143,144],Dm 146 8,Dm 147 7,Dv 148 (.iadr none 1 (.t 146) (.t 147)) [146,147],Dl 149 148,Dr 150 (.call fm [.t 142,.t 145,.t 149]) [142,145,149] 0 0,Dm 6 150]) .ret))))
def sn:a8:=⟨151,mG,[.tmp 6],none⟩
def ot:AC:=Sr [Bt 20 .lss 19 18] (.seq (Cd 20 .skip (.exit 0)) (.seq (.blk 1 (Sr [Mv 21 19,Mv 10 21] (.reg [Mv 23 8,Mv 24 10,Mv 25 2,Mv 26 0,Mv 27 10,Cr 28 td [.t 26,.t 27],Mv 29 1,Mv 30 10,Cr 31 td [.t 29,.t 30],Mv 32 9,ic 33 (.callv (.t 25) [.t 28,.t 31,.t 32]),Mv 22 33,Ex 34 22 0,Ex 35 22 1,Ia 36 23 24,Sx 36 34,Mv 9 35]))) (.reg [Bi 37 .add 19 1,Mv 19 37])))
def Ew:AC:=Sr [iv 6 (.mv (.k (.nsl))),iv 7 (.mv (.k (U0)))] (Sr [Mv 11 0,iv 12 (.lenL (.t 11)),Mv 13 1,iv 14 (.lenL (.t 13)),iv 15 (.mxmn true [.t 12,.t 14]),ic 16 (.mk 1 [U0] (.t 15)),Mv 8 16] (Sr [iv 9 (.mv (.k (U0)))] (.seq (Sr [Mv 17 8,iv 18 (.lenL (.t 17)),Mk 19 0] (.blk 0 (.loop ot))) (Sr [Mv 38 8,Mv 39 9,Mv 6 38,Mv 7 39] .ret))))
def Lj:a8:=⟨40,Ew,[.tmp 6,.tmp 7],none⟩
def rn:AC:=Sr [iv 2 (.mv (.k (.bool false)))] (Sr [Mv 3 0,Mv 4 0,Bt 5 .neq 3 4,Mv 2 5] .ret)
def ye:a8:=⟨6,rn,[.tmp 2],none⟩
def Ey:AC:=Sr [iv 8 (.mv (.k (U0))),iv 9 (.mv (.k (U0)))] (Sr [Mv 14 1,Mv 15 2,Cr 16 j4 [.t 14,.t 15],Mv 13 16,Ex 17 13 0,Ex 18 13 1,Mv 10 17,Mv 11 18] (Sr [Mv 20 11,Mv 21 0,Ca 22 bU [.t 20,.t 21,.k (U0)],Mv 19 22,Ex 23 19 0,Ex 24 19 1,Mv 11 23,Mv 12 24] (Sr [Mv 25 10,Mv 26 12,Bt 27 .add 25 26,Mv 10 27] (Sr [Mv 29 11,Mv 30 3,Ca 31 bU [.t 29,.t 30,.k (U0)],Mv 28 31,Ex 32 28 0,Ex 33 28 1,Mv 11 32,Mv 12 33] (Sr [Mv 34 11,Mv 35 10,Mv 36 12,Bt 37 .add 35 36,Mv 8 34,Mv 9 37] .ret)))))
def Ll:a8:=⟨38,Ey,[.tmp 8,.tmp 9],none⟩
def iA:AC:=Sr [Mv 2 0,Ca 3 bQ [.t 2]] (.seq (.draw [Dm 4 0,Dk 5 4,Df 6 1 5,Dl 7 6,Dm 8 0,Dk 9 8,Df 10 0 9,Dl 11 10,Dr 12 (.inv (.t 11) "Rate" []) [11] 0 0,Dv 13 (.slice .slc 1 (.t 7) none (some (.t 12)) none) [7,12],Dn (.clear [B0] (.t 13)) [13]]) (.reg [Mv 14 0,Mv 15 0,Nk 16 15,Fa 17 0 16,Ld 18 17,ir 19 (.inv (.t 18) "Rate" []),Nk 20 14,Fa 21 3 20,Sx 21 19]))
def m9:a8:=⟨22,iA,[],none⟩
def iB:AC:=.seq (.draw [Dm 2 0,Dk 3 2,Df 4 0 3,Dl 5 4,Dm 6 0,Dk 7 6,Df 8 1 7,Dl 9 8,Dk 10 5,Dm 11 5,Dc 12 (.inv (.t 11) "Permute" [.t 9]) [11,9]]) (Sr [Mv 13 0,Nk 14 13,Fa 15 4 14,Ld 16 15,Bi 17 .add 16 1,Nk 18 13,Fa 19 4 18,Sx 19 17] (.reg [Mv 20 0,Nk 21 20,Fa 22 2 21,jc (.st 1 (.t 22) (K0 0))]))
def na:a8:=⟨23,iB,[],none⟩
def jb:AC:=Sr [iv 2 (.boxv (.t 0)),iv 4 (.mv (.k (.nsl)))] (Sr [Fa 5 0 2,Ld 6 5,Mv 7 1,Ca 8 cQ [.t 6,.t 7],Mv 4 8] .ret)
def nW:a8:=⟨9,jb,[.tmp 4],none⟩
def iC:AC:=Sr [iv 2 (.boxv (.t 0)),iv 4 (.mv (.k (.nsl))),Mk 5 0] (Sr [Mv 10 1,Lt 11 1 2,iv 12 (.mkfn (.func dt) [.t 11] []),Ca 13 pL [.t 10,.t 12],Mv 9 13,Ex 14 9 0,Ex 15 9 1,Ex 16 9 2,Mv 6 14,Mv 7 15,Mv 8 16] (Sr [Mv 17 6,Mv 18 8,Mv 4 17,Mv 5 18] .ret))
def nc:a8:=⟨19,iC,[.tmp 4,.tmp 5],none⟩
def jI:AC:=Sr [iv 2 (.boxv (.t 0)),iv 3 (.boxv (.t 1))] (.draw [Df 4 0 2,Dl 5 4,Dr 6 (.ld 4 true (.t 3)) [3] 0 0,Dr 7 (.call oF [.t 6]) [6] 0 0,Dc 8 (.call eZ [.t 5,.t 7]) [5,7]])
def oJ:a8:=⟨9,jI,[],none⟩
def cq:AC:=Sr [Bt 9 .lss 8 7] (.seq (Cd 9 .skip (.exit 0)) (.seq (.blk 1 (.seq (.seq (.draw [Dm 10 0,Dk 11 10,Df 12 3 11,Dl 13 12,Dm 14 0,Dk 15 14,Df 16 0 15,Dl 17 16,Dr 18 (.inv (.t 17) "Rate" []) [17] 0 0,Dv 19 (.bin .eql (.t 13) (.t 18)) [13,18]]) (Cd 19 (Sr [Mv 20 0,Ca 21 bQ [.t 20]] (.reg [Mv 22 0,Nk 23 22,Fa 24 3 23,jc (.st 1 (.t 24) (K0 0))])) .skip)) (.seq (.draw [Dm 25 5,Dm 26 0,Dk 27 26,Df 28 1 27,Dl 29 28,Dm 30 0,Dk 31 30,Df 32 3 31,Dl 33 32,Dv 34 (.iadr none 1 (.t 29) (.t 33)) [29,33],Dl 35 34,Dv 36 (.slit 1 1 [B0] [(0,.t 35)]) [35],Dc 37 (.app 1 false (.t 25) (.t 36)) [25,36],Dm 5 37]) (.reg [Mv 38 0,Nk 39 38,Fa 40 3 39,Ld 41 40,Bi 42 .add 41 1,Nk 43 38,Fa 44 3 43,Sx 44 42])))) (.reg [Bi 45 .add 8 1,Mv 8 45])))
def iD:AC:=Sr [iv 4 (.mv (.k (.nsl)))] (Sr [iv 5 (.mv (.k (.nsl)))] (.seq (Sr [Mv 6 1,iv 7 (.mxmn true [.t 6,K0 0]),Mk 8 0] (.blk 0 (.loop cq))) (Sr [Mv 46 5,Mv 4 46] .ret)))
def nf:a8:=⟨47,iD,[.tmp 4],none⟩
def ll:AC:=Sr [Bt 15 .lss 14 13] (.seq (Cd 15 .skip (.exit 0)) (.seq (.blk 1 (Sr [Mv 17 1,Ca 18 rL [.t 17],Mv 16 18,Ex 19 16 0,Ex 20 16 1,Ex 21 16 2,ic 9 (.alloc (aO (U0) 4)),Sv 4 9 19,Mv 10 20,Mv 11 21] (Sr [Mv 22 8,Mv 23 10,Bt 24 .add 22 23,Mv 8 24] (.seq (Sr [Mv 25 11,Bi 26 .neq 25 0] (Cd 26 (Sr [Mv 27 8,Mv 28 11,iv 4 (.mv (.k (.nsl))),Mv 5 27,Mv 6 28] .ret) .skip)) (.reg [Mv 29 7,Lt 30 4 9,iv 31 (.slit 4 1 (aO (U0) 4) [(0,.t 30)]),ic 32 (.app 4 false (.t 29) (.t 31)),Mv 7 32]))))) (.reg [Bi 33 .add 14 1,Mv 14 33])))
def uJ:AC:=Sr [iv 4 (.mv (.k (.nsl))),Mk 5 0,Mk 6 0] (Sr [iv 7 (.mv (.k (.nsl)))] (Sr [Mk 8 0] (.seq (Sr [Mv 12 0,iv 13 (.mxmn true [.t 12,K0 0]),Mk 14 0] (.blk 0 (.loop ll))) (Sr [Mv 34 7,Mv 35 8,Mv 4 34,Mv 5 35,Mk 6 0] .ret))))
def CG:a8:=⟨36,uJ,[.tmp 4,.tmp 5,.tmp 6],none⟩
def jf:AC:=Sr [iv 1 (.boxv (.t 0)),ic 2 (.alloc (aO (B0) 32))] (Sr [Fa 3 0 1,Ld 4 3,Ca 5 cQ [.t 4,K0 32],iv 6 (.s2a 32 (.t 5)),Lt 7 32 6,Sv 32 2 7] .ret)
def nY:a8:=⟨8,jf,[.cell 2 32 true],none⟩
def cN:AC:=Sr [Bt 15 .lss 14 13] (.seq (Cd 15 .skip (.exit 0)) (.seq (.blk 1 (Sr [Ia 16 12 14,Ld 17 16,Mv 6 17] (.seq (Sr [Mv 18 0,Nk 19 18,Fa 20 2 19,Ld 21 20,Mv 22 4,Bt 23 .eql 21 22] (Cd 23 (.reg [Mv 24 0,Ca 25 bQ [.t 24]]) .skip)) (.seq (.draw [Dm 26 0,Dk 27 26,Df 28 1 27,Dl 29 28,Dm 30 0,Dk 31 30,Df 32 2 31,Dl 33 32,Dm 34 6,Dv 35 (.iadr none 1 (.t 29) (.t 33)) [29,33],Dn (.st 1 (.t 35) (.t 34)) [35,34]]) (Sr [Mv 36 0,Nk 37 36,Fa 38 2 37,Ld 39 38,Bi 40 .add 39 1,Nk 41 36,Fa 42 2 41,Sx 42 40] (.reg [Mv 43 0,Mv 44 4,Nk 45 43,Fa 46 3 45,Sx 46 44])))))) (.reg [Bi 47 .add 14 1,Mv 14 47])))
def jg:AC:=Sr [Mv 7 0,Nk 8 7,Fa 9 0 8,Ld 10 9,ir 11 (.inv (.t 10) "Rate" []),Mv 4 11] (Sr [Mv 12 1,iv 13 (.lenL (.t 12)),Mk 14 0] (.blk 0 (.loop cN)))
def nZ:a8:=⟨48,jg,[],none⟩
def lm:AC:=Sr [iv 1 (.boxv (.t 0)),iv 2 (.mv (.k (.nsl)))] (.seq (Sr [Lt 4 4 1,Cr 5 nr [.t 4],iv 6 (.un .not (.t 5))] (Cd 6 (Sr [iv 2 (.mv (.k (.nsl)))] .ret) .skip)) (Sr [Fa 7 0 1,Ld 8 7,iv 9 (.i2i .u8 (.t 8)),Fa 10 1 1,Ld 11 10,iv 12 (.i2i .u8 (.t 11)),Fa 13 2 1,Ld 14 13,iv 15 (.i2i .u8 (.t 14)),Fa 16 2 1,Ld 17 16,iv 18 (.bin .shr (.t 17) (.k (.int .u64 8))),iv 19 (.i2i .u8 (.t 18)),Fa 20 2 1,Ld 21 20,iv 22 (.bin .shr (.t 21) (.k (.int .u64 16))),iv 23 (.i2i .u8 (.t 22)),Fa 24 2 1,Ld 25 24,iv 26 (.bin .shr (.t 25) (.k (.int .u64 24))),iv 27 (.i2i .u8 (.t 26)),iv 28 (.slit 1 6 [B0] [(0,.t 9),(1,.t 12),(2,.t 15),(3,.t 19),(4,.t 23),(5,.t 27)]),Mv 3 28] (Sr [Mv 29 3,Fa 30 3 1,Ld 31 30,ic 32 (.app 1 false (.t 29) (.t 31)),Mv 2 32] .ret)))
def Ae:a8:=⟨33,lm,[.tmp 2],none⟩
def mf:AC:=Sr [Bi 10 .lss 9 64] (.seq (Cd 10 .skip (.exit 0)) (.seq (.blk 1 (Sr [Mv 11 9,Mv 5 11] (Sr [Mv 12 0,ic 13 (.callv (.t 12) []),Cr 14 tA [.t 13],ic 6 (.alloc (aO (B0) 32)),Sv 32 6 14] (Sr [iv 16 (.slice (.arr 32) 1 (.t 6) none none none),Cr 17 gx [.t 16],Mv 15 17,Ex 18 15 0,Ex 19 15 1,ic 7 (.alloc (aO (U0) 4)),Sv 4 7 18,Mv 8 19] (Sr [Mv 20 8,Bi 21 .eql 20 0] (Cd 21 (Sr [Lt 22 4 7,Mv 23 5,Bi 24 .add 23 1,Sv 4 2 22,Mv 3 24,Mk 4 0] .ret) .skip)))))) (.reg [Bi 25 .add 9 1,Mv 9 25])))
def wS:AC:=Sr [ic 2 (.alloc (aO (U0) 4)),Mk 3 0,Mk 4 0] (.seq (Sr [Mk 9 0] (.blk 0 (.loop mf))) (Sr [iv 26 (.build (aO (U0) 4) []),Sv 4 2 26,Mk 3 64,Mk 4 11] .ret))
def EE:a8:=⟨27,wS,[.cell 2 4 true,.tmp 3,.tmp 4],none⟩
def gH:AC:=Sr [iv 1 (.boxv (.t 0)),iv 2 (.mv (.k (.bool false)))] (.seq (Sr [Fa 5 0 1,Ld 6 5,Fa 7 1 1,Ld 8 7,Fa 9 2 1,Ld 10 9,iv 11 (.build [I0,I0,I0,.str ⟨#[]⟩] [(0,1,.t 6),(1,1,.t 8),(2,1,.t 10)]),Cr 12 lH [.t 11],Bi 13 .neq 12 0] (Cd 13 (Sr [iv 2 (.mv (.k (.bool false)))] .ret) .skip)) (.seq (Sr [Fa 14 0 1,Ld 15 14,Bi 16 .neq 15 1] (Cd 16 (Sr [Fa 17 3 1,Ld 18 17,iv 19 (.lenL (.t 18)),Bi 20 .eql 19 0,Mv 2 20] .ret) .skip)) (Sr [Fa 22 1 1,Ld 23 22,Fa 24 3 1,Ld 25 24,Cr 26 ls [.t 23,.t 25],Mv 21 26,Ex 27 21 0,Ex 28 21 1,Mv 3 27,Mv 4 28] (Sr [Mv 29 3,Fa 30 2 1,Ld 31 30,Bt 32 .eql 29 31,Mv 33 32,Gv 34 (.fadr 1 (.t 1)) 33 true [],Gr 35 (.ld 1 false (.t 34)) 33 true [] 0 0,Gv 36 (.fadr 3 (.t 1)) 33 true [],Gr 37 (.ld 1 false (.t 36)) 33 true [] 0 0,Gr 38 (.call oa [.t 35,.t 37]) 33 true [] 0 0,Gv 39 (.bin .eql (.t 38) (K0 0)) 33 true [],iv 40 (.pick (.t 33) (.t 39) (.k (.bool false))),Mv 2 40] .ret))))
def yi:a8:=⟨41,gH,[.tmp 2],none⟩
def yW:AC:=Sr [ic 1 (.box (.t 0)),ic 2 (.alloc (aO (B0) 32))] (Sr [iv 3 (.iadr (some 32) 1 (.t 1) (K0 31)),Ld 4 3,iv 5 (.bin .and (.t 4) (.k (.int .u8 63))),iv 6 (.iadr (some 32) 1 (.t 1) (K0 31)),Sx 6 5] (Sr [Lt 7 32 1,Sv 32 2 7] .ret))
def GZ:a8:=⟨8,yW,[.cell 2 32 true],none⟩
def lR:AC:=Sr [iv 2 (.boxv (.t 0))] (Sr [Mv 8 1,Cr 9 oG [.t 8],Mv 7 9,Ex 10 7 0,Ex 11 7 1,ic 4 (.alloc (aO (U0) 25)),Sv 25 4 10,Mv 5 11] (.seq (Sr [Mv 12 5,Bi 13 .neq 12 0] (Cd 13 .ret .skip)) (Sr [Lt 14 25 4,Cr 15 dD [.t 14],Cr 16 fY [.t 15],ic 6 (.alloc (aO (B0) 200)),Sv 200 6 16] (.reg [Mv 17 1,iv 18 (.slice (.arr 200) 1 (.t 6) none none none),ic 19 (.copy 1 (.t 17) (.t 18))]))))
def rE:a8:=⟨20,lR,[],none⟩
def o6:AC:=Sr [iv 1 (.boxv (.t 0)),Mk 2 0] (Sr [Mk 2 136] .ret)
def vj:a8:=⟨3,o6,[.tmp 2],none⟩
def n8:AC:=Sr [iv 1 (.boxv (.t 0)),Mk 2 0] (Sr [Mk 2 200] .ret)
def ui:a8:=⟨3,n8,[.tmp 2],none⟩
def s6:AC:=Sr [ic 2 (.alloc (aO (U0) 25)),Mk 3 0] (.seq (Sr [Mv 4 0,iv 5 (.lenL (.t 4)),Bi 6 .neq 5 200] (Cd 6 (Sr [iv 7 (.build (aO (U0) 25) []),Sv 25 2 7,Mk 3 1] .ret) .skip)) (Sr [Mv 8 0,Cr 9 oi [.t 8],iv 10 (.s2a 25 (.t 9)),Lt 11 25 10,Sv 25 2 11,Mk 3 0] .ret))
def Aj:a8:=⟨12,s6,[.cell 2 25 true,.tmp 3],none⟩
def zg6:FuncId->Option a8
 | 4=>some oI
 | 9=>some GL
 | 10=>some zy
 | 12=>some tT
 | 13=>some wj
 | 14=>some wk
 | 15=>some wl
 | 16=>some wm
 | 18=>some zF
 | 19=>some zG
 | 25=>some xJ
 | 26=>some zH
 | 27=>some r6
 | 28=>some uX
 | 32=>some K7
 | 33=>some QR
 | 34=>some uY
 | 35=>some GQ
 | 37=>some kX
 | 38=>some kx
 | 39=>some jF
 | 40=>some r8
 | 41=>some ky
 | 42=>some kY
 | 48=>some xM
 | 49=>some xN
 | 50=>some r9
 | 52=>some tU
 | 53=>some sd
 | 54=>some qn
 | 55=>some uZ
 | 56=>some se
 | 57=>some tX
 | 59=>some Cw
 | 60=>some u3
 | 61=>some IH
 | 62=>some jG
 | 63=>some Cx
 | 64=>some Cy
 | 68=>some mX
 | 69=>some Eg
 | 70=>some wB
 | 71=>some ma
 | 72=>some Ej
 | 73=>some si
 | 74=>some IP
 | 75=>some tZ
 | 83=>some xX
 | 84=>some CB
 | 85=>some wC
 | 86=>some u4
 | 87=>some qq
 | 88=>some x7
 | 89=>some ri
 | 92=>some u6
 | 93=>some wD
 | 94=>some wE
 | 95=>some u9
 | 96=>some wF
 | 97=>some pt
 | 100=>some uR
 | 101=>some uS
 | 102=>some uT
 | 103=>some mN
 | 105=>some tF
 | 106=>some GD
 | 107=>some GF
 | 108=>some uU
 | 109=>some xC
 | 110=>some zj
 | 114=>some GG
 | 115=>some vU
 | 116=>some Ct
 | 117=>some Cu
 | 118=>some tG
 | 124=>some xE
 | 125=>some xF
 | 126=>some tH
 | 127=>some tI
 | 128=>some xG
 | 129=>some xH
 | 130=>some uV
 | 131=>some rW
 | 132=>some rX
 | 134=>some rY
 | 135=>some vW
 | 136=>some vX
 | 137=>some vY
 | 138=>some vZ
 | 139=>some v6
 | _=>none
def zg8:FuncId->Option a8
 | 140=>some ph
 | 141=>some rZ
 | 144=>some pi
 | 146=>some tV
 | 147=>some tW
 | 148=>some ww
 | 149=>some IF
 | 150=>some qo
 | 151=>some GS
 | 152=>some xP
 | 153=>some qZ
 | 154=>some tY
 | 155=>some GV
 | 156=>some NI
 | 157=>some GW
 | 158=>some sf
 | 159=>some IL
 | 160=>some Lc
 | 161=>some xS
 | 162=>some xV
 | 163=>some xW
 | 164=>some IR
 | 165=>some CC
 | 166=>some IV
 | 168=>some GX
 | 170=>some x6
 | 177=>some zU
 | 178=>some u5
 | 179=>some t7
 | 180=>some sk
 | 181=>some vc
 | 182=>some vd
 | 184=>some wG
 | 185=>some uc
 | 186=>some ve
 | 190=>some IX
 | 191=>some pu
 | 192=>some ud
 | 193=>some m7
 | 194=>some ue
 | 195=>some I3
 | 196=>some Lh
 | 197=>some Es
 | 198=>some I6
 | 199=>some z7
 | 200=>some CF
 | 201=>some z8
 | 202=>some Aa
 | 203=>some Li
 | 204=>some yb
 | 211=>some yd
 | 212=>some Ab
 | 213=>some yf
 | 214=>some vi
 | 215=>some rt
 | 219=>some wQ
 | 220=>some CH
 | 221=>some wR
 | 224=>some ss
 | 225=>some uh
 | 226=>some ub
 | 227=>some wH
 | 228=>some x9
 | 229=>some vg
 | 231=>some Lg
 | 232=>some I1
 | 233=>some N3
 | 234=>some ug
 | 235=>some Rh
 | 236=>some wI
 | 237=>some z6
 | 243=>some pw
 | 244=>some N8
 | 245=>some vh
 | 246=>some Rj
 | 247=>some sn
 | 248=>some Lj
 | 249=>some ye
 | 250=>some Ll
 | 271=>some m9
 | 272=>some na
 | 273=>some nW
 | 274=>some nc
 | 275=>some oJ
 | 276=>some nf
 | 277=>some CG
 | 278=>some nY
 | 279=>some nZ
 | 280=>some Ae
 | 281=>some EE
 | _=>none
def zg9:FuncId->Option a8
 | 282=>some yi
 | 283=>some GZ
 | 304=>some rE
 | 305=>some vj
 | 306=>some ui
 | 307=>some Aj
 | _=>none
def orA (x y:Option a8):Option a8:=match x with
 | some F=>some F
 | none=>y
def zrA (f:FuncId):Option a8:=orA (zg6 f) (orA (zg8 f) (zg9 f))
theorem zhb {x y:Option a8}{F:a8}(h:orA x y=some F):x=some F\/y=some F:=by
 unfold orA at h;split at h
 ·exact .inl h
 ·exact .inr h
def zrB:FuncId->Av.Mode
 | 9=>⟨true,false,false,false⟩
 | 18=>⟨false,false,true,false⟩
 | 19=>⟨false,false,false,false⟩
 | 32=>⟨false,false,true,false⟩
 | 35=>⟨false,false,true,false⟩
 | 36=>⟨false,false,true,false⟩
 | 37=>⟨false,false,false,false⟩
 | 38=>⟨false,false,false,false⟩
 | 39=>⟨false,false,false,false⟩
 | 41=>⟨false,false,false,false⟩
 | 42=>⟨false,false,false,false⟩
 | 62=>⟨true,false,false,false⟩
 | 63=>⟨false,false,true,false⟩
 | 65=>⟨false,false,true,false⟩
 | 66=>⟨false,false,true,false⟩
 | 68=>⟨false,false,false,false⟩
 | 70=>⟨false,false,false,false⟩
 | 71=>⟨false,false,false,false⟩
 | 74=>⟨true,false,false,false⟩
 | 75=>⟨false,false,false,false⟩
 | 79=>⟨false,false,false,true⟩
 | 83=>⟨true,false,false,false⟩
 | 85=>⟨true,false,false,false⟩
 | 108=>⟨false,false,false,false⟩
 | 110=>⟨false,false,true,false⟩
 | 111=>⟨false,false,true,false⟩
 | 112=>⟨false,false,true,false⟩
 | 115=>⟨false,false,false,false⟩
 | 118=>⟨false,false,false,false⟩
 | 125=>⟨true,false,false,false⟩
 | 130=>⟨false,false,true,false⟩
 | 134=>⟨true,false,false,false⟩
 | 144=>⟨false,false,true,false⟩
 | 147=>⟨false,false,false,false⟩
 | 148=>⟨false,false,false,false⟩
 | 150=>⟨true,false,false,false⟩
 | 151=>⟨false,false,false,true⟩
 | 152=>⟨false,false,false,false⟩
 | 156=>⟨true,false,false,false⟩
 | 158=>⟨true,false,false,false⟩
 | 159=>⟨true,false,false,false⟩
 | 179=>⟨true,true,false,true⟩
 | 193=>⟨true,false,false,false⟩
 | 194=>⟨true,false,false,false⟩
 | 196=>⟨true,false,false,false⟩
 | 229=>⟨true,false,false,false⟩
 | 233=>⟨true,false,false,false⟩
 | 234=>⟨true,false,false,false⟩
 | 236=>⟨true,false,false,false⟩
 | 244=>⟨true,false,false,false⟩
 | 246=>⟨true,false,false,false⟩
 | 247=>⟨true,false,false,false⟩
 | 248=>⟨true,false,false,false⟩
 | 271=>⟨false,false,false,false⟩
 | 272=>⟨false,false,false,false⟩
 | 273=>⟨false,false,false,false⟩
 | 274=>⟨false,false,false,false⟩
 | 275=>⟨false,false,false,false⟩
 | 276=>⟨false,false,false,false⟩
 | 277=>⟨false,false,false,false⟩
 | 278=>⟨false,false,false,false⟩
 | 279=>⟨false,false,false,false⟩
 | 281=>⟨false,false,false,false⟩
 | 284=>⟨false,false,false,false⟩
 | 286=>⟨false,false,false,false⟩
 | 287=>⟨false,false,false,false⟩
 | 288=>⟨false,false,false,false⟩
 | 289=>⟨false,false,false,false⟩
 | 290=>⟨false,false,false,false⟩
 | 291=>⟨false,false,false,false⟩
 | 292=>⟨false,false,false,false⟩
 | 293=>⟨false,false,false,false⟩
 | 304=>⟨false,false,false,false⟩
 | 308=>⟨false,false,false,false⟩
 | 309=>⟨false,false,false,false⟩
 | 310=>⟨false,false,false,false⟩
 | 311=>⟨false,false,false,false⟩
 | 317=>⟨false,false,true,false⟩
 | 318=>⟨false,false,false,false⟩
 | 327=>⟨false,false,false,false⟩
 | 328=>⟨false,false,false,false⟩
 | 329=>⟨false,false,false,false⟩
 | 335=>⟨true,false,false,false⟩
 | 355=>⟨false,false,false,false⟩
 | _=>Mode.pure
def zaN:Nat->Option (List J)
 | 3=>some ([.int .u64 1,.int .u64 32898,.int .u64 9223372036854808714,.int .u64 9223372039002292224,.int .u64 32907,.int .u64 2147483649,.int .u64 9223372039002292353,.int .u64 9223372036854808585,.int .u64 138,.int .u64 136,.int .u64 2147516425,.int .u64 2147483658,.int .u64 2147516555,.int .u64 9223372036854775947,.int .u64 9223372036854808713,.int .u64 9223372036854808579,.int .u64 9223372036854808578,.int .u64 9223372036854775936,.int .u64 32778,.int .u64 9223372039002259466,.int .u64 9223372039002292353,.int .u64 9223372036854808704,.int .u64 2147483649,.int .u64 9223372039002292232])
 | 0=>some ((Go.Lib.pow10Tab.map fun z=>J.int .u64 z))
 | _=>none
def zmt:List (TypeId × String × FuncId):=[(230,"Width",gp),(230,"Rate",ig),(230,"Permute",e7),(109,"avouch/transcript.tell",dI),(109,"avouch/transcript.bytes",dr),(109,"avouch/transcript.fields",cP)]
def zhf:List (TypeId × String × FuncId × Nat):=[(109,"Ratchet",cO,0),(109,"Calls",oK,0)]
def zhh (t : TypeId)(n : String) : Option (List (Nat × Nat × Bool) × FuncId) := match (zmt.find? fun r => r.1 == t && r.2.1 == n) with
 | some r=>some ([],r.2.2)
 | none=>(zhf.find? fun r=>r.1==t&&r.2.1==n).map fun r=>([(r.2.2.2,1,false)],r.2.2.1)
def zom:FuncId->Option Zc
 | 11=>some (Lp)
 | 167=>some (ziF)
 | 230=>some (zez)
 | _=>none
def ah:eh:={fns:=zrA,mode:=zrB,glob:=zaN,meth:=zhh,ext:=zom,qinv:=fun n=>n== "Width"||n== "Rate"||n== "Calls"}
abbrev aj (f:FuncId)(m:Mode)(n:Nat)(c:AC)(r:List DB):Prop:=∀ (L:az) (a:List J) (h:O),aa ah L f a h=Vj ah L m h n c r (nw m h a)
theorem ae {f:FuncId}{m:Mode}{n:Nat}{c:AC}{r:List DB}(x:ah.ext f=none)(y:ah.fns f=some ⟨n,c,r,none⟩)(z:ah.mode f=m):aj f m n c r:=fun L a h=>z ▸ zf0 h L x y a
theorem LX:ah.ext px=some (Lp):=rfl
theorem Ga:ah.ext bU=some (ziF):=rfl
theorem Gb:ah.ext gJ=some (zez):=rfl
@[simp] theorem zhl:ah.meth 230 "Width"=some ([],gp):=rfl
@[simp] theorem ziW:ah.meth 230 "Rate"=some ([],ig):=rfl
@[simp] theorem zdt:ah.meth 230 "Permute"=some ([],e7):=rfl
@[simp] theorem ziX:ah.meth 109 "avouch/transcript.tell"=some ([],dI):=rfl
@[simp] theorem zhp:ah.meth 109 "avouch/transcript.bytes"=some ([],dr):=rfl
@[simp] theorem zeu:ah.meth 109 "avouch/transcript.fields"=some ([],cP):=rfl
@[simp] theorem zdx:ah.meth 109 "Ratchet"=some ([(0,1,false)],cO):=rfl
@[simp] theorem zhu:ah.meth 109 "Calls"=some ([(0,1,false)],oK):=rfl
theorem uM:aj fA Mode.pure 49 fy [.tmp 2]:=ae rfl rfl rfl
@[simp] theorem Lo:U ah fA=true:=rfl
theorem KH:aj mw (⟨true,false,false,false⟩) 39 po [.tmp 2,.tmp 3,.tmp 4]:=ae rfl rfl rfl
@[simp] theorem zaV:U ah mw=true:=rfl
theorem Gg:aj ou Mode.pure 34 sL [.cell 2 3 true]:=ae rfl rfl rfl
@[simp] theorem V8:U ah ou=true:=rfl
theorem As:aj gj Mode.pure 6 nF [.tmp 0]:=ae rfl rfl rfl
@[simp] theorem Qf:U ah gj=true:=rfl
theorem mJ:aj lO Mode.pure 42 iY [.tmp 2]:=ae rfl rfl rfl
@[simp] theorem Tr:U ah lO=true:=rfl
theorem Dw:aj jd Mode.pure 56 iZ [.tmp 2,.tmp 3,.tmp 4]:=ae rfl rfl rfl
@[simp] theorem Ts:U ah jd=true:=rfl
theorem Dx:aj lP Mode.pure 43 pS [.tmp 4]:=ae rfl rfl rfl
@[simp] theorem Tt:U ah lP=true:=rfl
theorem Dz:aj je Mode.pure 62 pT [.tmp 2]:=ae rfl rfl rfl
@[simp] theorem Tv:U ah je=true:=rfl
theorem vk:aj lk (⟨false,false,true,false⟩) 64 kW [.tmp 4,.tmp 5,.tmp 6]:=ae rfl rfl rfl
@[simp] theorem Wc:U ah lk=false:=rfl
theorem Gq:aj ow (⟨false,false,false,false⟩) 70 fF [.cell 4 2 true]:=ae rfl rfl rfl
@[simp] theorem Wf:U ah ow=false:=rfl
theorem EW:aj ng Mode.pure 55 jX [.cell 6 15 true,.tmp 7,.tmp 8]:=ae rfl rfl rfl
@[simp] theorem Ul:U ah ng=true:=rfl
theorem Gt:aj eJ Mode.pure 77 fG [.cell 4 15 true,.cell 5 2 true]:=ae rfl rfl rfl
@[simp] theorem Wj:U ah eJ=true:=rfl
theorem kw:aj bR Mode.pure 37 cJ [.tmp 2]:=ae rfl rfl rfl
@[simp] theorem Ps:U ah bR=true:=rfl
theorem B6:aj hZ Mode.pure 11 oS [.tmp 2]:=ae rfl rfl rfl
@[simp] theorem RB:U ah hZ=true:=rfl
theorem OE:aj yg (⟨false,false,true,false⟩) 21 xL [.tmp 2,.tmp 3,.tmp 4]:=ae rfl rfl rfl
@[simp] theorem zex:U ah yg=false:=rfl
theorem TB:aj FC Mode.pure 36 sM [.cell 4 32 true,.tmp 5,.tmp 6]:=ae rfl rfl rfl
@[simp] theorem ziY:U ah FC=true:=rfl
theorem B8:aj ib Mode.pure 8 oT [.tmp 2]:=ae rfl rfl rfl
@[simp] theorem RD:U ah ib=true:=rfl
theorem KK:aj tz (⟨false,false,true,false⟩) 6 yO [.tmp 2]:=ae rfl rfl rfl
@[simp] theorem za3:U ah tz=false:=rfl
theorem qK:aj dF (⟨false,false,false,false⟩) 59 aV [.tmp 6]:=ae rfl rfl rfl
@[simp] theorem HW:U ah dF=false:=rfl
theorem qj:aj dc (⟨false,false,false,false⟩) 28 cZ [.tmp 4,.tmp 5]:=ae rfl rfl rfl
@[simp] theorem G2:U ah dc=false:=rfl
theorem o9:aj cu (⟨false,false,false,false⟩) 42 bF [.tmp 4,.tmp 5]:=ae rfl rfl rfl
@[simp] theorem Fc:U ah cu=false:=rfl
theorem yy:aj jz Mode.pure 10 mB [.cell 2 32 true]:=ae rfl rfl rfl
@[simp] theorem Pa:U ah jz=true:=rfl
theorem pQ:aj de (⟨false,false,false,false⟩) 23 c9 [.tmp 2]:=ae rfl rfl rfl
@[simp] theorem GC:U ah de=false:=rfl
theorem qE:aj dH (⟨false,false,false,false⟩) 8 fH [.tmp 2]:=ae rfl rfl rfl
@[simp] theorem G4:U ah dH=false:=rfl
theorem DC:aj nu Mode.pure 21 mV [.cell 2 3 true,.tmp 3,.tmp 4]:=ae rfl rfl rfl
@[simp] theorem TX:U ah nu=true:=rfl
theorem DD:aj nv Mode.pure 41 eT [.tmp 4,.tmp 5,.tmp 6]:=ae rfl rfl rfl
@[simp] theorem TY:U ah nv=true:=rfl
theorem yA:aj jA Mode.pure 11 mC [.cell 2 4 true]:=ae rfl rfl rfl
@[simp] theorem Pc:U ah jA=true:=rfl
theorem zh:aj kb Mode.pure 60 dk [.cell 6 15 true,.tmp 7]:=ae rfl rfl rfl
@[simp] theorem Py:U ah kb=true:=rfl
theorem yC:aj jB Mode.pure 60 jt [.cell 4 15 true,.tmp 5,.tmp 6]:=ae rfl rfl rfl
@[simp] theorem Pf:U ah jB=true:=rfl
theorem vT:aj eM Mode.pure 95 eA [.cell 4 15 true,.tmp 5,.tmp 6]:=ae rfl rfl rfl
@[simp] theorem Me:U ah eM=true:=rfl
theorem AG:aj kN Mode.pure 6 o8 [.tmp 2]:=ae rfl rfl rfl
@[simp] theorem Qq:U ah kN=true:=rfl
theorem yD:aj jC Mode.pure 32 ju [.cell 2 15 true,.tmp 3]:=ae rfl rfl rfl
@[simp] theorem Pg:U ah jC=true:=rfl
theorem zi:aj kc Mode.pure 16 nK [.cell 2 15 true,.tmp 3]:=ae rfl rfl rfl
@[simp] theorem PA:U ah kc=true:=rfl
theorem G5:aj pM Mode.pure 34 uD [.tmp 2,.tmp 3,.tmp 4]:=ae rfl rfl rfl
@[simp] theorem WV:U ah pM=true:=rfl
theorem AH:aj kO Mode.pure 34 oU [.tmp 2,.tmp 3,.tmp 4]:=ae rfl rfl rfl
@[simp] theorem Qr:U ah kO=true:=rfl
theorem LB:aj rO Mode.pure 16 Bw [.cell 2 32 true]:=ae rfl rfl rfl
@[simp] theorem zbE:U ah rO=true:=rfl
@[simp] theorem Fe:U ah eQ=true:=rfl
theorem G7:aj pO (⟨false,false,true,false⟩) 14 uE [.tmp 4]:=ae rfl rfl rfl
@[simp] theorem WW:U ah pO=false:=rfl
theorem G8:aj pP Mode.pure 3 uF [.tmp 0]:=ae rfl rfl rfl
@[simp] theorem WX:U ah pP=true:=rfl
theorem sB:aj eN (⟨false,false,false,false⟩) 8 iw [.tmp 2]:=ae rfl rfl rfl
@[simp] theorem JF:U ah eN=false:=rfl
theorem Ib:aj ls Mode.pure 33 i7 [.tmp 4,.tmp 5]:=ae rfl rfl rfl
@[simp] theorem Xg:U ah ls=true:=rfl
theorem CO:aj dv (⟨false,false,false,false⟩) 32 i8 [.tmp 4]:=ae rfl rfl rfl
@[simp] theorem R3:U ah dv=false:=rfl
theorem rR:aj bd (⟨false,false,false,false⟩) 16 gR [.tmp 4]:=ae rfl rfl rfl
@[simp] theorem Ic:U ah bd=false:=rfl
theorem Ie:aj oa Mode.pure 44 nM [.tmp 4]:=ae rfl rfl rfl
@[simp] theorem Xh:U ah oa=true:=rfl
theorem yH:aj jD Mode.pure 7 mE [.cell 2 4 true]:=ae rfl rfl rfl
@[simp] theorem Pi:U ah jD=true:=rfl
theorem LD:aj rQ (⟨true,false,false,false⟩) 24 BB [.tmp 2]:=ae rfl rfl rfl
@[simp] theorem zbH:U ah rQ=true:=rfl
theorem zl:aj ke (⟨false,false,false,false⟩) 15 j1 [.tmp 2]:=ae rfl rfl rfl
@[simp] theorem PE:U ah ke=false:=rfl
theorem DG:aj ff (⟨true,false,false,false⟩) 29 re [.tmp 4]:=ae rfl rfl rfl
@[simp] theorem T4:U ah ff=true:=rfl
theorem G9:aj mj Mode.pure 2 uG [.tmp 0]:=ae rfl rfl rfl
@[simp] theorem WY:U ah mj=true:=rfl
theorem CP:aj eg (⟨true,false,false,false⟩) 21 pV [.tmp 2]:=ae rfl rfl rfl
@[simp] theorem R5:U ah eg=true:=rfl
theorem AM:aj kP Mode.pure 35 oV [.tmp 2,.tmp 3,.tmp 4]:=ae rfl rfl rfl
@[simp] theorem Qt:U ah kP=true:=rfl
theorem vV:aj gM Mode.pure 35 lg [.tmp 2,.tmp 3,.tmp 4]:=ae rfl rfl rfl
@[simp] theorem Mg:U ah gM=true:=rfl
theorem nC:aj gO Mode.pure 40 rh [.tmp 2]:=ae rfl rfl rfl
@[simp] theorem T5:U ah gO=true:=rfl
theorem xm:aj iG Mode.pure 20 lN [.cell 2 4 true,.tmp 3]:=ae rfl rfl rfl
@[simp] theorem MW:U ah iG=true:=rfl
theorem AP:aj fp Mode.pure 28 dM [.tmp 4,.tmp 5]:=ae rfl rfl rfl
@[simp] theorem Qu:U ah fp=true:=rfl
theorem CQ:aj fO Mode.pure 19 pX [.cell 4 15 true,.tmp 5]:=ae rfl rfl rfl
@[simp] theorem R8:U ah fO=true:=rfl
theorem CR:aj bO Mode.pure 24 pY [.cell 4 15 true,.tmp 5]:=ae rfl rfl rfl
@[simp] theorem R9:U ah bO=true:=rfl
theorem AQ:aj ij Mode.pure 51 kJ [.tmp 4]:=ae rfl rfl rfl
@[simp] theorem Qv:U ah ij=true:=rfl
theorem CS:aj bP Mode.pure 21 pZ [.cell 4 15 true]:=ae rfl rfl rfl
@[simp] theorem Sb:U ah bP=true:=rfl
theorem vr:aj d4 Mode.pure 36 km [.cell 4 4 true,.tmp 5]:=ae rfl rfl rfl
@[simp] theorem LF:U ah d4=true:=rfl
theorem AU:aj kQ Mode.pure 30 oY [.tmp 4,.tmp 5,.tmp 6]:=ae rfl rfl rfl
@[simp] theorem Qw:U ah kQ=true:=rfl
theorem AV:aj kR Mode.pure 31 oN [.tmp 2]:=ae rfl rfl rfl
@[simp] theorem Qy:U ah kR=true:=rfl
theorem AW:aj il Mode.pure 29 oO [.tmp 4]:=ae rfl rfl rfl
@[simp] theorem Qz:U ah il=true:=rfl
theorem sO:aj eO Mode.pure 14 io [.cell 2 4 true]:=ae rfl rfl rfl
@[simp] theorem JL:U ah eO=true:=rfl
theorem zJ:aj kf Mode.pure 19 fV [.cell 2 3 true,.tmp 3]:=ae rfl rfl rfl
@[simp] theorem PR:U ah kf=true:=rfl
theorem Kk:aj tB Mode.pure 43 pg [.cell 2 4 true,.tmp 3,.tmp 4]:=ae rfl rfl rfl
@[simp] theorem zad:U ah tB=true:=rfl
theorem Kl:aj tD Mode.pure 29 yB [.tmp 2,.tmp 3]:=ae rfl rfl rfl
@[simp] theorem zae:U ah tD=true:=rfl
theorem Bv:aj kS (⟨false,false,false,false⟩) 43 oP []:=ae rfl rfl rfl
@[simp] theorem QV:U ah kS=false:=rfl
theorem Ec:aj kg Mode.pure 19 qO [.cell 2 32 true]:=ae rfl rfl rfl
@[simp] theorem T8:U ah kg=true:=rfl
theorem F1:aj oH (⟨false,false,true,false⟩) 33 sx [.tmp 4,.tmp 5]:=ae rfl rfl rfl
@[simp] theorem Vg:U ah oH=false:=rfl
theorem Km:aj tE Mode.pure 6 yE [.tmp 2]:=ae rfl rfl rfl
@[simp] theorem zaf:U ah tE=true:=rfl
theorem C3:aj l5 (⟨false,false,false,false⟩) 51 iU [.tmp 8]:=ae rfl rfl rfl
@[simp] theorem SL:U ah l5=false:=rfl
theorem Hu:aj ml Mode.pure 20 gP [.cell 2 3 true]:=ae rfl rfl rfl
@[simp] theorem W7:U ah ml=true:=rfl
theorem Hv:aj mi Mode.pure 91 uy [.cell 4 4 true]:=ae rfl rfl rfl
@[simp] theorem W8:U ah mi=true:=rfl
theorem zM:aj fX (⟨false,false,false,false⟩) 11 ny [.tmp 6]:=ae rfl rfl rfl
@[simp] theorem PT:U ah fX=false:=rfl
theorem Ee:aj mP Mode.pure 39 qP [.tmp 4]:=ae rfl rfl rfl
@[simp] theorem T9:U ah mP=true:=rfl
theorem Ef:aj bT (⟨true,false,false,false⟩) 13 mO [.tmp 4]:=ae rfl rfl rfl
@[simp] theorem Ua:U ah bT=true:=rfl
theorem zO:aj jR Mode.pure 51 eo [.cell 2 4 true,.tmp 3,.tmp 4]:=ae rfl rfl rfl
@[simp] theorem PU:U ah jR=true:=rfl
theorem zP:aj jS Mode.pure 33 jO [.tmp 2,.tmp 3]:=ae rfl rfl rfl
@[simp] theorem PV:U ah jS=true:=rfl
theorem Eh:aj mQ Mode.pure 29 qQ [.tmp 2]:=ae rfl rfl rfl
@[simp] theorem Ub:U ah mQ=true:=rfl
theorem Ei:aj mR Mode.pure 34 qR [.tmp 4]:=ae rfl rfl rfl
@[simp] theorem Uc:U ah mR=true:=rfl
theorem Bz:aj fh (⟨false,false,true,false⟩) 28 oQ [.tmp 2]:=ae rfl rfl rfl
@[simp] theorem Q1:U ah fh=false:=rfl
theorem yS:aj fB Mode.pure 16 my [.cell 2 25 true]:=ae rfl rfl rfl
@[simp] theorem Pm:U ah fB=true:=rfl
theorem pq:aj cG Mode.pure 28 jn [.cell 2 25 true]:=ae rfl rfl rfl
@[simp] theorem Pn:U ah cG=true:=rfl
theorem yT:aj cH (⟨true,false,false,false⟩) 35 mA [.tmp 2]:=ae rfl rfl rfl
@[simp] theorem Po:U ah cH=true:=rfl
theorem De:aj di Mode.pure 12 d8 [.tmp 2]:=ae rfl rfl rfl
@[simp] theorem SU:U ah di=true:=rfl
theorem C4:aj lE Mode.pure 14 lC [.cell 4 3 true,.tmp 5]:=ae rfl rfl rfl
@[simp] theorem SV:U ah lE=true:=rfl
theorem C5:aj lF Mode.pure 62 dh [.cell 8 3 true,.tmp 9]:=ae rfl rfl rfl
@[simp] theorem SX:U ah lF=true:=rfl
theorem C6:aj lG Mode.pure 15 lD [.tmp 2,.tmp 3]:=ae rfl rfl rfl
@[simp] theorem SY:U ah lG=true:=rfl
theorem C7:aj iW Mode.pure 23 fE [.tmp 2,.tmp 3]:=ae rfl rfl rfl
@[simp] theorem SZ:U ah iW=true:=rfl
theorem vE:aj fQ Mode.pure 38 kh [.cell 4 4 true]:=ae rfl rfl rfl
@[simp] theorem LM:U ah fQ=true:=rfl
theorem yU:aj jp Mode.pure 22 jo [.tmp 2]:=ae rfl rfl rfl
@[simp] theorem Pp:U ah jp=true:=rfl
theorem vF:aj cC (⟨false,false,true,false⟩) 14 ki [.cell 2 4 true]:=ae rfl rfl rfl
@[simp] theorem LN:U ah cC=false:=rfl
theorem zR:aj jU Mode.pure 15 nH [.tmp 2]:=ae rfl rfl rfl
@[simp] theorem PY:U ah jU=true:=rfl
theorem zT:aj dj (⟨false,false,false,false⟩) 26 nJ [.tmp 4]:=ae rfl rfl rfl
@[simp] theorem PZ:U ah dj=false:=rfl
theorem C8:aj iX (⟨false,false,false,false⟩) 33 lK [.tmp 4]:=ae rfl rfl rfl
@[simp] theorem S5:U ah iX=false:=rfl
theorem LO:aj lH Mode.pure 36 Bs [.tmp 2]:=ae rfl rfl rfl
@[simp] theorem zcN:U ah lH=true:=rfl
@[simp] theorem Mp:U ah gu=true:=rfl
theorem zV:aj iI (⟨false,false,false,true⟩) 22 tp [.tmp 6]:=ae rfl rfl rfl
@[simp] theorem zau:U ah iI=false:=rfl
theorem Em:aj dS (⟨false,false,false,false⟩) 23 qY []:=ae rfl rfl rfl
@[simp] theorem Uf:U ah dS=false:=rfl
theorem xq:aj dD Mode.pure 12 lL [.cell 2 25 true]:=ae rfl rfl rfl
@[simp] theorem NT:U ah dD=true:=rfl
theorem zW:aj fY Mode.pure 7 nL [.cell 2 200 true]:=ae rfl rfl rfl
@[simp] theorem P1:U ah fY=true:=rfl
theorem Kt:aj kj Mode.pure 2 yQ [.cell 0 4 true]:=ae rfl rfl rfl
@[simp] theorem zaw:U ah kj=true:=rfl
theorem P2:aj A9 (⟨true,false,false,false⟩) 88 Hx [.tmp 2,.tmp 3]:=ae rfl rfl rfl
@[simp] theorem zgx:U ah A9=true:=rfl
theorem Kv:aj tj Mode.pure 16 yR [.cell 2 4 true]:=ae rfl rfl rfl
@[simp] theorem zax:U ah tj=true:=rfl
theorem yV:aj jq (⟨true,false,false,false⟩) 33 mD [.tmp 4]:=ae rfl rfl rfl
@[simp] theorem Pq:U ah jq=true:=rfl
theorem LS:aj oi (⟨true,false,false,false⟩) 33 BA [.tmp 2]:=ae rfl rfl rfl
@[simp] theorem zdg:U ah oi=true:=rfl
theorem Oh:aj xI Mode.pure 10 Ek [.tmp 4]:=ae rfl rfl rfl
@[simp] theorem zer:U ah xI=true:=rfl
theorem EG:aj gv Mode.pure 11 mZ [.tmp 2]:=ae rfl rfl rfl
@[simp] theorem Uh:U ah gv=true:=rfl
theorem uj:aj gx Mode.pure 26 m5 [.cell 2 4 true,.tmp 3]:=ae rfl rfl rfl
@[simp] theorem Ui:U ah gx=true:=rfl
theorem EJ:aj gy Mode.pure 11 rc [.tmp 2]:=ae rfl rfl rfl
@[simp] theorem Uj:U ah gy=true:=rfl
theorem LU:aj vv Mode.pure 31 oq [.cell 2 12 true,.tmp 3]:=ae rfl rfl rfl
@[simp] theorem zdj:U ah vv=true:=rfl
theorem HR:aj pH Mode.pure 16 uH [.tmp 0]:=ae rfl rfl rfl
@[simp] theorem Xa:U ah pH=true:=rfl
theorem LW:aj ol Mode.pure 38 BC [.tmp 8,.tmp 9]:=ae rfl rfl rfl
@[simp] theorem zdl:U ah ol=true:=rfl
theorem KF:aj pn Mode.pure 15 tu [.cell 2 4 true]:=ae rfl rfl rfl
@[simp] theorem zaO:U ah pn=true:=rfl
theorem EL:aj mS Mode.pure 25 bW [.tmp 2]:=ae rfl rfl rfl
@[simp] theorem Uk:U ah mS=true:=rfl
theorem F8:aj iO Mode.pure 21 sR [.tmp 2]:=ae rfl rfl rfl
@[simp] theorem V3:U ah iO=true:=rfl
theorem BQ:aj dJ Mode.pure 71 au [.tmp 2]:=ae rfl rfl rfl
@[simp] theorem Ro:U ah dJ=true:=rfl
theorem Ao:aj aY (⟨true,true,false,true⟩) 22 nN [.tmp 4]:=ae rfl rfl rfl
@[simp] theorem Qc:U ah aY=false:=rfl
theorem y6:aj jr Mode.pure 33 mF [.cell 2 1600 true]:=ae rfl rfl rfl
@[simp] theorem Pr:U ah jr=true:=rfl
theorem BS:aj kD Mode.pure 32 oW [.cell 4 1600 true]:=ae rfl rfl rfl
@[simp] theorem Rq:U ah kD=true:=rfl
theorem BT:aj kE Mode.pure 33 oX [.cell 2 25 true]:=ae rfl rfl rfl
@[simp] theorem Rs:U ah kE=true:=rfl
theorem Dq:aj lJ Mode.pure 18 ja [.tmp 4,.tmp 5]:=ae rfl rfl rfl
@[simp] theorem Tm:U ah lJ=true:=rfl
theorem Ap:aj eu Mode.pure 54 nP [.tmp 2]:=ae rfl rfl rfl
@[simp] theorem Qd:U ah eu=true:=rfl
theorem BV:aj kF Mode.pure 45 dN [.tmp 2]:=ae rfl rfl rfl
@[simp] theorem Rt:U ah kF=true:=rfl
theorem L0:aj vx Mode.pure 14 BE [.tmp 2,.tmp 3]:=ae rfl rfl rfl
@[simp] theorem zdy:U ah vx=true:=rfl
theorem vK:aj fS Mode.pure 9 kn [.tmp 4]:=ae rfl rfl rfl
@[simp] theorem L3:U ah fS=true:=rfl
theorem Aq:aj jV Mode.pure 16 nR [.cell 4 25 true]:=ae rfl rfl rfl
@[simp] theorem Qe:U ah jV=true:=rfl
theorem s9:aj cM (⟨true,false,false,false⟩) 8 iz [.tmp 2]:=ae rfl rfl rfl
@[simp] theorem JO:U ah cM=true:=rfl
theorem Ar:aj fZ (⟨true,false,false,false⟩) 34 nS [.tmp 6]:=ae rfl rfl rfl
@[simp] theorem Qg:U ah fZ=true:=rfl
theorem L4:aj vy Mode.pure 25 BH [.cell 4 4 true]:=ae rfl rfl rfl
@[simp] theorem zdA:U ah vy=true:=rfl
theorem Ou:aj tS (⟨true,false,false,false⟩) 24 Er [.tmp 2]:=ae rfl rfl rfl
@[simp] theorem zev:U ah tS=true:=rfl
theorem Jp:aj nE Mode.pure 26 wJ [.cell 4 4 true,.tmp 5]:=ae rfl rfl rfl
@[simp] theorem Y4:U ah nE=true:=rfl
theorem L6:aj vI Mode.pure 3 BK [.tmp 0]:=ae rfl rfl rfl
@[simp] theorem zdC:U ah vI=true:=rfl
theorem Gp:aj ox Mode.pure 25 li [.cell 4 12 true,.tmp 5]:=ae rfl rfl rfl
@[simp] theorem We:U ah ox=true:=rfl
theorem HV:aj pK Mode.pure 15 uI [.cell 6 12 true]:=ae rfl rfl rfl
@[simp] theorem Xc:U ah pK=true:=rfl
theorem Gs:aj oy Mode.pure 24 sX [.tmp 0]:=ae rfl rfl rfl
@[simp] theorem Wh:U ah oy=true:=rfl
theorem Gu:aj oz Mode.pure 10 sY [.cell 2 12 true]:=ae rfl rfl rfl
@[simp] theorem Wl:U ah oz=true:=rfl
theorem OB:aj yj Mode.pure 3 Eu [.cell 0 12 true]:=ae rfl rfl rfl
@[simp] theorem zew:U ah yj=true:=rfl
theorem E0:aj j4 Mode.pure 51 rm [.tmp 4,.tmp 5]:=ae rfl rfl rfl
@[simp] theorem Um:U ah j4=true:=rfl
theorem E2:aj nk Mode.pure 56 rp [.cell 2 1600 true]:=ae rfl rfl rfl
@[simp] theorem Un:U ah nk=true:=rfl
theorem Gx:aj oC Mode.pure 30 sZ [.cell 2 1600 true]:=ae rfl rfl rfl
@[simp] theorem Wp:U ah oC=true:=rfl
theorem E3:aj nl Mode.pure 51 rq [.cell 2 1600 true]:=ae rfl rfl rfl
@[simp] theorem Uo:U ah nl=true:=rfl
theorem B9:aj kK Mode.pure 88 o0 [.cell 2 1600 true]:=ae rfl rfl rfl
@[simp] theorem RE:U ah kK=true:=rfl
theorem xA:aj iF Mode.pure 29 lQ [.cell 2 64 true]:=ae rfl rfl rfl
@[simp] theorem OI:U ah iF=true:=rfl
theorem DA:aj lS Mode.pure 6 qe [.tmp 2]:=ae rfl rfl rfl
@[simp] theorem TE:U ah lS=true:=rfl
theorem G3:aj jM Mode.pure 2 uK [.tmp 0]:=ae rfl rfl rfl
@[simp] theorem WU:U ah jM=true:=rfl
theorem CL:aj lT Mode.pure 44 qf [.tmp 2]:=ae rfl rfl rfl
@[simp] theorem RW:U ah lT=true:=rfl
theorem yz:aj jx Mode.pure 19 mH [.tmp 4]:=ae rfl rfl rfl
@[simp] theorem Pb:U ah jx=true:=rfl
theorem zd:aj j5 Mode.pure 45 n7 [.cell 2 25 true]:=ae rfl rfl rfl
@[simp] theorem Pw:U ah j5=true:=rfl
theorem zg:aj j6 Mode.pure 42 nO [.cell 2 25 true]:=ae rfl rfl rfl
@[simp] theorem Px:U ah j6=true:=rfl
theorem CM:aj lU Mode.pure 36 p6 [.cell 2 25 true]:=ae rfl rfl rfl
@[simp] theorem RX:U ah lU=true:=rfl
theorem DE:aj np Mode.pure 12 rj [.tmp 2]:=ae rfl rfl rfl
@[simp] theorem TZ:U ah np=true:=rfl
theorem qM:aj fm (⟨true,false,false,false⟩) 31 gZ [.tmp 6]:=ae rfl rfl rfl
@[simp] theorem Qo:U ah fm=true:=rfl
theorem MM:aj uq Mode.pure 13 Eo [.tmp 2]:=ae rfl rfl rfl
@[simp] theorem zem:U ah uq=true:=rfl
theorem LA:aj rI Mode.pure 2 BG [.cell 0 12 true]:=ae rfl rfl rfl
@[simp] theorem zbD:U ah rI=true:=rfl
theorem Pz:aj wX (⟨true,false,false,false⟩) 27 HE [.tmp 4]:=ae rfl rfl rfl
@[simp] theorem zeE:U ah wX=true:=rfl
theorem zk:aj gm (⟨true,false,false,false⟩) 8 nT [.tmp 2]:=ae rfl rfl rfl
@[simp] theorem PC:U ah gm=true:=rfl
theorem RZ:aj FG Mode.pure 13 Kx [.cell 6 12 true]:=ae rfl rfl rfl
@[simp] theorem ziS:U ah FG=true:=rfl
theorem CN:aj ef (⟨true,false,false,false⟩) 64 p8 [.tmp 6]:=ae rfl rfl rfl
@[simp] theorem R0:U ah ef=true:=rfl
theorem FM:aj oD Mode.pure 39 sW [.tmp 2]:=ae rfl rfl rfl
@[simp] theorem Ut:U ah oD=true:=rfl
theorem vp:aj dZ Mode.pure 17 ko [.tmp 4]:=ae rfl rfl rfl
@[simp] theorem LC:U ah dZ=true:=rfl
theorem PD:aj BX (⟨true,false,false,false⟩) 11 HG [.tmp 4,.tmp 5]:=ae rfl rfl rfl
@[simp] theorem zeI:U ah BX=true:=rfl
theorem AL:aj kL Mode.pure 20 hJ [.tmp 4]:=ae rfl rfl rfl
@[simp] theorem Qs:U ah kL=true:=rfl
theorem R1:aj td (⟨true,false,false,false⟩) 13 Fy [.tmp 4]:=ae rfl rfl rfl
@[simp] theorem ziT:U ah td=true:=rfl
theorem yF:aj bS (⟨true,false,false,false⟩) 151 mG [.tmp 6]:=ae rfl rfl rfl
@[simp] theorem Ph:U ah bS=true:=rfl
theorem MR:aj yo (⟨true,false,false,false⟩) 40 Ew [.tmp 6,.tmp 7]:=ae rfl rfl rfl
@[simp] theorem zen:U ah yo=true:=rfl
theorem DF:aj j7 Mode.pure 6 rn [.tmp 2]:=ae rfl rfl rfl
@[simp] theorem T3:U ah j7=true:=rfl
theorem MT:aj qw Mode.pure 38 Ey [.tmp 8,.tmp 9]:=ae rfl rfl rfl
@[simp] theorem zeo:U ah qw=true:=rfl
theorem sE:aj cO (⟨false,false,false,false⟩) 22 iA []:=ae rfl rfl rfl
@[simp] theorem JG:U ah cO=false:=rfl
theorem sF:aj bQ (⟨false,false,false,false⟩) 23 iB []:=ae rfl rfl rfl
@[simp] theorem JH:U ah bQ=false:=rfl
theorem tJ:aj dr (⟨false,false,false,false⟩) 9 jb [.tmp 4]:=ae rfl rfl rfl
@[simp] theorem JU:U ah dr=false:=rfl
theorem sG:aj cP (⟨false,false,false,false⟩) 19 iC [.tmp 4,.tmp 5]:=ae rfl rfl rfl
@[simp] theorem JI:U ah cP=false:=rfl
theorem uz:aj dI (⟨false,false,false,false⟩) 9 jI []:=ae rfl rfl rfl
@[simp] theorem KZ:U ah dI=false:=rfl
theorem sH:aj cQ (⟨false,false,false,false⟩) 47 iD [.tmp 4]:=ae rfl rfl rfl
@[simp] theorem JJ:U ah cQ=false:=rfl
theorem Ha:aj pL (⟨false,false,false,false⟩) 36 uJ [.tmp 4,.tmp 5,.tmp 6]:=ae rfl rfl rfl
@[simp] theorem WZ:U ah pL=false:=rfl
theorem tL:aj dt (⟨false,false,false,false⟩) 8 jf [.cell 2 32 true]:=ae rfl rfl rfl
@[simp] theorem JW:U ah dt=false:=rfl
theorem tM:aj eZ (⟨false,false,false,false⟩) 48 jg []:=ae rfl rfl rfl
@[simp] theorem JX:U ah eZ=false:=rfl
theorem FN:aj oF Mode.pure 33 lm [.tmp 2]:=ae rfl rfl rfl
@[simp] theorem Uv:U ah oF=true:=rfl
theorem Ig:aj rL (⟨false,false,false,false⟩) 27 wS [.cell 2 4 true,.tmp 3,.tmp 4]:=ae rfl rfl rfl
@[simp] theorem Xk:U ah rL=false:=rfl
theorem DJ:aj nr Mode.pure 41 gH [.tmp 2]:=ae rfl rfl rfl
@[simp] theorem T6:U ah nr=true:=rfl
theorem JY:aj tA Mode.pure 8 yW [.cell 2 32 true]:=ae rfl rfl rfl
@[simp] theorem ZL:U ah tA=true:=rfl
theorem xn:aj e7 (⟨false,false,false,false⟩) 20 lR []:=ae rfl rfl rfl
@[simp] theorem MX:U ah e7=false:=rfl
theorem AR:aj ig Mode.pure 3 o6 [.tmp 2]:=ae rfl rfl rfl
@[simp] theorem Qx:U ah ig=true:=rfl
theorem zm:aj gp Mode.pure 3 n8 [.tmp 2]:=ae rfl rfl rfl
@[simp] theorem PF:U ah gp=true:=rfl
theorem FO:aj oG Mode.pure 12 s6 [.cell 2 25 true,.tmp 3]:=ae rfl rfl rfl
@[simp] theorem Ux:U ah oG=true:=rfl
end Go.Av
