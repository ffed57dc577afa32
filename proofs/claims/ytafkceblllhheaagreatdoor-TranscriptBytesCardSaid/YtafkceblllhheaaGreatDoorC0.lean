/- The functions of the program as the machine's code, printed by a program of mine. -/
import Derived.Test.YtafkceblllhheaaGreatDoorV6
set_option maxRecDepth 100000
namespace Go.Av
abbrev Mv (a b:Nat):AI:=iv a (.mv (.t b))
abbrev Ld (a b:Nat):AI:=ir a (.ld 1 false (.t b))
abbrev Nk (a b:Nat):AI:=iv a (.nck (.t b))
abbrev Fa (a o b:Nat):AI:=iv a (.fadr o (.t b))
abbrev Ex (a b i:Nat):AI:=iv a (.ext (.t b) i)
abbrev Bt (a:Nat)(o:BinOp)(b c:Nat):AI:=iv a (.bin o (.t b) (.t c))
abbrev Bi (a:Nat)(o:BinOp)(b:Nat)(n:Int):AI:=iv a (.bin o (.t b) (.k (.int .i64 n)))
abbrev Ia (a b c:Nat):AI:=iv a (.iadr none 1 (.t b) (.t c))
abbrev Sx (a b:Nat):AI:=jc (.st 1 (.t a) (.t b))
abbrev Dv (a:Nat)(o:Vw)(u:List Nat):AI:=⟨some a,.v o,none,u,0,0⟩
abbrev Dr (a:Nat)(o:Lk)(u:List Nat)(l h:Nat):AI:=⟨some a,.r o,none,u,l,h⟩
abbrev Dc (a:Nat)(o:TP)(u:List Nat):AI:=⟨some a,.c o,none,u,0,0⟩
abbrev Dn (o:TP)(u:List Nat):AI:=⟨none,.c o,none,u,0,0⟩
abbrev Gv (a:Nat)(o:Vw)(g:Nat)(w:Bool)(u:List Nat):AI:=⟨some a,.v o,some (g,w),u,0,0⟩
abbrev Gr (a:Nat)(o:Lk)(g:Nat)(w:Bool)(u:List Nat)(l h:Nat):AI:=⟨some a,.r o,some (g,w),u,l,h⟩
abbrev Gc (a:Nat)(o:TP)(g:Nat)(w:Bool)(u:List Nat):AI:=⟨some a,.c o,some (g,w),u,0,0⟩
abbrev Dm (a b:Nat):AI:=⟨some a,.v (.mv (.t b)),none,[b],0,0⟩
abbrev Gm (a b g:Nat)(w:Bool):AI:=⟨some a,.v (.mv (.t b)),some (g,w),[b,g],0,0⟩
abbrev U0:J:=.int .u64 0
abbrev I0:J:=.int .i64 0
abbrev B0:J:=.int .u8 0
abbrev K0 (n:Int):AO:=.k (.int .i64 n)
abbrev Mk (a:Nat)(n:Int):AI:=iv a (.mv (K0 n))
abbrev Sr (l:List AI)(c:AC):AC:=.seq (.reg l) c
abbrev Ca (a:Nat)(f:FuncId)(l:List AO):AI:=ic a (.call f l)
abbrev Cr (a:Nat)(f:FuncId)(l:List AO):AI:=ir a (.call f l)
abbrev Bu (a:Nat)(l:List J)(m:List (Nat × Nat × AO)):AI:=iv a (.build l m)
abbrev Cd (a:Nat)(x y:AC):AC:=.cond (.t a) x y
abbrev Al (a:Nat)(l:List J):AI:=ic a (.alloc l)
abbrev Lt (a n b:Nat):AI:=ir a (.ld n true (.t b))
abbrev Sv (n a b:Nat):AI:=jc (.st n (.t a) (.t b))
abbrev Dl (a b:Nat):AI:=⟨some a,.r (.ld 1 false (.t b)),none,[b],0,0⟩
abbrev Df (a o b:Nat):AI:=⟨some a,.v (.fadr o (.t b)),none,[b],0,0⟩
abbrev Dk (a b:Nat):AI:=⟨some a,.v (.nck (.t b)),none,[b],0,0⟩
abbrev Gl (a b g:Nat)(w:Bool):AI:=⟨some a,.r (.ld 1 false (.t b)),some (g,w),[b,g],0,0⟩
abbrev Gf (a o b g:Nat)(w:Bool):AI:=⟨some a,.v (.fadr o (.t b)),some (g,w),[b,g],0,0⟩
abbrev Gk (a b g:Nat)(w:Bool):AI:=⟨some a,.v (.nck (.t b)),some (g,w),[b,g],0,0⟩
def dR:FuncId:=7
def fZ:FuncId:=9
def gG:FuncId:=10
def fI:FuncId:=11
def kD:FuncId:=12
def cN:FuncId:=15
def dE:FuncId:=17
def cO:FuncId:=18
def dj:FuncId:=19
def sU:FuncId:=20
def eZ:FuncId:=21
def od:FuncId:=22
def cQ:FuncId:=24
def cR:FuncId:=25
def pl:FuncId:=26
def ji:FuncId:=28
def bZ:FuncId:=29
def dG:FuncId:=30
def jV:FuncId:=31
def kE:FuncId:=32
def bm:FuncId:=33
def bd:FuncId:=34
def jW:FuncId:=35
def xH:FuncId:=36
def ET:FuncId:=37
def gV:FuncId:=38
def Ni:FuncId:=39
def dM:FuncId:=40
def fh:FuncId:=41
def gX:FuncId:=42
def cf:FuncId:=43
def cZ:FuncId:=44
def dq:FuncId:=45
def jX:FuncId:=47
def oh:FuncId:=48
def pn:FuncId:=49
def po:FuncId:=50
def bM:FuncId:=51
def mS:FuncId:=52
def qO:FuncId:=53
def jj:FuncId:=54
def qP:FuncId:=55
def Iy:FuncId:=56
def mT:FuncId:=57
def lC:FuncId:=58
def kG:FuncId:=59
def kT:FuncId:=60
def a9:FuncId:=61
def nO:FuncId:=62
def aW:FuncId:=63
def pq:FuncId:=64
def kH:FuncId:=65
def qQ:FuncId:=66
def eQ:FuncId:=67
def dr:FuncId:=71
def lD:FuncId:=72
def i5:FuncId:=73
def gh:FuncId:=74
def oi:FuncId:=75
def lE:FuncId:=76
def sV:FuncId:=77
def gH:FuncId:=78
def lW:FuncId:=79
def mU:FuncId:=83
def mV:FuncId:=84
def jl:FuncId:=85
def Bq:FuncId:=86
def jY:FuncId:=87
def jm:FuncId:=88
def eK:FuncId:=89
def mX:FuncId:=90
def jn:FuncId:=91
def jZ:FuncId:=92
def sW:FuncId:=93
def lF:FuncId:=94
def lK:FuncId:=95
def sL:FuncId:=96
def sM:FuncId:=97
def kj:FuncId:=98
def jE:FuncId:=99
def cE:FuncId:=103
def eS:FuncId:=104
def lM:FuncId:=105
def k9:FuncId:=106
def et:FuncId:=107
def uV:FuncId:=108
def fN:FuncId:=109
def nR:FuncId:=110
def nc:FuncId:=111
def j6:FuncId:=112
def sN:FuncId:=113
def ph:FuncId:=114
def nS:FuncId:=115
def bR:FuncId:=116
def oS:FuncId:=117
def d9:FuncId:=123
def kl:FuncId:=124
def gq:FuncId:=125
def ij:FuncId:=126
def fB:FuncId:=129
def bK:FuncId:=130
def bL:FuncId:=131
def dW:FuncId:=132
def oq:FuncId:=133
def E2:FuncId:=134
def km:FuncId:=135
def nU:FuncId:=136
def eO:FuncId:=137
def t6:FuncId:=138
def jF:FuncId:=139
def xa:FuncId:=140
def gr:FuncId:=141
def gu:FuncId:=142
def uX:FuncId:=143
def da:FuncId:=144
def iS:FuncId:=145
def gv:FuncId:=146
def iD:FuncId:=147
def dO:FuncId:=148
def dy:FuncId:=149
def fT:FuncId:=150
def Ag:FuncId:=151
def ja:FuncId:=152
def bS:FuncId:=153
def lg:FuncId:=154
def jw:FuncId:=155
def li:FuncId:=156
def mH:FuncId:=157
def jb:FuncId:=158
def gx:FuncId:=159
def uY:FuncId:=160
def jI:FuncId:=161
def jJ:FuncId:=163
def mI:FuncId:=164
def mJ:FuncId:=165
def e9:FuncId:=166
def fy:FuncId:=167
def cG:FuncId:=168
def lj:FuncId:=170
def lk:FuncId:=171
def fO:FuncId:=172
def jd:FuncId:=173
def wG:FuncId:=174
def Am:FuncId:=175
def cq:FuncId:=176
def kn:FuncId:=178
def jK:FuncId:=179
def u0:FuncId:=180
def nV:FuncId:=181
def pi:FuncId:=182
def nW:FuncId:=183
def nX:FuncId:=184
def xd:FuncId:=185
def jL:FuncId:=186
def cJ:FuncId:=187
def fV:FuncId:=188
def tp:FuncId:=189
def KM:FuncId:=190
def iF:FuncId:=194
def je:FuncId:=195
def ko:FuncId:=196
def kq:FuncId:=197
def kw:FuncId:=202
def gR:FuncId:=203
def tq:FuncId:=204
def qm:FuncId:=205
def vz:FuncId:=206
def fW:FuncId:=207
def EA:FuncId:=208
def ec:FuncId:=209
def jM:FuncId:=210
def jN:FuncId:=211
def ll:FuncId:=212
def mK:FuncId:=213
def fc:FuncId:=214
def mL:FuncId:=215
def mM:FuncId:=220
def nY:FuncId:=221
def mN:FuncId:=222
def kx:FuncId:=223
def im:FuncId:=224
def ky:FuncId:=230
def rW:FuncId:=231
def bP:FuncId:=232
def dY:FuncId:=233
def Ap:FuncId:=234
def nZ:FuncId:=235
def jP:FuncId:=240
def pP:FuncId:=241
def xe:FuncId:=242
def dk:FuncId:=260
def cP:FuncId:=261
def dF:FuncId:=262
def dm:FuncId:=263
def e6:FuncId:=282
def gY:FuncId:=283
def gf:FuncId:=284
def oe:FuncId:=285
def zcG:ByteArray:=⟨#[0,1,2,2,3,3,3,3,4,4,4,4,4,4,4,4,5,5,5,5,5,5,5,5,5,5,5,5,5,5,5,5,6,6,6,6,6,6,6,6,6,6,6,6,6,6,6,6,6,6,6,6,6,6,6,6,6,6,6,6,6,6,6,6,7,7,7,7,7,7,7,7,7,7,7,7,7,7,7,7,7,7,7,7,7,7,7,7,7,7,7,7,7,7,7,7,7,7,7,7,7,7,7,7,7,7,7,7,7,7,7,7,7,7,7,7,7,7,7,7,7,7,7,7,7,7,7,7,8,8,8,8,8,8,8,8,8,8,8,8,8,8,8,8,8,8,8,8,8,8,8,8,8,8,8,8,8,8,8,8,8,8,8,8,8,8,8,8,8,8,8,8,8,8,8,8,8,8,8,8,8,8,8,8,8,8,8,8,8,8,8,8,8,8,8,8,8,8,8,8,8,8,8,8,8,8,8,8,8,8,8,8,8,8,8,8,8,8,8,8,8,8,8,8,8,8,8,8,8,8,8,8,8,8,8,8,8,8,8,8,8,8,8,8,8,8,8,8,8,8,8,8,8,8,8,8]⟩
def bx:AC:=Sr [iv 6 (.mv (.k (.bool false)))] (.seq (Sr [Cr 7 fZ [],iv 8 (.un .not (.t 7)),Mv 9 8,Gv 10 (.mv (.t 0)) 9 false [],Gv 11 (.bin .eql (.t 10) (K0 2)) 9 false [],iv 12 (.pick (.t 9) (.k (.bool true)) (.t 11)),Mv 13 12,Gv 14 (.mv (.t 1)) 13 false [],Gv 15 (.lenL (.t 14)) 13 false [],Gv 16 (.bin .gtr (.t 15) (K0 1000)) 13 false [],iv 17 (.pick (.t 13) (.k (.bool true)) (.t 16)),Mv 18 17,Gv 19 (.mv (.t 2)) 18 false [],Gr 20 (.call jV [.t 19,K0 20]) 18 false [] 0 0,Gv 21 (.un .not (.t 20)) 18 false [],iv 22 (.pick (.t 18) (.k (.bool true)) (.t 21))] (Cd 22 (Sr [Cr 23 fZ [],Mv 6 23] .ret) .skip)) (Sr [Mv 24 0,Mv 25 1,Mv 26 2,Cr 27 kE [.t 24,.t 25,.t 26],Mv 6 27] .ret))
def kU:aZ:=⟨28,bx,[.tmp 6],none⟩
def m6:AC:=Sr [iv 0 (.mv (.k (.bool false)))] (Sr [iv 10 (.slit 1 16 [B0] [(0,.k (.int .u8 1)),(1,.k (.int .u8 1)),(2,.k (.int .u8 1)),(3,.k (B0)),(4,.k (B0)),(5,.k (B0)),(6,.k (B0)),(7,.k (B0)),(8,.k (.int .u8 2)),(9,.k (.int .u8 1)),(10,.k (.int .u8 32)),(11,.k (B0)),(12,.k (B0)),(13,.k (B0)),(14,.k (B0)),(15,.k (B0))]),Mv 1 10] (Sr [Mv 12 1,Ca 13 fI [K0 1,.t 12],Mv 11 13,Ex 14 11 0,Ex 15 11 1,Ex 16 11 2,Mv 2 14,Mv 3 15,Mv 4 16] (Sr [Mv 18 1,Ca 19 fI [K0 1,.t 18],Mv 17 19,Ex 20 17 0,Ex 21 17 1,Ex 22 17 2,Mv 5 20,Mv 6 21,Mv 7 22] (.seq (Sr [Mv 23 4,Bi 24 .neq 23 0,Mv 25 24,Gv 26 (.mv (.t 7)) 25 false [],Gv 27 (.bin .neq (.t 26) (K0 0)) 25 false [],iv 28 (.pick (.t 25) (.k (.bool true)) (.t 27)),Mv 29 28,Gv 30 (.mv (.t 2)) 29 false [],Gv 31 (.eq .ptr false (.t 30) (.k (.nilp))) 29 false [],iv 32 (.pick (.t 29) (.k (.bool true)) (.t 31)),Mv 33 32,Gv 34 (.mv (.t 5)) 33 false [],Gv 35 (.eq .ptr false (.t 34) (.k (.nilp))) 33 false [],iv 36 (.pick (.t 33) (.k (.bool true)) (.t 35)),Mv 37 36,Gv 38 (.mv (.t 2)) 37 false [],Gv 39 (.slit 1 1 [B0] [(0,.k (.int .u8 1))]) 37 false [],Gc 40 (.call bm [.t 38,K0 1,.t 39]) 37 false [],Gv 41 (.bin .neq (.t 40) (K0 0)) 37 false [],iv 42 (.pick (.t 37) (.k (.bool true)) (.t 41)),Mv 43 42,Gv 44 (.mv (.t 5)) 43 false [],Gv 45 (.slit 1 1 [B0] [(0,.k (.int .u8 2))]) 43 false [],Gc 46 (.call bm [.t 44,K0 1,.t 45]) 43 false [],Gv 47 (.bin .neq (.t 46) (K0 0)) 43 false [],iv 48 (.pick (.t 43) (.k (.bool true)) (.t 47))] (Cd 48 (Sr [iv 0 (.mv (.k (.bool false)))] .ret) .skip)) (Sr [Mv 50 2,Ca 51 bd [.t 50,K0 32],Mv 49 51,Ex 52 49 0,Ex 53 49 1,Mv 8 52,Mv 4 53] (Sr [Mv 55 5,Ca 56 bd [.t 55,K0 32],Mv 54 56,Ex 57 54 0,Ex 58 54 1,Mv 9 57,Mv 7 58] (Sr [Mv 59 4,Bi 60 .eql 59 0,Mv 61 60,Gv 62 (.mv (.t 7)) 61 true [],Gv 63 (.bin .eql (.t 62) (K0 0)) 61 true [],iv 64 (.pick (.t 61) (.t 63) (.k (.bool false))),Mv 65 64,Gv 66 (.mv (.t 8)) 65 true [],Gv 67 (.lenL (.t 66)) 65 true [],Gv 68 (.bin .eql (.t 67) (K0 32)) 65 true [],iv 69 (.pick (.t 65) (.t 68) (.k (.bool false))),Mv 70 69,Gv 71 (.mv (.t 9)) 70 true [],Gv 72 (.lenL (.t 71)) 70 true [],Gv 73 (.bin .eql (.t 72) (K0 32)) 70 true [],iv 74 (.pick (.t 70) (.t 73) (.k (.bool false))),Mv 75 74,Gv 76 (.mv (.t 8)) 75 true [],Gr 77 (.b2s (.t 76)) 75 true [] 0 0,Gv 78 (.mv (.t 9)) 75 true [],Gr 79 (.b2s (.t 78)) 75 true [] 0 0,Gv 80 (.bin .neq (.t 77) (.t 79)) 75 true [],iv 81 (.pick (.t 75) (.t 80) (.k (.bool false))),Mv 0 81] .ret)))))))
def sY:aZ:=⟨82,m6,[.tmp 0],none⟩
def cg:AC:=.seq (Sr [Mv 10 6,Mv 11 0,iv 12 (.lenL (.t 11)),Bt 13 .lss 10 12] (Cd 13 .skip (.exit 0))) (.seq (.blk 1 (.seq (Sr [Mv 16 6,Bi 17 .eql 16 1024] (Cd 17 (Sr [Mv 18 6,iv 2 (.mv (.k (.nsl))),Mv 3 18,Mk 4 9] .ret) .skip)) (Sr [Mv 20 0,Mv 21 6,iv 22 (.iadr none 4 (.t 20) (.t 21)),Lt 23 4 22,Cr 24 jW [.t 23],Mv 19 24,Ex 25 19 0,Ex 26 19 1,Mv 7 25,Mv 8 26] (.seq (Sr [Mv 27 8,Bi 28 .neq 27 0] (Cd 28 (Sr [Mv 29 6,Mv 30 8,iv 2 (.mv (.k (.nsl))),Mv 3 29,Mv 4 30] .ret) .skip)) (.reg [Mv 31 5,Mv 32 7,ic 33 (.app 1 false (.t 31) (.t 32)),Mv 5 33]))))) (.reg [Mv 14 6,Bi 15 .add 14 1,Mv 6 15]))
def kI:AC:=Sr [iv 2 (.mv (.k (.nsl))),Mk 3 0,Mk 4 0] (Sr [iv 9 (.slit 1 0 [B0] []),Mv 5 9] (.seq (Sr [Mk 6 0] (.blk 0 (.loop cg))) (Sr [Mv 34 5,Mv 2 34,Mk 3 (-1),Mk 4 0] .ret)))
def pL:aZ:=⟨35,kI,[.tmp 2,.tmp 3,.tmp 4],none⟩
def kJ:AC:=Sr [iv 4 (.mv (.k (.nilp))),Mk 5 0,Mk 6 0] (.seq (Sr [Mv 11 0,Bi 12 .neq 11 1,Mv 13 12,Gv 14 (.mv (.t 0)) 13 true [],Gv 15 (.bin .neq (.t 14) (K0 2)) 13 true [],iv 16 (.pick (.t 13) (.t 15) (.k (.bool false)))] (Cd 16 (Sr [iv 4 (.mv (.k (.nilp))),Mk 5 (-1),Mk 6 15] .ret) .skip)) (Sr [Mv 18 1,Ca 19 xH [.t 18],Mv 17 19,Ex 20 17 0,Ex 21 17 1,Ex 22 17 2,Mv 7 20,Mv 8 21,Mv 9 22] (.seq (Sr [Mv 23 9,Bi 24 .neq 23 0] (Cd 24 (Sr [Mv 25 8,Mv 26 9,iv 4 (.mv (.k (.nilp))),Mv 5 25,Mv 6 26] .ret) .skip)) (Sr [Mv 27 7,Bu 28 [.nilp,B0,B0,B0,B0,B0,B0,B0,B0,B0,B0,B0,B0,B0,B0,B0,B0,B0,B0,B0,B0,B0,B0,B0,B0,B0,B0,B0,B0,B0,B0,B0,B0,.nif] [(0,1,.t 27)],ic 29 (.box (.t 28)),Mv 10 29] (Sr [Mv 31 10,Mv 32 0,Mv 33 7,Cr 34 gV [.t 33],Cr 35 ET [.t 32,.t 34],Mv 30 35,Ex 36 30 0,Ex 37 30 1,Ex 38 30 2,Nk 39 31,Fa 40 1 39,Sv 32 40 36] (Sr [Mv 41 10,Mv 42 10,Nk 43 42,Fa 44 1 43,Lt 45 32 44,Ca 46 sU [.t 45],Bu 47 [.nilp] [(0,1,.t 46)],iv 48 (.mkif 84 (.t 47)),Nk 49 41,Fa 50 33 49,Sx 50 48] (.seq (Sr [Mv 51 0,Bi 52 .eql 51 2] (Cd 52 (.reg [Mv 53 10,Mv 54 10,Nk 55 54,Fa 56 1 55,Lt 57 32 56,Ca 58 Ni [.t 57],Bu 59 [.nilp] [(0,1,.t 58)],iv 60 (.mkif 88 (.t 59)),Nk 61 53,Fa 62 33 61,Sx 62 60]) .skip)) (Sr [Mv 63 10,Mv 4 63,Mk 5 (-1),Mk 6 0] .ret))))))))
def yC:aZ:=⟨64,kJ,[.tmp 4,.tmp 5,.tmp 6],none⟩
def dI:AC:=Sr [iv 1 (.boxv (.t 0)),iv 2 (.mv (.k (.bool false)))] (.seq (Sr [Fa 5 0 1,Ld 6 5,Fa 7 1 1,Ld 8 7,Fa 9 2 1,Ld 10 9,iv 11 (.build [I0,I0,I0,.str ⟨#[]⟩] [(0,1,.t 6),(1,1,.t 8),(2,1,.t 10)]),Cr 12 dM [.t 11],Bi 13 .neq 12 0] (Cd 13 (Sr [iv 2 (.mv (.k (.bool false)))] .ret) .skip)) (.seq (Sr [Fa 14 0 1,Ld 15 14,Bi 16 .neq 15 1] (Cd 16 (Sr [Fa 17 3 1,Ld 18 17,iv 19 (.lenL (.t 18)),Bi 20 .eql 19 0,Mv 2 20] .ret) .skip)) (Sr [Fa 22 1 1,Ld 23 22,Fa 24 3 1,Ld 25 24,Cr 26 fh [.t 23,.t 25],Mv 21 26,Ex 27 21 0,Ex 28 21 1,Mv 3 27,Mv 4 28] (Sr [Mv 29 4,Bi 30 .eql 29 0,Mv 31 30,Gv 32 (.mv (.t 3)) 31 true [],Gv 33 (.fadr 2 (.t 1)) 31 true [],Gr 34 (.ld 1 false (.t 33)) 31 true [] 0 0,Gv 35 (.bin .eql (.t 32) (.t 34)) 31 true [],iv 36 (.pick (.t 31) (.t 35) (.k (.bool false))),Mv 37 36,Gv 38 (.fadr 1 (.t 1)) 37 true [],Gr 39 (.ld 1 false (.t 38)) 37 true [] 0 0,Gv 40 (.fadr 3 (.t 1)) 37 true [],Gr 41 (.ld 1 false (.t 40)) 37 true [] 0 0,Gr 42 (.call gX [.t 39,.t 41]) 37 true [] 0 0,Gv 43 (.bin .eql (.t 42) (K0 0)) 37 true [],iv 44 (.pick (.t 37) (.t 43) (.k (.bool false))),Mv 2 44] .ret))))
def ur:aZ:=⟨45,dI,[.tmp 2],none⟩
def gZ:AC:=Sr [Mk 2 0] (Sr [Mv 3 0,Nk 4 3,Fa 5 0 4,Ld 6 5,Ca 7 dq [.t 6,K0 0],Mv 2 7] .ret)
def mw:aZ:=⟨8,gZ,[.tmp 2],none⟩
def fA:AC:=Sr [Mk 2 0] (Sr [Mv 3 0,Nk 4 3,Fa 5 0 4,Ld 6 5,Ca 7 jX [.t 6],Mv 2 7] .ret)
def kK:aZ:=⟨8,fA,[.tmp 2],none⟩
def hJ:AC:=Sr [ic 2 (.alloc (aL (B0) 32))] (Sr [Mv 3 0,Nk 4 3,Fa 5 1 4,Lt 6 32 5,Sv 32 2 6] .ret)
def my:aZ:=⟨7,hJ,[.cell 2 32 true],none⟩
def iM:AC:=Sr [Mk 2 0] (Sr [Mv 3 0,Nk 4 3,Fa 5 0 4,Ld 6 5,Cr 7 oh [.t 6],Mv 2 7] .ret)
def m8:aZ:=⟨8,iM,[.tmp 2],none⟩
def xS:AC:=Sr [iv 1 (.boxv (.t 0)),iv 2 (.mv (.k (.nilp)))] (.seq (.draw [Cr 3 po [],Dv 4 (.slice (.arr 32) 1 (.t 1) none none none) [1],Dc 5 (.call pn [.t 3,.t 4]) [3,4],Dm 2 5]) .ret)
def FG:aZ:=⟨6,xS,[.tmp 2],none⟩
def cH:AC:=Sr [Bt 15 .lss 14 13] (.seq (Cd 15 .skip (.exit 0)) (.seq (.blk 1 (Sr [Ia 16 12 14,Ld 17 16,Mv 6 17] (.seq (Sr [Mv 18 0,Nk 19 18,Fa 20 2 19,Ld 21 20,Mv 22 4,Bt 23 .eql 21 22] (Cd 23 (.reg [Mv 24 0,Ca 25 bM [.t 24]]) .skip)) (.seq (.draw [Dm 26 0,Dk 27 26,Df 28 1 27,Dl 29 28,Dm 30 0,Dk 31 30,Df 32 2 31,Dl 33 32,Dm 34 6,Dv 35 (.iadr none 1 (.t 29) (.t 33)) [29,33],Dn (.st 1 (.t 35) (.t 34)) [35,34]]) (Sr [Mv 36 0,Nk 37 36,Fa 38 2 37,Ld 39 38,Bi 40 .add 39 1,Nk 41 36,Fa 42 2 41,Sx 42 40] (.reg [Mv 43 0,Mv 44 4,Nk 45 43,Fa 46 3 45,Sx 46 44])))))) (.reg [Bi 47 .add 14 1,Mv 14 47])))
def iN:AC:=Sr [Mv 7 0,Nk 8 7,Fa 9 0 8,Ld 10 9,ir 11 (.inv (.t 10) "Rate" []),Mv 4 11] (Sr [Mv 12 1,iv 13 (.lenL (.t 12)),Mk 14 0] (.blk 0 (.loop cH)))
def m9:aZ:=⟨48,iN,[],none⟩
def kL:AC:=Sr [iv 1 (.boxv (.t 0)),iv 2 (.mv (.k (.nsl)))] (.seq (Sr [Lt 4 4 1,Cr 5 mS [.t 4],iv 6 (.un .not (.t 5))] (Cd 6 (Sr [iv 2 (.mv (.k (.nsl)))] .ret) .skip)) (Sr [Fa 7 0 1,Ld 8 7,iv 9 (.i2i .u8 (.t 8)),Fa 10 1 1,Ld 11 10,iv 12 (.i2i .u8 (.t 11)),Fa 13 2 1,Ld 14 13,iv 15 (.i2i .u8 (.t 14)),Fa 16 2 1,Ld 17 16,iv 18 (.bin .shr (.t 17) (.k (.int .u64 8))),iv 19 (.i2i .u8 (.t 18)),Fa 20 2 1,Ld 21 20,iv 22 (.bin .shr (.t 21) (.k (.int .u64 16))),iv 23 (.i2i .u8 (.t 22)),Fa 24 2 1,Ld 25 24,iv 26 (.bin .shr (.t 25) (.k (.int .u64 24))),iv 27 (.i2i .u8 (.t 26)),iv 28 (.slit 1 6 [B0] [(0,.t 9),(1,.t 12),(2,.t 15),(3,.t 19),(4,.t 23),(5,.t 27)]),Mv 3 28] (Sr [Mv 29 3,Fa 30 3 1,Ld 31 30,ic 32 (.app 1 false (.t 29) (.t 31)),Mv 2 32] .ret)))
def yE:aZ:=⟨33,kL,[.tmp 2],none⟩
def hZ:AC:=Sr [Mv 2 0,Ca 3 bM [.t 2]] (.seq (.draw [Dm 4 0,Dk 5 4,Df 6 1 5,Dl 7 6,Dm 8 0,Dk 9 8,Df 10 0 9,Dl 11 10,Dr 12 (.inv (.t 11) "Rate" []) [11] 0 0,Dv 13 (.slice .slc 1 (.t 7) none (some (.t 12)) none) [7,12],Dn (.clear [B0] (.t 13)) [13]]) (.reg [Mv 14 0,Mv 15 0,Nk 16 15,Fa 17 0 16,Ld 18 17,ir 19 (.inv (.t 18) "Rate" []),Nk 20 14,Fa 21 3 20,Sx 21 19]))
def mB:aZ:=⟨22,hZ,[],none⟩
def b9:AC:=Sr [Bt 9 .lss 8 7] (.seq (Cd 9 .skip (.exit 0)) (.seq (.blk 1 (.seq (.seq (.draw [Dm 10 0,Dk 11 10,Df 12 3 11,Dl 13 12,Dm 14 0,Dk 15 14,Df 16 0 15,Dl 17 16,Dr 18 (.inv (.t 17) "Rate" []) [17] 0 0,Dv 19 (.bin .eql (.t 13) (.t 18)) [13,18]]) (Cd 19 (Sr [Mv 20 0,Ca 21 bM [.t 20]] (.reg [Mv 22 0,Nk 23 22,Fa 24 3 23,jc (.st 1 (.t 24) (K0 0))])) .skip)) (.seq (.draw [Dm 25 5,Dm 26 0,Dk 27 26,Df 28 1 27,Dl 29 28,Dm 30 0,Dk 31 30,Df 32 3 31,Dl 33 32,Dv 34 (.iadr none 1 (.t 29) (.t 33)) [29,33],Dl 35 34,Dv 36 (.slit 1 1 [B0] [(0,.t 35)]) [35],Dc 37 (.app 1 false (.t 25) (.t 36)) [25,36],Dm 5 37]) (.reg [Mv 38 0,Nk 39 38,Fa 40 3 39,Ld 41 40,Bi 42 .add 41 1,Nk 43 38,Fa 44 3 43,Sx 44 42])))) (.reg [Bi 45 .add 8 1,Mv 8 45])))
def ie:AC:=Sr [iv 4 (.mv (.k (.nsl)))] (Sr [iv 5 (.mv (.k (.nsl)))] (.seq (Sr [Mv 6 1,iv 7 (.mxmn true [.t 6,K0 0]),Mk 8 0] (.blk 0 (.loop b9))) (Sr [Mv 46 5,Mv 4 46] .ret)))
def mC:aZ:=⟨47,ie,[.tmp 4],none⟩
def kM:AC:=Sr [Bt 15 .lss 14 13] (.seq (Cd 15 .skip (.exit 0)) (.seq (.blk 1 (Sr [Mv 17 1,Ca 18 qO [.t 17],Mv 16 18,Ex 19 16 0,Ex 20 16 1,Ex 21 16 2,ic 9 (.alloc (aL (U0) 4)),Sv 4 9 19,Mv 10 20,Mv 11 21] (Sr [Mv 22 8,Mv 23 10,Bt 24 .add 22 23,Mv 8 24] (.seq (Sr [Mv 25 11,Bi 26 .neq 25 0] (Cd 26 (Sr [Mv 27 8,Mv 28 11,iv 4 (.mv (.k (.nsl))),Mv 5 27,Mv 6 28] .ret) .skip)) (.reg [Mv 29 7,Lt 30 4 9,iv 31 (.slit 4 1 (aL (U0) 4) [(0,.t 30)]),ic 32 (.app 4 false (.t 29) (.t 31)),Mv 7 32]))))) (.reg [Bi 33 .add 14 1,Mv 14 33])))
def tY:AC:=Sr [iv 4 (.mv (.k (.nsl))),Mk 5 0,Mk 6 0] (Sr [iv 7 (.mv (.k (.nsl)))] (Sr [Mk 8 0] (.seq (Sr [Mv 12 0,iv 13 (.mxmn true [.t 12,K0 0]),Mk 14 0] (.blk 0 (.loop kM))) (Sr [Mv 34 7,Mv 35 8,Mv 4 34,Mv 5 35,Mk 6 0] .ret))))
def BH:aZ:=⟨36,tY,[.tmp 4,.tmp 5,.tmp 6],none⟩
def l8:AC:=Sr [iv 1 (.boxv (.t 0)),ic 2 (.alloc (aL (B0) 32))] (Sr [Lt 4 4 1,Cr 5 jj [.t 4],ic 3 (.alloc (aL (U0) 4)),Sv 4 3 5] (Sr [iv 6 (.slice (.arr 4) 1 (.t 3) none none none),Cr 7 qP [.t 6],iv 8 (.s2a 32 (.t 7)),Lt 9 32 8,Sv 32 2 9] .ret))
def ri:aZ:=⟨10,l8,[.cell 2 32 true],none⟩
def fS:AC:=Sr [Mk 2 0] (Sr [Mv 3 0,Nk 4 3,Fa 5 33 4,Ld 6 5,ir 7 (.inv (.t 6) "Calls" []),Mv 2 7] .ret)
def kV:aZ:=⟨8,fS,[.tmp 2],none⟩
def ju:AC:=Sr [Mk 2 0] (Sr [Mv 3 0,Nk 4 3,Fa 5 4 4,Ld 6 5,Mv 2 6] .ret)
def oo:aZ:=⟨7,ju,[.tmp 2],none⟩
def d7:AC:=Sr [Bt 10 .lss 9 8] (.seq (Cd 10 .skip (.exit 0)) (.seq (.blk 1 (Sr [iv 11 (.iadr none 4 (.t 7) (.t 9)),Lt 12 4 11,Al 6 [I0,I0,I0,.nsl],Sv 4 6 12] (Sr [Fa 13 3 6,Ld 14 13,iv 15 (.lenL (.t 14)),Bi 16 .gtr 15 400,Mv 17 16,Gv 18 (.fadr 2 (.t 6)) 17 false [],Gr 19 (.ld 1 false (.t 18)) 17 false [] 0 0,Gv 20 (.bin .gtr (.t 19) (K0 100)) 17 false [],Gv 21 (.mv (.t 20)) 17 false [],Gv 22 (.fadr 2 (.t 6)) 21 true [],Gr 23 (.ld 1 false (.t 22)) 21 true [] 0 0,Gv 24 (.bin .leq (.t 23) (K0 1048576)) 21 true [],Gv 25 (.pick (.t 21) (.t 24) (.k (.bool false))) 17 false [],iv 26 (.pick (.t 17) (.k (.bool true)) (.t 25))] (Cd 26 (Sr [iv 4 (.mv (.k (.bool false)))] .ret) .skip)))) (.reg [Bi 27 .add 9 1,Mv 9 27])))
def mD:AC:=Sr [iv 4 (.mv (.k (.bool false)))] (.seq (Sr [Mv 7 0,iv 8 (.lenL (.t 7)),Mk 9 0] (.blk 0 (.loop d7))) (Sr [Mv 28 0,iv 29 (.lenL (.t 28)),Mv 30 1,Bt 31 .leq 29 30,Mv 4 31] .ret))
def wW:aZ:=⟨32,mD,[.tmp 4],none⟩
def jA:AC:=Sr [Bt 66 .lss 65 64] (.seq (Cd 66 .skip (.exit 0)) (.seq (.blk 1 (Sr [iv 67 (.iadr none 4 (.t 63) (.t 65)),Lt 68 4 67,Al 16 [I0,I0,I0,.nsl],Sv 4 16 68] (Sr [Mv 70 8,Lt 71 15 11,Lt 72 4 16,Ca 73 lC [.t 70,.t 71,.t 72],Mv 69 73,Ex 74 69 0,Ex 75 69 1,Al 17 [I0,.nsl,I0,I0,.nsl,.nsl,I0,I0,I0,.nsl,.nsl,.nsl,I0,I0,I0],Sv 15 17 74,Mv 18 75] (Sr [Lt 76 15 17,Sv 15 11 76] (.seq (.draw [Dm 77 18,Dv 78 (.un .not (.t 77)) [77],Dm 79 78,Gm 80 8 79 false,Gr 81 (.call dj [.t 80]) 79 false [80,79] 0 0,Gf 82 1 11 79 false,Gf 83 1 82 79 false,Gl 84 83 79 false,Gv 85 (.bin .neq (.t 81) (.t 84)) 79 false [81,84,79],Dv 86 (.pick (.t 79) (.k (.bool true)) (.t 85)) [79,85],Dm 87 86,Gm 88 8 87 false,Gc 89 (.call cN [.t 88]) 87 false [88,87],Gf 90 1 11 87 false,Gf 91 2 90 87 false,Gr 92 (.ld 1 false (.t 91)) 87 false [91,87] 0 1,Gv 93 (.bin .neq (.t 89) (.t 92)) 87 false [89,92,87],Dv 94 (.pick (.t 87) (.k (.bool true)) (.t 93)) [87,93],Dm 95 94,Gm 96 8 95 false,Gr 97 (.call bZ [.t 96]) 95 false [96,95] 1 1,Gr 98 (.ld 15 true (.t 11)) 95 false [11,95] 1 1,Gr 99 (.call kG [.t 98]) 95 false [98,95] 1 1,Gv 100 (.bin .neq (.t 97) (.t 99)) 95 false [97,99,95],Dv 101 (.pick (.t 95) (.k (.bool true)) (.t 100)) [95,100]]) (Cd 101 (Sr [iv 6 (.mv (.k (.bool false)))] .ret) .skip)))))) (.reg [Bi 102 .add 65 1,Mv 65 102])))
def gP:AC:=Sr [iv 6 (.mv (.k (.bool false)))] (Sr [Bu 19 [.nsl,.nsl] [],Al 7 [.nsl,.nsl],Sv 2 7 19] (.seq (Sr [Mv 20 0,Bi 21 .eql 20 2] (Cd 21 (.reg [Cr 22 Iy [],Sv 2 7 22]) .skip)) (Sr [Mv 24 0,Mv 25 1,Ca 26 fI [.t 24,.t 25],Mv 23 26,Ex 27 23 0,Ex 28 23 1,Ex 29 23 2,Mv 8 27,Mv 9 28,Mv 10 29] (Sr [Lt 31 2 7,Mv 32 0,Mv 33 1,Cr 34 mT [.t 31,.t 32,.t 33],Mv 30 34,Ex 35 30 0,Ex 36 30 1,Ex 37 30 2,Al 11 [I0,.nsl,I0,I0,.nsl,.nsl,I0,I0,I0,.nsl,.nsl,.nsl,I0,I0,I0],Sv 15 11 35,Mv 12 36,Mv 13 37] (.seq (Sr [Mv 38 10,Mv 39 13,Bt 40 .neq 38 39,Mv 41 40,Gv 42 (.mv (.t 9)) 41 false [],Gv 43 (.mv (.t 12)) 41 false [],Gv 44 (.bin .neq (.t 42) (.t 43)) 41 false [],iv 45 (.pick (.t 41) (.k (.bool true)) (.t 44)),Mv 46 45,Gv 47 (.mv (.t 8)) 46 false [],Gv 48 (.eq .ptr true (.t 47) (.k (.nilp))) 46 false [],Gv 49 (.mv (.t 13)) 46 false [],Gv 50 (.bin .eql (.t 49) (K0 0)) 46 false [],Gv 51 (.eq .bool true (.t 48) (.t 50)) 46 false [],iv 52 (.pick (.t 46) (.k (.bool true)) (.t 51))] (Cd 52 (Sr [iv 6 (.mv (.k (.bool false)))] .ret) .skip)) (.seq (Sr [Mv 53 8,iv 54 (.eq .ptr false (.t 53) (.k (.nilp)))] (Cd 54 (Sr [iv 6 (.mv (.k (.bool true)))] .ret) .skip)) (Sr [Mv 55 8,Cr 56 cO [.t 55],ic 14 (.alloc (aL (B0) 32)),Sv 32 14 56] (.seq (.seq (.draw [Dv 57 (.slice (.arr 32) 1 (.t 14) none none none) [14],Dr 58 (.b2s (.t 57)) [57] 0 0,Df 59 4 11,Dl 60 59,Dr 61 (.b2s (.t 60)) [60] 0 0,Dv 62 (.bin .neq (.t 58) (.t 61)) [58,61]]) (Cd 62 (Sr [iv 6 (.mv (.k (.bool false)))] .ret) .skip)) (.seq (Sr [Mv 63 2,iv 64 (.lenL (.t 63)),Mk 65 0] (.blk 0 (.loop jA))) (Sr [iv 6 (.mv (.k (.bool true)))] .ret))))))))))
def ut:aZ:=⟨103,gP,[.tmp 6],none⟩
def aT:AC:=Sr [Mk 6 0] (.seq (Sr [Mv 13 0,Ca 14 cN [.t 13],Mv 7 14] (Sr [Mv 15 7,Bi 16 .neq 15 0] (Cd 16 (Sr [Mv 17 7,Mv 6 17] .ret) .skip))) (Sr [Mv 19 1,Mv 20 2,Cr 21 kT [.t 19,.t 20],Mv 18 21,Ex 22 18 0,Ex 23 18 1,Mv 8 22,Mv 9 23] (.seq (Sr [Mv 24 9,Bi 25 .neq 24 0] (Cd 25 (Sr [Mv 26 0,Nk 27 26,Fa 28 0 27,Ld 29 28,Mv 30 9,Ca 31 dq [.t 29,.t 30],Mv 6 31] .ret) .skip)) (Sr [Mv 32 1,Mv 33 8,Mv 34 2,Bu 35 [I0,I0,I0,.nsl] [(0,1,K0 1),(1,1,.t 32),(2,1,.t 33),(3,1,.t 34)],Al 10 [I0,I0,I0,.nsl],Sv 4 10 35] (.seq (Sr [Mv 36 0,Lt 37 4 10,Ca 38 a9 [.t 36,.t 37],Mv 11 38] (Sr [Mv 39 11,Bi 40 .neq 39 0] (Cd 40 (Sr [Mv 41 11,Mv 6 41] .ret) .skip))) (.seq (Sr [Mv 42 1,Mv 43 2,Cr 44 nO [.t 42,.t 43],Mv 12 44] (Sr [Mv 45 12,Bi 46 .neq 45 0] (Cd 46 (Sr [Mv 47 0,Nk 48 47,Fa 49 0 48,Ld 50 49,Mv 51 12,Ca 52 dq [.t 50,.t 51],Mv 6 52] .ret) .skip))) (.seq (.draw [Dm 53 0,Dk 54 53,Df 55 33 54,Dl 56 55,Dr 57 (.ld 4 true (.t 10)) [10] 0 0,Dc 58 (.inv (.t 56) "avouch/transcript.tell" [.t 57]) [56,57]]) (Sr [Mk 6 0] .ret))))))))
def kN:aZ:=⟨59,aT,[.tmp 6],none⟩
def cX:AC:=Sr [iv 4 (.mv (.k (.nsl))),Mk 5 0] (Sr [Mv 8 1,Bu 9 [I0,I0,I0,.nsl] [(0,1,K0 2),(1,1,K0 1),(2,1,.t 8)],Al 6 [I0,I0,I0,.nsl],Sv 4 6 9] (.seq (Sr [Mv 10 0,Lt 11 4 6,Ca 12 a9 [.t 10,.t 11],Mv 7 12] (Sr [Mv 13 7,Bi 14 .neq 13 0] (Cd 14 (Sr [Mv 15 7,iv 4 (.mv (.k (.nsl))),Mv 5 15] .ret) .skip))) (.seq (.draw [Dm 16 0,Dk 17 16,Df 18 33 17,Dl 19 18,Dr 20 (.ld 4 true (.t 6)) [6] 0 0,Dc 21 (.inv (.t 19) "avouch/transcript.tell" [.t 20]) [19,20]]) (Sr [Mv 22 0,Nk 23 22,Fa 24 33 23,Ld 25 24,Mv 26 1,ic 27 (.inv (.t 25) "avouch/transcript.bytes" [.t 26]),Mv 4 27,Mk 5 0] .ret))))
def kf:aZ:=⟨28,cX,[.tmp 4,.tmp 5],none⟩
def jB:AC:=Sr [iv 1 (.boxv (.t 0)),iv 2 (.mv (.k (.nsl))),Mk 3 0] (.seq (Sr [Lt 6 4 1,Cr 7 dM [.t 6],Mv 4 7] (Sr [Mv 8 4,Bi 9 .neq 8 0] (Cd 9 (Sr [Mv 10 4,iv 2 (.mv (.k (.nsl))),Mv 3 10] .ret) .skip))) (.seq (.draw [Df 11 0 1,Dl 12 11,Dc 13 (.call aW [.t 12,K0 1]) [12],Df 14 1 1,Dr 15 (.ld 1 false (.t 14)) [14] 0 1,Dc 16 (.call aW [.t 15,K0 1]) [15],Dc 17 (.app 1 false (.t 13) (.t 16)) [13,16],Dm 5 17]) (.seq (.draw [Dm 18 5,Df 19 2 1,Dl 20 19,Dc 21 (.call aW [.t 20,K0 4]) [20],Dc 22 (.app 1 false (.t 18) (.t 21)) [18,21],Df 23 3 1,Dr 24 (.ld 1 false (.t 23)) [23] 0 2,Dv 25 (.lenS (.t 24)) [24],Dc 26 (.call aW [.t 25,K0 2]) [25],Dc 27 (.app 1 false (.t 22) (.t 26)) [22,26],Dm 5 27]) (Sr [Mv 28 5,Fa 29 3 1,Ld 30 29,ic 31 (.s2b (.t 30)),ic 32 (.app 1 false (.t 28) (.t 31)),Mv 2 32,Mk 3 0] .ret))))
def s9:aZ:=⟨33,jB,[.tmp 2,.tmp 3],none⟩
def wX:AC:=Sr [iv 2 (.mv (.k (.nilp))),Mk 3 0,Mk 4 0] (Sr [Mv 9 0,Cr 10 pq [.t 9],Mv 8 10,Ex 11 8 0,Ex 12 8 1,Ex 13 8 2,Mv 5 11,Mv 6 12,Mv 7 13] (.seq (Sr [Mv 14 7,Bi 15 .neq 14 0] (Cd 15 (Sr [Mv 16 6,Mv 17 7,iv 2 (.mv (.k (.nilp))),Mv 3 16,Mv 4 17] .ret) .skip)) (Sr [Mv 18 5,Bu 19 [.nsl,I0,.nilp] [(0,1,.t 18)],ic 20 (.box (.t 19)),Mv 2 20,Mk 3 (-1),Mk 4 0] .ret)))
def J7:aZ:=⟨21,wX,[.tmp 2,.tmp 3,.tmp 4],none⟩
def rM:AC:=Sr [ic 4 (.alloc (aL (B0) 32)),Mk 5 0,Mk 6 0] (.seq (Sr [Mv 10 0,Bi 11 .neq 10 1,Mv 12 11,Gv 13 (.mv (.t 0)) 12 true [],Gv 14 (.bin .neq (.t 13) (K0 2)) 12 true [],iv 15 (.pick (.t 12) (.t 14) (.k (.bool false)))] (Cd 15 (Sr [iv 16 (.build (aL (B0) 32) []),Sv 32 4 16,Mk 5 (-1),Mk 6 15] .ret) .skip)) (Sr [Mv 18 1,Cr 19 kH [.t 18],Mv 17 19,Ex 20 17 0,Ex 21 17 1,Ex 22 17 2,Mv 7 20,Mv 8 21,Mv 9 22] (.seq (Sr [Mv 23 9,Bi 24 .neq 23 0] (Cd 24 (Sr [iv 25 (.build (aL (B0) 32) []),Mv 26 8,Mv 27 9,Sv 32 4 25,Mv 5 26,Mv 6 27] .ret) .skip)) (Sr [ic 28 (.slit 1 19 [B0] [(0,.k (.int .u8 97)),(1,.k (.int .u8 118)),(2,.k (.int .u8 111)),(3,.k (.int .u8 117)),(4,.k (.int .u8 99)),(5,.k (.int .u8 104)),(6,.k (.int .u8 47)),(7,.k (.int .u8 116)),(8,.k (.int .u8 114)),(9,.k (.int .u8 97)),(10,.k (.int .u8 110)),(11,.k (.int .u8 115)),(12,.k (.int .u8 99)),(13,.k (.int .u8 114)),(14,.k (.int .u8 105)),(15,.k (.int .u8 112)),(16,.k (.int .u8 116)),(17,.k (.int .u8 47)),(18,.k (.int .u8 49))]),ir 29 (.mark (.t 28)),Mv 30 0,iv 31 (.i2i .u8 (.t 30)),iv 32 (.slit 1 1 [B0] [(0,.t 31)]),Mv 33 7,iv 34 (.slit 1 3 [.nsl] [(0,.t 29),(1,.t 32),(2,.t 33)]),Cr 35 qQ [.t 34],Sv 32 4 35,Mk 5 (-1),Mk 6 0] .ret))))
def Po:aZ:=⟨36,rM,[.cell 4 32 true,.tmp 5,.tmp 6],none⟩
def ow:AC:=Sr [iv 2 (.mv (.k (.nsl)))] (Sr [Mv 3 0,Nk 4 3,Fa 5 0 4,Ld 6 5,Cr 7 eQ [.t 6],Mv 2 7] .ret)
def uu:aZ:=⟨8,ow,[.tmp 2],none⟩
def ar:AC:=Sr [iv 1 (.boxv (.t 0)),Mk 2 0] (.seq (Sr [Fa 3 0 1,Ld 4 3,Bi 5 .lss 4 1,Mv 6 5,Gv 7 (.fadr 0 (.t 1)) 6 false [],Gr 8 (.ld 1 false (.t 7)) 6 false [] 0 0,Gv 9 (.bin .gtr (.t 8) (K0 3)) 6 false [],iv 10 (.pick (.t 6) (.k (.bool true)) (.t 9))] (Cd 10 (Sr [Mk 2 5] .ret) .skip)) (.seq (Sr [Fa 11 0 1,Ld 12 11,Bi 13 .eql 12 1,Mv 14 13,Gv 15 (.fadr 1 (.t 1)) 14 true [],Gr 16 (.ld 1 false (.t 15)) 14 true [] 0 0,Gv 17 (.bin .lss (.t 16) (K0 1)) 14 true [],Gv 18 (.mv (.t 17)) 14 true [],Gv 19 (.fadr 1 (.t 1)) 18 false [],Gr 20 (.ld 1 false (.t 19)) 18 false [] 0 0,Gv 21 (.bin .gtr (.t 20) (K0 4)) 18 false [],Gv 22 (.pick (.t 18) (.k (.bool true)) (.t 21)) 14 true [],iv 23 (.pick (.t 14) (.t 22) (.k (.bool false))),Mv 24 23,Gv 25 (.fadr 0 (.t 1)) 24 false [],Gr 26 (.ld 1 false (.t 25)) 24 false [] 0 0,Gv 27 (.bin .eql (.t 26) (K0 2)) 24 false [],Gv 28 (.mv (.t 27)) 24 false [],Gv 29 (.fadr 1 (.t 1)) 28 true [],Gr 30 (.ld 1 false (.t 29)) 28 true [] 0 0,Gv 31 (.bin .neq (.t 30) (K0 1)) 28 true [],Gv 32 (.pick (.t 28) (.t 31) (.k (.bool false))) 24 false [],Gv 33 (.mv (.t 32)) 24 false [],Gv 34 (.fadr 1 (.t 1)) 33 true [],Gr 35 (.ld 1 false (.t 34)) 33 true [] 0 0,Gv 36 (.bin .neq (.t 35) (K0 3)) 33 true [],Gv 37 (.pick (.t 33) (.t 36) (.k (.bool false))) 24 false [],iv 38 (.pick (.t 24) (.k (.bool true)) (.t 37)),Mv 39 38,Gv 40 (.fadr 0 (.t 1)) 39 false [],Gr 41 (.ld 1 false (.t 40)) 39 false [] 0 0,Gv 42 (.bin .eql (.t 41) (K0 3)) 39 false [],Gv 43 (.mv (.t 42)) 39 false [],Gv 44 (.fadr 1 (.t 1)) 43 true [],Gr 45 (.ld 1 false (.t 44)) 43 true [] 0 0,Gv 46 (.bin .neq (.t 45) (K0 0)) 43 true [],Gv 47 (.pick (.t 43) (.t 46) (.k (.bool false))) 39 false [],iv 48 (.pick (.t 39) (.k (.bool true)) (.t 47))] (Cd 48 (Sr [Mk 2 6] .ret) .skip)) (.seq (Sr [Fa 49 2 1,Ld 50 49,Bi 51 .lss 50 1,Mv 52 51,Gv 53 (.fadr 2 (.t 1)) 52 false [],Gr 54 (.ld 1 false (.t 53)) 52 false [] 0 0,Gv 55 (.bin .gtr (.t 54) (K0 1048576)) 52 false [],iv 56 (.pick (.t 52) (.k (.bool true)) (.t 55)),Mv 57 56,Gv 58 (.fadr 0 (.t 1)) 57 false [],Gr 59 (.ld 1 false (.t 58)) 57 false [] 0 0,Gv 60 (.bin .eql (.t 59) (K0 3)) 57 false [],Gv 61 (.mv (.t 60)) 57 false [],Gv 62 (.fadr 2 (.t 1)) 61 true [],Gr 63 (.ld 1 false (.t 62)) 61 true [] 0 0,Gv 64 (.bin .neq (.t 63) (K0 1)) 61 true [],Gv 65 (.pick (.t 61) (.t 64) (.k (.bool false))) 57 false [],iv 66 (.pick (.t 57) (.k (.bool true)) (.t 65))] (Cd 66 (Sr [Mk 2 7] .ret) .skip)) (.seq (Sr [Fa 67 3 1,Ld 68 67,iv 69 (.lenS (.t 68)),Bi 70 .gtr 69 255] (Cd 70 (Sr [Mk 2 8] .ret) .skip)) (Sr [Mk 2 0] .ret)))))
def uv:aZ:=⟨71,ar,[.tmp 2],none⟩
def dJ:AC:=Sr [Mk 4 0,Mk 5 0] (.seq (Sr [Mv 7 0,Cr 8 dr [.t 7],Bi 9 .eql 8 0] (Cd 9 (Sr [Mk 4 0,Mk 5 6] .ret) .skip)) (.seq (Sr [Mv 10 1,iv 11 (.lenL (.t 10)),Mv 12 0,Cr 13 dr [.t 12],Bt 14 .rem 11 13,Bi 15 .neq 14 0] (Cd 15 (Sr [Mk 4 0,Mk 5 3] .ret) .skip)) (Sr [Mv 16 1,iv 17 (.lenL (.t 16)),Mv 18 0,Cr 19 dr [.t 18],Bt 20 .quo 17 19,Mv 6 20] (.seq (Sr [Mv 21 6,Bi 22 .lss 21 1,Mv 23 22,Gv 24 (.mv (.t 6)) 23 false [],Gv 25 (.bin .gtr (.t 24) (K0 1048576)) 23 false [],iv 26 (.pick (.t 23) (.k (.bool true)) (.t 25))] (Cd 26 (Sr [Mk 4 0,Mk 5 7] .ret) .skip)) (Sr [Mv 27 6,Mv 4 27,Mk 5 0] .ret)))))
def uw:aZ:=⟨28,dJ,[.tmp 4,.tmp 5],none⟩
def bW:AC:=.seq (Sr [Mv 19 7,Mv 20 5,Bt 21 .lss 19 20] (Cd 21 .skip (.exit 0))) (.seq (.blk 1 (Sr [Mv 24 1,Mv 25 7,Mv 26 0,Cr 27 dr [.t 26],Bt 28 .mul 25 27,Mv 29 7,Bi 30 .add 29 1,Mv 31 0,Cr 32 dr [.t 31],Bt 33 .mul 30 32,iv 34 (.slice .slc 1 (.t 24) (some (.t 28)) (some (.t 33)) none),Mv 8 34] (Sr [Mk 9 0] (.seq (Sr [Mv 35 0,Bi 36 .eql 35 3] (Cd 36 (.reg [Mv 38 8,Cr 39 lD [.t 38],Mv 37 39,Ex 40 37 0,Ex 41 37 1,Mv 9 41]) .skip)) (.seq (Sr [Mv 42 0,Bi 43 .eql 42 4] (Cd 43 (.reg [Mv 45 8,Cr 46 i5 [.t 45],Mv 44 46,Ex 47 44 0,Ex 48 44 1,Mv 9 48]) .skip)) (Sr [Mv 49 9,Bi 50 .neq 49 0] (Cd 50 (Sr [Mk 4 4] .ret) .skip))))))) (.reg [Mv 22 7,Bi 23 .add 22 1,Mv 7 23]))
def ki:AC:=Sr [Mk 4 0] (Sr [Mv 11 0,Mv 12 1,Cr 13 fh [.t 11,.t 12],Mv 10 13,Ex 14 10 0,Ex 15 10 1,Mv 5 14,Mv 6 15] (.seq (Sr [Mv 16 6,Bi 17 .neq 16 0] (Cd 17 (Sr [Mv 18 6,Mv 4 18] .ret) .skip)) (.seq (Sr [Mk 7 0] (.blk 0 (.loop bW))) (Sr [Mk 4 0] .ret))))
def ux:aZ:=⟨51,ki,[.tmp 4],none⟩
def bB:AC:=Sr [iv 4 (.mv (.k (.nsl))),Mk 5 0] (Sr [Mv 10 1,Bu 11 [I0,I0,I0,.nsl] [(0,1,K0 2),(1,1,K0 3),(2,1,.t 10)],Al 6 [I0,I0,I0,.nsl],Sv 4 6 11] (.seq (Sr [Mv 12 0,Lt 13 4 6,Ca 14 a9 [.t 12,.t 13],Mv 7 14] (Sr [Mv 15 7,Bi 16 .neq 15 0] (Cd 16 (Sr [Mv 17 7,iv 4 (.mv (.k (.nsl))),Mv 5 17] .ret) .skip))) (.seq (.draw [Dm 18 0,Dk 19 18,Df 20 33 19,Dl 21 20,Dr 22 (.ld 4 true (.t 6)) [6] 0 0,Dc 23 (.inv (.t 21) "avouch/transcript.tell" [.t 22]) [21,22]]) (Sr [Mv 25 0,Nk 26 25,Fa 27 33 26,Ld 28 27,Mv 29 1,ic 30 (.inv (.t 28) "avouch/transcript.fields" [.t 29]),Mv 24 30,Ex 31 24 0,Ex 32 24 1,Mv 8 31,Mv 9 32] (.seq (Sr [Mv 33 9,Bi 34 .neq 33 0] (Cd 34 (Sr [Mv 35 0,Nk 36 35,Fa 37 0 36,Ld 38 37,Mv 39 9,Ca 40 dq [.t 38,.t 39],iv 4 (.mv (.k (.nsl))),Mv 5 40] .ret) .skip)) (Sr [Mv 41 8,Mv 4 41,Mk 5 0] .ret))))))
def jr:aZ:=⟨42,bB,[.tmp 4,.tmp 5],none⟩
def cY:AC:=Sr [Mk 2 0] (Sr [Bu 5 [I0,I0,I0,.nsl] [(0,1,K0 3),(1,1,K0 0),(2,1,K0 1)],Al 3 [I0,I0,I0,.nsl],Sv 4 3 5] (Sr [Mv 6 0,Lt 7 4 3,Ca 8 a9 [.t 6,.t 7],Mv 4 8] (.seq (Sr [Mv 9 4,Bi 10 .eql 9 0] (Cd 10 (.seq (.draw [Dm 11 0,Dk 12 11,Df 13 33 12,Dl 14 13,Dr 15 (.ld 4 true (.t 3)) [3] 0 0,Dc 16 (.inv (.t 14) "avouch/transcript.tell" [.t 15]) [14,15]]) (.reg [Mv 17 0,Nk 18 17,Fa 19 33 18,Ld 20 19,ic 21 (.inv (.t 20) "Ratchet" [])])) .skip)) (Sr [Mv 22 4,Mv 2 22] .ret))))
def kg:aZ:=⟨23,cY,[.tmp 2],none⟩
def iP:AC:=Sr [Mk 4 0] (.seq (Sr [Mv 5 0,Nk 6 5,Fa 7 2 6,Ld 8 7,iv 9 (.eq .ptr false (.t 8) (.k (.nilp))),Mv 10 9,Gv 11 (.mv (.t 1)) 10 true [],Gv 12 (.bin .neq (.t 11) (K0 0)) 10 true [],iv 13 (.pick (.t 10) (.t 12) (.k (.bool false)))] (Cd 13 (.reg [Mv 14 0,Mv 15 1,Bu 16 [I0] [(0,1,.t 15)],iv 17 (.boxv (.t 16)),Nk 18 14,Fa 19 2 18,Sx 19 17]) .skip)) (.seq (Sr [Mv 20 0,Nk 21 20,Fa 22 2 21,Ld 23 22,iv 24 (.eq .ptr false (.t 23) (.k (.nilp)))] (Cd 24 (Sr [Mk 4 0] .ret) .skip)) (Sr [Mv 25 0,Nk 26 25,Fa 27 2 26,Ld 28 27,Nk 29 28,Fa 30 0 29,Ld 31 30,Mv 4 31] .ret)))
def vr:aZ:=⟨32,iP,[.tmp 4],none⟩
def jC:AC:=Sr [Mk 2 0] (.seq (.draw [Dm 3 0,Dm 4 0,Dk 5 4,Df 6 1 5,Dl 7 6,Dm 8 0,Dk 9 8,Df 10 0 9,Dl 11 10,Dv 12 (.lenL (.t 11)) [11],Dv 13 (.bin .eql (.t 7) (.t 12)) [7,12],Dc 14 (.call gh [.t 3,.t 13,K0 12]) [3,13],Dm 2 14]) .ret)
def td:aZ:=⟨15,jC,[.tmp 2],none⟩
def rX:AC:=Sr [Mk 2 0] (Sr [Mv 3 0,Nk 4 3,Fa 5 1 4,Ld 6 5,Mv 2 6] .ret)
def yV:aZ:=⟨7,rX,[.tmp 2],none⟩
def ub:AC:=Sr [iv 4 (.mv (.k (.nilp)))] (Sr [Mv 8 0,Mv 9 1,Ca 10 oi [.t 8,.t 9],Mv 7 10,Ex 11 7 0,Ex 12 7 1,Mv 5 11,Mv 6 12] (Sr [Mv 13 5,Mv 4 13] .ret))
def BM:aZ:=⟨14,ub,[.tmp 4],none⟩
def uc:AC:=Sr [iv 0 (.mv (.k (.nif)))] (Sr [Bu 1 [] [],iv 2 (.mkif 157 (.t 1)),Mv 0 2] .ret)
def BN:aZ:=⟨3,uc,[.tmp 0],none⟩
def io:AC:=.seq (.draw [Dm 2 0,Dk 3 2,Df 4 0 3,Dl 5 4,Dm 6 0,Dk 7 6,Df 8 1 7,Dl 9 8,Dk 10 5,Dm 11 5,Dc 12 (.inv (.t 11) "Permute" [.t 9]) [11,9]]) (Sr [Mv 13 0,Nk 14 13,Fa 15 4 14,Ld 16 15,Bi 17 .add 16 1,Nk 18 13,Fa 19 4 18,Sx 19 17] (.reg [Mv 20 0,Nk 21 20,Fa 22 2 21,jc (.st 1 (.t 22) (K0 0))]))
def mW:aZ:=⟨23,io,[],none⟩
def gy:AC:=Sr [iv 1 (.boxv (.t 0)),iv 2 (.mv (.k (.bool false)))] (.seq (Sr [Fa 5 0 1,Ld 6 5,Fa 7 1 1,Ld 8 7,Fa 9 2 1,Ld 10 9,iv 11 (.build [I0,I0,I0,.str ⟨#[]⟩] [(0,1,.t 6),(1,1,.t 8),(2,1,.t 10)]),Cr 12 lE [.t 11],Bi 13 .neq 12 0] (Cd 13 (Sr [iv 2 (.mv (.k (.bool false)))] .ret) .skip)) (.seq (Sr [Fa 14 0 1,Ld 15 14,Bi 16 .neq 15 1] (Cd 16 (Sr [Fa 17 3 1,Ld 18 17,iv 19 (.lenL (.t 18)),Bi 20 .eql 19 0,Mv 2 20] .ret) .skip)) (Sr [Fa 22 1 1,Ld 23 22,Fa 24 3 1,Ld 25 24,Cr 26 kT [.t 23,.t 25],Mv 21 26,Ex 27 21 0,Ex 28 21 1,Mv 3 27,Mv 4 28] (Sr [Mv 29 3,Fa 30 2 1,Ld 31 30,Bt 32 .eql 29 31,Mv 33 32,Gv 34 (.fadr 1 (.t 1)) 33 true [],Gr 35 (.ld 1 false (.t 34)) 33 true [] 0 0,Gv 36 (.fadr 3 (.t 1)) 33 true [],Gr 37 (.ld 1 false (.t 36)) 33 true [] 0 0,Gr 38 (.call nO [.t 35,.t 37]) 33 true [] 0 0,Gv 39 (.bin .eql (.t 38) (K0 0)) 33 true [],iv 40 (.pick (.t 33) (.t 39) (.k (.bool false))),Mv 2 40] .ret))))
def xf:aZ:=⟨41,gy,[.tmp 2],none⟩
def lP:AC:=Sr [Bi 10 .lss 9 64] (.seq (Cd 10 .skip (.exit 0)) (.seq (.blk 1 (Sr [Mv 11 9,Mv 5 11] (Sr [Mv 12 0,ic 13 (.callv (.t 12) []),Cr 14 sV [.t 13],ic 6 (.alloc (aL (B0) 32)),Sv 32 6 14] (Sr [iv 16 (.slice (.arr 32) 1 (.t 6) none none none),Cr 17 gH [.t 16],Mv 15 17,Ex 18 15 0,Ex 19 15 1,ic 7 (.alloc (aL (U0) 4)),Sv 4 7 18,Mv 8 19] (Sr [Mv 20 8,Bi 21 .eql 20 0] (Cd 21 (Sr [Lt 22 4 7,Mv 23 5,Bi 24 .add 23 1,Sv 4 2 22,Mv 3 24,Mk 4 0] .ret) .skip)))))) (.reg [Bi 25 .add 9 1,Mv 9 25])))
def vG:AC:=Sr [ic 2 (.alloc (aL (U0) 4)),Mk 3 0,Mk 4 0] (.seq (Sr [Mk 9 0] (.blk 0 (.loop lP))) (Sr [iv 26 (.build (aL (U0) 4) []),Sv 4 2 26,Mk 3 64,Mk 4 11] .ret))
def Db:aZ:=⟨27,vG,[.cell 2 4 true,.tmp 3,.tmp 4],none⟩
def me:AC:=Sr [iv 1 (.boxv (.t 0)),ic 2 (.alloc (aL (U0) 4))] (Sr [Fa 3 0 1,Lt 4 4 3,iv 5 (.build (aL (U0) 4) [(0,1,.k (.int .u64 1))]),Cr 6 lW [.t 4,.t 5],Sv 4 2 6] .ret)
def rp:aZ:=⟨7,me,[.cell 2 4 true],none⟩
def lY:AC:=Sr [Bi 13 .lss 12 8] (.seq (Cd 13 .skip (.exit 2)) (.seq (.blk 3 (Sr [Mv 14 3,Mv 15 5,iv 16 (.i2i .u8 (.t 15)),iv 17 (.slit 1 1 [B0] [(0,.t 16)]),ic 18 (.app 1 false (.t 14) (.t 17)),Mv 3 18] (.reg [Mv 19 5,iv 20 (.bin .shr (.t 19) (.k (.int .u64 8))),Mv 5 20]))) (.reg [Bi 21 .add 12 1,Mv 12 21])))
def sO:AC:=Sr [Bt 9 .lss 8 7] (.seq (Cd 9 .skip (.exit 0)) (.seq (.blk 1 (Sr [Ia 10 6 8,Ld 11 10,Mv 5 11] (Sr [Mk 12 0] (.blk 2 (.loop lY))))) (.reg [Bi 22 .add 8 1,Mv 8 22])))
def Aw:AC:=Sr [iv 2 (.mv (.k (.nsl)))] (Sr [iv 3 (.mv (.k (.nsl)))] (.seq (Sr [Mv 6 0,iv 7 (.lenL (.t 6)),Mk 8 0] (.blk 0 (.loop sO))) (Sr [Mv 23 3,Mv 2 23] .ret)))
def HU:aZ:=⟨24,Aw,[.tmp 2],none⟩
def jQ:AC:=Sr [iv 3 (.boxv (.t 0)),Al 6 [I0,.nsl,I0,I0,.nsl,.nsl,I0,I0,I0,.nsl,.nsl,.nsl,I0,I0,I0],Mk 7 0,Mk 8 0] (.seq (Sr [Mv 13 1,Bi 14 .neq 13 1,Mv 15 14,Gv 16 (.mv (.t 1)) 15 true [],Gv 17 (.bin .neq (.t 16) (K0 2)) 15 true [],iv 18 (.pick (.t 15) (.t 17) (.k (.bool false)))] (Cd 18 (Sr [Bu 19 [I0,.nsl,I0,I0,.nsl,.nsl,I0,I0,I0,.nsl,.nsl,.nsl,I0,I0,I0] [],Sv 15 6 19,Mk 7 (-1),Mk 8 15] .ret) .skip)) (Sr [Mv 21 2,Cr 22 mU [.t 21],Mv 20 22,Ex 23 20 0,Ex 24 20 1,Ex 25 20 2,Al 9 [.nsl,I0,I0],Sv 3 9 23,Mv 10 24,Mv 11 25] (.seq (Sr [Mv 26 11,Bi 27 .neq 26 0] (Cd 27 (Sr [Bu 28 [I0,.nsl,I0,I0,.nsl,.nsl,I0,I0,I0,.nsl,.nsl,.nsl,I0,I0,I0] [],Mv 29 10,Mv 30 11,Sv 15 6 28,Mv 7 29,Mv 8 30] .ret) .skip)) (Sr [Mv 31 1,Lt 32 3 9,Bu 33 [I0,.nsl,I0,I0,.nsl,.nsl,I0,I0,I0,.nsl,.nsl,.nsl,I0,I0,I0] [(0,1,.t 31),(1,3,.t 32)],Al 12 [I0,.nsl,I0,I0,.nsl,.nsl,I0,I0,I0,.nsl,.nsl,.nsl,I0,I0,I0],Sv 15 12 33] (Sr [Mv 35 1,Fa 36 0 9,Ld 37 36,Cr 38 mV [.t 35,.t 37],Mv 34 38,Ex 39 34 0,Ex 40 34 1,Ex 41 34 2,Fa 42 4 12,Sx 42 39] (.seq (Sr [Mv 43 1,Bi 44 .eql 43 1] (Cd 44 (.reg [Fa 45 4 12,Ld 46 45,Cr 47 jl [.t 46],Fa 48 5 12,Sv 4 48 47]) (.reg [Lt 49 2 3,Fa 50 4 12,Ld 51 50,Cr 52 Bq [.t 49,.t 51],Fa 53 9 12,Sv 6 53 52]))) (Sr [Lt 54 15 12,Sv 15 6 54,Mk 7 (-1),Mk 8 0] .ret)))))))
def xg:aZ:=⟨55,jQ,[.cell 6 15 true,.tmp 7,.tmp 8],none⟩
def ee:AC:=Sr [iv 4 (.boxv (.t 1)),iv 5 (.boxv (.t 2)),Al 6 [I0,.nsl,I0,I0,.nsl,.nsl,I0,I0,I0,.nsl,.nsl,.nsl,I0,I0,I0],iv 7 (.mv (.k (.bool false)))] (.seq (Sr [Fa 24 0 5,Ld 25 24] (.blk 0 (Sr [Bi 27 .eql 25 0,Mv 26 27] (Cd 26 (Sr [Lt 29 15 4,Fa 30 1 5,Ld 31 30,Fa 32 3 5,Ld 33 32,Cr 34 jY [.t 29,.t 31,.t 33],Mv 28 34,Ex 35 28 0,Ex 36 28 1,Al 8 [I0,.nsl,I0,I0,.nsl,.nsl,I0,I0,I0,.nsl,.nsl,.nsl,I0,I0,I0],Sv 15 8 35,Mv 9 36] (.seq (.draw [Dr 37 (.ld 15 true (.t 8)) [8] 0 1,Dm 38 0,Df 39 1 5,Dl 40 39,Df 41 3 5,Dl 42 41,Dc 43 (.call bm [.t 38,.t 40,.t 42]) [38,40,42],Dm 44 9,Dv 45 (.bin .eql (.t 43) (.t 44)) [43,44],Dn (.st 15 (.t 6) (.t 37)) [6,37],Dm 7 45]) .ret)) (Sr [Bi 47 .eql 25 1,Mv 46 47] (Cd 46 (Sr [Lt 49 15 4,Fa 50 2 5,Ld 51 50,Cr 52 jm [.t 49,.t 51],Mv 48 52,Ex 53 48 0,Ex 54 48 1,Ex 55 48 2,Al 10 [I0,.nsl,I0,I0,.nsl,.nsl,I0,I0,I0,.nsl,.nsl,.nsl,I0,I0,I0],Sv 15 10 53,Mv 11 54,Mv 12 55] (Sr [Mv 57 0,Fa 58 2 5,Ld 59 58,Ca 60 bd [.t 57,.t 59],Mv 56 60,Ex 61 56 0,Ex 62 56 1,Mv 13 61,Mv 14 62] (.seq (.draw [Dr 63 (.ld 15 true (.t 10)) [10] 0 0,Dm 64 14,Dm 65 12,Dv 66 (.bin .eql (.t 64) (.t 65)) [64,65],Dm 67 66,Gm 68 13 67 true,Gr 69 (.b2s (.t 68)) 67 true [68,67] 0 1,Gm 70 11 67 true,Gr 71 (.b2s (.t 70)) 67 true [70,67] 0 1,Gv 72 (.bin .eql (.t 69) (.t 71)) 67 true [69,71,67],Dv 73 (.pick (.t 67) (.t 72) (.k (.bool false))) [67,72],Dn (.st 15 (.t 6) (.t 63)) [6,63],Dm 7 73]) .ret))) (Sr [Bi 75 .eql 25 2,Mv 74 75] (Cd 74 (Sr [Lt 77 15 4,Fa 78 2 5,Ld 79 78,Cr 80 eK [.t 77,.t 79],Mv 76 80,Ex 81 76 0,Ex 82 76 1,Ex 83 76 2,Al 15 [I0,.nsl,I0,I0,.nsl,.nsl,I0,I0,I0,.nsl,.nsl,.nsl,I0,I0,I0],Sv 15 15 81,Mv 16 82,Mv 17 83] (Sr [Mv 85 0,Fa 86 2 5,Ld 87 86,Ca 88 cf [.t 85,.t 87],Mv 84 88,Ex 89 84 0,Ex 90 84 1,Mv 18 89,Mv 19 90] (.seq (.draw [Dr 91 (.ld 15 true (.t 15)) [15] 0 0,Dm 92 19,Dm 93 17,Dv 94 (.bin .eql (.t 92) (.t 93)) [92,93],Dm 95 94,Gm 96 18 95 true,Gm 97 16 95 true,Gr 98 (.call mX [.t 96,.t 97]) 95 true [96,97,95] 0 0,Dv 99 (.pick (.t 95) (.t 98) (.k (.bool false))) [95,98],Dn (.st 15 (.t 6) (.t 91)) [6,91],Dm 7 99]) .ret))) (Sr [Bi 101 .eql 25 3,Mv 100 101] (Cd 100 (Sr [Lt 103 15 4,Cr 104 jn [.t 103],Mv 102 104,Ex 105 102 0,Ex 106 102 1,Al 20 [I0,.nsl,I0,I0,.nsl,.nsl,I0,I0,I0,.nsl,.nsl,.nsl,I0,I0,I0],Sv 15 20 105,Mv 21 106] (.seq (.draw [Dr 107 (.ld 15 true (.t 20)) [20] 0 1,Dm 108 0,Dc 109 (.call cZ [.t 108]) [108],Dm 110 21,Dv 111 (.bin .eql (.t 109) (.t 110)) [109,110],Dn (.st 15 (.t 6) (.t 107)) [6,107],Dm 7 111]) .ret)) .skip)))))))))) (Sr [Lt 113 15 4,Cr 114 jZ [.t 113],Mv 112 114,Ex 115 112 0,Ex 116 112 1,Al 22 [I0,.nsl,I0,I0,.nsl,.nsl,I0,I0,I0,.nsl,.nsl,.nsl,I0,I0,I0],Sv 15 22 115,Mv 23 116] (.seq (.draw [Dr 117 (.ld 15 true (.t 22)) [22] 0 1,Dm 118 0,Dc 119 (.call dE [.t 118]) [118],Dm 120 23,Dv 121 (.bin .eql (.t 119) (.t 120)) [119,120],Dn (.st 15 (.t 6) (.t 117)) [6,117],Dm 7 121]) .ret)))
def vI:aZ:=⟨122,ee,[.cell 6 15 true,.tmp 7],none⟩
def oG:AC:=Sr [iv 1 (.boxv (.t 0)),Mk 2 0] (Sr [Fa 3 5 1,Fa 4 3 3,Ld 5 4,Fa 6 9 1,Fa 7 5 6,Ld 8 7,Bt 9 .add 5 8,Mv 2 9] .ret)
def uF:aZ:=⟨10,oG,[.tmp 2],none⟩
def iU:AC:=Sr [Mk 4 0,Mk 5 0] (Sr [Mv 7 0,Cr 8 sW [.t 7],Mv 6 8] (.seq (.blk 0 (Sr [Mv 10 6,Bi 11 .eql 10 0,Mv 9 11] (Cd 9 (Sr [Mk 4 0,Mk 5 6] .ret) (Sr [Mv 13 1,iv 14 (.lenL (.t 13)),Mv 15 6,Bt 16 .rem 14 15,Bi 17 .neq 16 0,Mv 12 17] (Cd 12 (Sr [Mk 4 0,Mk 5 3] .ret) (Sr [Mv 19 1,iv 20 (.lenL (.t 19)),Bi 21 .eql 20 0,Mv 22 21,Gv 23 (.mv (.t 1)) 22 false [],Gv 24 (.lenL (.t 23)) 22 false [],Gv 25 (.mv (.t 6)) 22 false [],Gv 26 (.bin .quo (.t 24) (.t 25)) 22 false [],Gv 27 (.bin .gtr (.t 26) (K0 1048576)) 22 false [],iv 28 (.pick (.t 22) (.k (.bool true)) (.t 27)),Mv 18 28] (Cd 18 (Sr [Mk 4 0,Mk 5 7] .ret) .skip))))))) (Sr [Mv 29 1,iv 30 (.lenL (.t 29)),Mv 31 6,Bt 32 .quo 30 31,Mv 4 32,Mk 5 0] .ret)))
def Dh:aZ:=⟨33,iU,[.tmp 4,.tmp 5],none⟩
def gI:AC:=Sr [iv 3 (.boxv (.t 1)),Mk 4 0] (.seq (.draw [Dm 5 0,Dk 6 5,Df 7 0 6,Dl 8 7,Df 9 0 3,Dl 10 9,Df 11 1 3,Dl 12 11,Df 13 2 3,Dl 14 13,Dc 15 (.call lF [.t 8,.t 10,.t 12,.t 14]) [8,10,12,14],Dm 4 15]) .ret)
def lQ:aZ:=⟨16,gI,[.tmp 4],none⟩
def jx:AC:=.seq (Sr [Fa 20 1 7,Ld 21 20,iv 22 (.eq .fn true (.t 21) (.k (.nfn))),Mv 23 22,Gv 24 (.mv (.t 8)) 23 true [],Gv 25 (.mv (.t 1)) 23 true [],Gv 26 (.lenL (.t 25)) 23 true [],Gv 27 (.bin .lss (.t 24) (.t 26)) 23 true [],iv 28 (.pick (.t 23) (.t 27) (.k (.bool false)))] (Cd 28 .skip (.exit 0))) (.seq (.blk 1 (.seq (.draw [Df 33 1 7,Dl 34 33,Dm 35 1,Dm 36 8,Dm 37 8,Df 38 0 7,Dl 39 38,Dv 40 (.bin .add (.t 37) (.t 39)) [37,39],Dv 41 (.slice .slc 1 (.t 35) (some (.t 36)) (some (.t 40)) none) [35,36,40],Dc 42 (.callv (.t 34) [.t 41]) [34,41],Dv 43 (.bin .neq (.t 42) (K0 0)) [42]]) (Cd 43 (Sr [Mk 4 4] .ret) .skip))) (.reg [Mv 29 8,Fa 30 0 7,Ld 31 30,Bt 32 .add 29 31,Mv 8 32]))
def np:AC:=Sr [Mk 4 0] (.seq (Sr [Mv 10 0,Mv 11 1,Cr 12 kT [.t 10,.t 11],Mv 9 12,Ex 13 9 0,Ex 14 9 1,Mv 5 13,Mv 6 14] (Sr [Mv 15 6,Bi 16 .neq 15 0] (Cd 16 (Sr [Mv 17 6,Mv 4 17] .ret) .skip))) (Sr [Mv 18 0,Cr 19 lK [.t 18],Al 7 [I0,.nfn,.nsl],Sv 3 7 19] (.seq (Sr [Mk 8 0] (.blk 0 (.loop jx))) (Sr [Mk 4 0] .ret))))
def Dp:aZ:=⟨44,np,[.tmp 4],none⟩
def jf:AC:=.seq (Sr [Mv 8 6,Mv 9 1,Bt 10 .lss 8 9] (Cd 10 .skip (.exit 0))) (.seq (.blk 1 (Sr [Mv 13 5,Mv 14 0,Bi 15 .rem 14 256,iv 16 (.i2i .u8 (.t 15)),iv 17 (.slit 1 1 [B0] [(0,.t 16)]),ic 18 (.app 1 false (.t 13) (.t 17)),Mv 5 18] (.reg [Mv 19 0,Bi 20 .quo 19 256,Mv 0 20]))) (.reg [Mv 11 6,Bi 12 .add 11 1,Mv 6 12]))
def nr:AC:=Sr [iv 4 (.mv (.k (.nsl)))] (Sr [iv 7 (.slit 1 0 [B0] []),Mv 5 7] (.seq (Sr [Mk 6 0] (.blk 0 (.loop jf))) (Sr [Mv 21 5,Mv 4 21] .ret)))
def tu:aZ:=⟨22,nr,[.tmp 4],none⟩
def iG:AC:=.seq (Sr [Mv 10 0,iv 11 (.lenL (.t 10)),Bi 12 .gtr 11 0] (Cd 12 .skip (.exit 0))) (.seq (.blk 1 (.seq (Sr [Mv 15 6,Bi 16 .eql 15 1024] (Cd 16 (Sr [Mv 17 6,iv 2 (.mv (.k (.nsl))),Mv 3 17,Mk 4 9] .ret) .skip)) (Sr [Mv 19 0,Cr 20 sL [.t 19],Mv 18 20,Ex 21 18 0,Ex 22 18 1,Ex 23 18 2,ic 7 (.alloc [I0,I0,I0,.str ⟨#[]⟩]),Sv 4 7 21,Mv 8 22,Mv 9 23] (.seq (Sr [Mv 24 9,Bi 25 .neq 24 0] (Cd 25 (Sr [Mv 26 6,Mv 27 9,iv 2 (.mv (.k (.nsl))),Mv 3 26,Mv 4 27] .ret) .skip)) (Sr [Mv 28 5,Lt 29 4 7,iv 30 (.slit 4 1 [I0,I0,I0,.str ⟨#[]⟩] [(0,.t 29)]),ic 31 (.app 4 false (.t 28) (.t 30)),Mv 5 31] (.reg [Mv 32 8,Mv 0 32])))))) (.reg [Mv 13 6,Bi 14 .add 13 1,Mv 6 14]))
def uf:AC:=Sr [iv 2 (.mv (.k (.nsl))),Mk 3 0,Mk 4 0] (Sr [iv 5 (.mv (.k (.nsl)))] (.seq (Sr [Mk 6 0] (.blk 0 (.loop iG))) (Sr [Mv 33 5,Mv 2 33,Mk 3 (-1),Mk 4 0] .ret)))
def BO:aZ:=⟨34,uf,[.tmp 2,.tmp 3,.tmp 4],none⟩
def eE:AC:=Sr [Bt 13 .lss 12 11] (.seq (Cd 13 .skip (.exit 0)) (.seq (.blk 1 (Sr [Mv 14 12,iv 15 (.iadr none 4 (.t 10) (.t 12)),Lt 16 4 15,ic 7 (.alloc [I0,I0,I0,.str ⟨#[]⟩]),Mv 6 14,Sv 4 7 16] (.seq (Sr [Mv 17 6,Bi 18 .eql 17 1024] (Cd 18 (Sr [Mv 19 6,iv 2 (.mv (.k (.nsl))),Mv 3 19,Mk 4 9] .ret) .skip)) (Sr [Lt 21 4 7,Cr 22 sM [.t 21],Mv 20 22,Ex 23 20 0,Ex 24 20 1,Mv 8 23,Mv 9 24] (.seq (Sr [Mv 25 9,Bi 26 .neq 25 0] (Cd 26 (Sr [Mv 27 6,Mv 28 9,iv 2 (.mv (.k (.nsl))),Mv 3 27,Mv 4 28] .ret) .skip)) (.reg [Mv 29 5,Mv 30 8,ic 31 (.app 1 false (.t 29) (.t 30)),Mv 5 31])))))) (.reg [Bi 32 .add 12 1,Mv 12 32])))
def oH:AC:=Sr [iv 2 (.mv (.k (.nsl))),Mk 3 0,Mk 4 0] (Sr [iv 5 (.mv (.k (.nsl)))] (.seq (Sr [Mv 10 0,iv 11 (.lenL (.t 10)),Mk 12 0] (.blk 0 (.loop eE))) (Sr [Mv 33 5,Mv 2 33,Mk 3 (-1),Mk 4 0] .ret)))
def uH:aZ:=⟨34,oH,[.tmp 2,.tmp 3,.tmp 4],none⟩
def lZ:AC:=Sr [Bt 9 .lss 8 7] (.seq (Cd 9 .skip (.exit 0)) (.seq (.blk 1 (Sr [Ia 10 6 8,Ld 11 10,Mv 5 11] (.reg [Mv 12 5,Ca 13 kj [.t 3,.t 12]]))) (.reg [Bi 14 .add 8 1,Mv 8 14])))
def AA:AC:=Sr [ic 2 (.alloc (aL (B0) 32))] (Sr [Al 3 [U0,U0,U0,U0,U0,U0,U0,U0,U0,U0,U0,U0,U0,U0,U0,U0,U0,U0,U0,U0,U0,U0,U0,U0,U0,I0]] (.seq (Sr [Mv 6 0,iv 7 (.lenL (.t 6)),Mk 8 0] (.blk 0 (.loop lZ))) (Sr [Cr 15 jE [.t 3],Sv 32 2 15] .ret)))
def HW:aZ:=⟨16,AA,[.cell 2 32 true],none⟩
def qc:AC:=Sr [iv 5 (.slit 4 0 [I0,I0,I0,.str ⟨#[]⟩] []),Mv 6 0,ic 7 (.app 4 false (.t 5) (.t 6)),Mv 2 7] .ret
def jt:aZ:=⟨8,qc,[.tmp 2],some (.reg [iv 2 (.mv (.k (.nsl)))],3,4,.cond (.t 4)
 (.seq (.reg [iv 2 (.mv (.k (.nsl)))])
 (.ret))
 (.skip))⟩
def ef:AC:=Sr [Mk 2 0] (.seq (Sr [Mv 3 0] (.blk 0 (Sr [Bi 5 .eql 3 1,Mv 4 5] (Cd 4 (Sr [Mk 2 1] .ret) (Sr [Bi 7 .eql 3 2,Mv 6 7] (Cd 6 (Sr [Mk 2 8] .ret) (Sr [Bi 9 .eql 3 3,Mv 8 9] (Cd 8 (Sr [Mk 2 32] .ret) (Sr [Bi 11 .eql 3 4,Mv 10 11] (Cd 10 (Sr [Mk 2 96] .ret) .skip)))))))))) (Sr [Mk 2 0] .ret))
def vN:aZ:=⟨12,ef,[.tmp 2],none⟩
def lr:AC:=Sr [iv 2 (.mv (.k (.nsl))),Mk 3 0] (.seq (Sr [Mv 5 0,iv 6 (.lenL (.t 5)),Bi 7 .neq 6 32] (Cd 7 (Sr [iv 2 (.mv (.k (.nsl))),Mk 3 1] .ret) .skip)) (Sr [Mv 8 0,Cr 9 cE [.t 8],Mv 4 9] (.seq (Sr [Mv 10 4,Cr 11 lM [],Cr 12 eS [.t 10,.t 11],Bi 13 .geq 12 0] (Cd 13 (Sr [iv 2 (.mv (.k (.nsl))),Mk 3 4] .ret) .skip)) (Sr [Mv 14 4,Mv 2 14,Mk 3 0] .ret))))
def vO:aZ:=⟨15,lr,[.tmp 2,.tmp 3],none⟩
def fC:AC:=Sr [iv 2 (.mv (.k (.nsl))),Mk 3 0] (Sr [Mv 7 0,Cr 8 k9 [.k (.bool true),.t 7],Mv 6 8,Ex 9 6 0,Ex 10 6 1,Mv 4 9,Mv 5 10] (.seq (Sr [Mv 11 5,Bi 12 .neq 11 0] (Cd 12 (Sr [Mv 13 5,iv 2 (.mv (.k (.nsl))),Mv 3 13] .ret) .skip)) (.seq (Sr [Mv 14 4,iv 15 (.lenL (.t 14)),Bi 16 .eql 15 0,Mv 17 16,Gv 18 (.mv (.t 4)) 17 false [],Gr 19 (.call et [.t 18]) 17 false [] 0 0,Gv 20 (.un .not (.t 19)) 17 false [],iv 21 (.pick (.t 17) (.k (.bool true)) (.t 20))] (Cd 21 (Sr [iv 2 (.mv (.k (.nsl))),Mk 3 4] .ret) .skip)) (Sr [Mv 22 4,Mv 2 22,Mk 3 0] .ret))))
def vP:aZ:=⟨23,fC,[.tmp 2,.tmp 3],none⟩
def nv:AC:=Sr [Mk 6 0] (.seq (Sr [Mv 7 1] (Cd 7 (.reg [Mk 2 0]) .skip)) (Sr [Mv 8 0,Mv 9 2,Ca 10 dq [.t 8,.t 9],Mv 6 10] .ret))
def tz:aZ:=⟨11,nv,[.tmp 6],none⟩
def r8:AC:=Sr [iv 4 (.mv (.k (.nilp))),Mk 5 0] (.seq (Sr [Mv 7 1,iv 8 (.lenL (.t 7)),Mv 9 0,ir 10 (.inv (.t 9) "Width" []),Mv 11 0,ir 12 (.inv (.t 11) "Rate" []),Bt 13 .sub 10 12,Bt 14 .gtr 8 13] (Cd 14 (Sr [iv 4 (.mv (.k (.nilp))),Mk 5 1] .ret) .skip)) (.seq (.draw [Dm 15 0,Dm 16 0,Dr 17 (.inv (.t 16) "Width" []) [16] 0 0,Dc 18 (.mk 1 [B0] (.t 17)) [17,17],Dm 19 0,Dr 20 (.inv (.t 19) "Rate" []) [19] 0 1,Dv 21 (.build [.nif,.nsl,I0,I0,I0] [(0,1,.t 15),(1,1,.t 18),(3,1,.t 20)]) [15,18,20],Dc 22 (.box (.t 21)) [21],Dm 6 22]) (.seq (.draw [Dm 23 6,Dk 24 23,Df 25 1 24,Dl 26 25,Dm 27 0,Dr 28 (.inv (.t 27) "Rate" []) [27] 0 0,Dv 29 (.slice .slc 1 (.t 26) (some (.t 28)) none none) [26,28],Dm 30 1,Dc 31 (.copy 1 (.t 29) (.t 30)) [29,30]]) (Sr [Mv 32 6,Mv 4 32,Mk 5 0] .ret))))
def y8:aZ:=⟨33,r8,[.tmp 4,.tmp 5],none⟩
def AE:AC:=Sr [iv 1 (.boxv (.t 0)),Mk 2 0] (Sr [Fa 6 0 1,Ld 7 6,Cr 8 uV [.t 7],Mv 5 8,Ex 9 5 0,Ex 10 5 1,Mv 3 9,Mv 4 10] (.seq (.blk 0 (Sr [Mv 12 3,iv 13 (.lenL (.t 12)),Bi 14 .eql 13 0,Mv 11 14] (Cd 11 (Sr [Mk 2 5] .ret) (Sr [Mv 16 3,Fa 17 1 1,Ld 18 17,Cr 19 fN [.t 16,.t 18],iv 20 (.un .not (.t 19)),Mv 15 20] (Cd 15 (Sr [Mk 2 6] .ret) (Sr [Fa 22 2 1,Ld 23 22,Bi 24 .lss 23 1,Mv 25 24,Gv 26 (.fadr 2 (.t 1)) 25 false [],Gr 27 (.ld 1 false (.t 26)) 25 false [] 0 0,Gv 28 (.mv (.t 4)) 25 false [],Gv 29 (.bin .gtr (.t 27) (.t 28)) 25 false [],iv 30 (.pick (.t 25) (.k (.bool true)) (.t 29)),Mv 21 30] (Cd 21 (Sr [Mk 2 7] .ret) (Sr [Fa 32 3 1,Ld 33 32,iv 34 (.lenS (.t 33)),Bi 35 .gtr 34 255,Mv 31 35] (Cd 31 (Sr [Mk 2 8] .ret) .skip))))))))) (Sr [Mk 2 0] .ret)))
def HY:aZ:=⟨36,AE,[.tmp 2],none⟩
def x7:AC:=Sr [ic 1 (.box (.t 0)),ic 2 (.alloc (aL (B0) 32))] (Sr [iv 3 (.iadr (some 32) 1 (.t 1) (K0 31)),Ld 4 3,iv 5 (.bin .and (.t 4) (.k (.int .u8 63))),iv 6 (.iadr (some 32) 1 (.t 1) (K0 31)),Sx 6 5] (Sr [Lt 7 32 1,Sv 32 2 7] .ret))
def FN:aZ:=⟨8,x7,[.cell 2 32 true],none⟩
def mP:AC:=Sr [ic 2 (.alloc (aL (U0) 4)),Mk 3 0] (.seq (Sr [Mv 7 0,iv 8 (.lenL (.t 7)),Bi 9 .neq 8 32] (Cd 9 (Sr [iv 10 (.build (aL (U0) 4) []),Sv 4 2 10,Mk 3 1] .ret) .skip)) (Sr [Mv 11 0,Cr 12 nR [.t 11],iv 13 (.s2a 4 (.t 12)),Lt 14 4 13,ic 4 (.alloc (aL (U0) 4)),Sv 4 4 14] (.seq (.seq (.draw [Dr 16 (.ld 4 true (.t 4)) [4] 0 1,Dr 17 (.call j6 []) [] 0 1,Dr 18 (.call nc [.t 16,.t 17]) [16,17] 0 1,Dm 15 18,Dv 19 (.ext (.t 15) 0) [15],Dv 20 (.ext (.t 15) 1) [15],ic 5 (.alloc (aL (U0) 4)),Dn (.st 4 (.t 5) (.t 19)) [5,19],Dm 6 20]) (Sr [Mv 21 6,iv 22 (.bin .eql (.t 21) (.k (U0)))] (Cd 22 (Sr [iv 23 (.build (aL (U0) 4) []),Sv 4 2 23,Mk 3 4] .ret) .skip))) (Sr [Lt 24 4 4,Cr 25 sN [.t 24],Sv 4 2 25,Mk 3 0] .ret))))
def xj:aZ:=⟨26,mP,[.cell 2 4 true,.tmp 3],none⟩
def cu:AC:=Sr [Bi 23 .lss 22 4] (.seq (Cd 23 .skip (.exit 2)) (.seq (.blk 3 (Sr [Mv 24 22,iv 25 (.idxA 4 1 false (.t 21) (.t 22)),Mv 11 24,Mv 12 25] (.reg [Mv 27 11,Mv 28 11,iv 29 (.iadr (some 5) 1 (.t 7) (.t 28)),Ld 30 29,Mv 31 9,Mv 32 12,Mv 33 10,Cr 34 nS [.t 30,.t 31,.t 32,.t 33],Mv 26 34,Ex 35 26 0,Ex 36 26 1,iv 37 (.iadr (some 5) 1 (.t 7) (.t 27)),Sx 37 35,Mv 10 36]))) (.reg [Bi 38 .add 22 1,Mv 22 38])))
def fD:AC:=.seq (Sr [Mv 57 14,Bi 58 .lss 57 4] (Cd 58 .skip (.exit 4))) (.seq (.blk 5 (.draw [Dm 62 14,Dv 63 (.bin .sub (.t 62) (K0 1)) [62],Dm 64 14,Dv 65 (.iadr (some 5) 1 (.t 7) (.t 64)) [7,64],Dl 66 65,Dm 67 13,Dm 68 14,Dv 69 (.iadr (some 4) 1 (.t 5) (.t 68)) [5,68],Dl 70 69,Dm 71 10,Dr 72 (.call nS [.t 66,.t 67,.t 70,.t 71]) [66,67,70,71] 0 0,Dm 61 72,Dv 73 (.ext (.t 61) 0) [61],Dv 74 (.ext (.t 61) 1) [61],Dv 75 (.iadr (some 5) 1 (.t 7) (.t 63)) [7,63],Dn (.st 1 (.t 75) (.t 73)) [75,73],Dm 10 74])) (.reg [Mv 59 14,Bi 60 .add 59 1,Mv 14 60]))
def iI:AC:=Sr [Bi 19 .lss 18 4] (.seq (Cd 19 .skip (.exit 0)) (.seq (.blk 1 (Sr [iv 20 (.idxA 4 1 false (.t 17) (.t 18)),Mv 9 20] (Sr [iv 10 (.mv (.k (U0)))] (.seq (Sr [Lt 21 4 3,Mk 22 0] (.blk 2 (.loop cu))) (Sr [iv 39 (.iadr (some 5) 1 (.t 7) (K0 4)),Ld 40 39,Mv 41 10,Bt 42 .add 40 41,iv 43 (.iadr (some 5) 1 (.t 7) (K0 4)),Sx 43 42] (Sr [iv 44 (.iadr (some 5) 1 (.t 7) (K0 0)),Ld 45 44,Mv 46 6,Bt 47 .mul 45 46,Mv 13 47] (Sr [iv 49 (.iadr (some 5) 1 (.t 7) (K0 0)),Ld 50 49,Mv 51 13,iv 52 (.iadr (some 4) 1 (.t 5) (K0 0)),Ld 53 52,Cr 54 nS [.t 50,.t 51,.t 53,.k (U0)],Mv 48 54,Ex 55 48 0,Ex 56 48 1,Mv 10 56] (.seq (Sr [Mk 14 1] (.blk 4 (.loop fD))) (Sr [iv 77 (.iadr (some 5) 1 (.t 7) (K0 4)),Ld 78 77,Mv 79 10,Ca 80 bR [.t 78,.t 79,.k (U0)],Mv 76 80,Ex 81 76 0,Ex 82 76 1,iv 83 (.iadr (some 5) 1 (.t 7) (K0 3)),Sx 83 81,Mv 10 82] (.reg [Mv 84 10,iv 85 (.iadr (some 5) 1 (.t 7) (K0 4)),Sx 85 84])))))))))) (.reg [Bi 86 .add 18 1,Mv 18 86])))
def uh:AC:=Sr [iv 2 (.boxv (.t 0)),iv 3 (.boxv (.t 1)),ic 4 (.alloc (aL (U0) 4))] (Sr [Cr 15 j6 [],Cr 16 ph [],ic 5 (.alloc (aL (U0) 4)),Sv 4 5 15,Mv 6 16] (Sr [ic 7 (.alloc (aL (U0) 5))] (.seq (Sr [Lt 17 4 2,Mk 18 0] (.blk 0 (.loop iI))) (Sr [iv 87 (.slice (.arr 5) 1 (.t 7) none (some (K0 4)) none),iv 88 (.s2a 4 (.t 87)),Lt 89 4 88,Cr 90 oS [.t 89],Sv 4 4 90] .ret))))
def BP:aZ:=⟨91,uh,[.cell 4 4 true],none⟩
def mQ:AC:=Sr [Al 2 [.nsl,I0,I0],Mk 3 0,Mk 4 0] (Sr [Mv 9 0,Cr 10 kl [.t 9],Mv 8 10,Ex 11 8 0,Ex 12 8 1,Ex 13 8 2,Mv 5 11,Mv 6 12,Mv 7 13] (.seq (Sr [Mv 14 7,Bi 15 .neq 14 0] (Cd 15 (Sr [Bu 16 [.nsl,I0,I0] [],Mv 17 6,Mv 18 7,Sv 3 2 16,Mv 3 17,Mv 4 18] .ret) .skip)) (Sr [Mv 19 5,Bu 20 [.nsl,I0,I0] [(0,1,.t 19)],Sv 3 2 20,Mk 3 (-1),Mk 4 0] .ret)))
def xn:aZ:=⟨21,mQ,[.cell 2 3 true,.tmp 3,.tmp 4],none⟩
def eV:AC:=Sr [iv 4 (.mv (.k (.nsl))),Mk 5 0,Mk 6 0] (Sr [ic 12 (.mk 1 [B0] (K0 32)),Mv 7 12] (.seq (Sr [Mv 13 0,Bi 14 .neq 13 1,Mv 15 14,Gv 16 (.mv (.t 0)) 15 true [],Gv 17 (.bin .neq (.t 16) (K0 2)) 15 true [],iv 18 (.pick (.t 15) (.t 17) (.k (.bool false)))] (Cd 18 (Sr [Mv 19 7,Mv 4 19,Mk 5 (-1),Mk 6 15] .ret) .skip)) (Sr [Mv 21 1,Cr 22 gG [.t 21],Mv 20 22,Ex 23 20 0,Ex 24 20 1,Ex 25 20 2,Mv 8 23,Mv 9 24,Mv 10 25] (.seq (Sr [Mv 26 10,Bi 27 .neq 26 0] (Cd 27 (Sr [Mv 28 7,Mv 29 9,Mv 30 10,Mv 4 28,Mv 5 29,Mv 6 30] .ret) .skip)) (Sr [ic 31 (.slit 1 19 [B0] [(0,.k (.int .u8 97)),(1,.k (.int .u8 118)),(2,.k (.int .u8 111)),(3,.k (.int .u8 117)),(4,.k (.int .u8 99)),(5,.k (.int .u8 104)),(6,.k (.int .u8 47)),(7,.k (.int .u8 116)),(8,.k (.int .u8 114)),(9,.k (.int .u8 97)),(10,.k (.int .u8 110)),(11,.k (.int .u8 115)),(12,.k (.int .u8 99)),(13,.k (.int .u8 114)),(14,.k (.int .u8 105)),(15,.k (.int .u8 112)),(16,.k (.int .u8 116)),(17,.k (.int .u8 47)),(18,.k (.int .u8 49))]),ir 32 (.mark (.t 31)),Mv 33 0,iv 34 (.i2i .u8 (.t 33)),iv 35 (.slit 1 1 [B0] [(0,.t 34)]),ic 36 (.app 1 false (.t 32) (.t 35)),Mv 11 36] (Sr [Mv 37 11,Mv 38 8,ic 39 (.app 1 false (.t 37) (.t 38)),Cr 40 gq [.t 39],Mv 4 40,Mk 5 (-1),Mk 6 0] .ret))))))
def xo:aZ:=⟨41,eV,[.tmp 4,.tmp 5,.tmp 6],none⟩
def mf:AC:=Sr [Al 2 [.nsl,I0,I0,I0]] (Sr [Mv 6 0,Cr 7 ij [.t 6],Mv 5 7,Ex 8 5 0,Ex 9 5 1,Al 3 [.nsl,I0,I0,I0],Sv 4 3 8,Mv 4 9] (Sr [Lt 10 4 3,Sv 4 2 10] .ret))
def rq:aZ:=⟨11,mf,[.cell 2 4 true],none⟩
def dc:AC:=Sr [ic 3 (.box (.t 0)),Al 6 [I0,.nsl,I0,I0,.nsl,.nsl,I0,I0,I0,.nsl,.nsl,.nsl,I0,I0,I0],Mk 7 0] (.seq (Sr [Fa 12 1 3,Fa 13 2 12,Ld 14 13,Bi 15 .neq 14 0] (Cd 15 (.seq (.draw [Dr 16 (.ld 15 true (.t 3)) [3] 0 0,Df 17 1 3,Df 18 2 17,Dr 19 (.ld 1 false (.t 18)) [18] 0 1,Dn (.st 15 (.t 6) (.t 16)) [6,16],Dm 7 19]) .ret) .skip)) (Sr [Mv 21 1,Mv 22 2,Cr 23 fh [.t 21,.t 22],Mv 20 23,Ex 24 20 0,Ex 25 20 1,Mv 8 24,Mv 9 25] (.seq (Sr [Mv 26 9,Bi 27 .neq 26 0] (Cd 27 (Sr [Lt 28 15 3,Mv 29 9,Cr 30 fB [.t 28,.t 29],Ex 31 30 0,Ex 32 30 1,Sv 15 6 31,Mv 7 32] .ret) .skip)) (Sr [Mv 33 1,Mv 34 8,Mv 35 2,Bu 36 [I0,I0,I0,.nsl] [(0,1,K0 1),(1,1,.t 33),(2,1,.t 34),(3,1,.t 35)],Al 10 [I0,I0,I0,.nsl],Sv 4 10 36] (Sr [Lt 38 15 3,Lt 39 4 10,Cr 40 bK [.t 38,.t 39],Mv 37 40,Ex 41 37 0,Ex 42 37 1,Sv 15 3 41,Mv 9 42] (.seq (Sr [Mv 43 9,Bi 44 .neq 43 0] (Cd 44 (Sr [Lt 45 15 3,Mv 46 9,Sv 15 6 45,Mv 7 46] .ret) .skip)) (.seq (Sr [Mv 47 1,Mv 48 2,Cr 49 gX [.t 47,.t 48],Mv 11 49] (Sr [Mv 50 11,Bi 51 .neq 50 0] (Cd 51 (Sr [Lt 52 15 3,Mv 53 11,Cr 54 fB [.t 52,.t 53],Ex 55 54 0,Ex 56 54 1,Sv 15 6 55,Mv 7 56] .ret) .skip))) (Sr [Lt 57 15 3,Lt 58 4 10,Cr 59 bL [.t 57,.t 58],Sv 15 6 59,Mk 7 0] .ret))))))))
def tB:aZ:=⟨60,dc,[.cell 6 15 true,.tmp 7],none⟩
def jg:AC:=Sr [ic 2 (.box (.t 0)),Al 4 [I0,.nsl,I0,I0,.nsl,.nsl,I0,I0,I0,.nsl,.nsl,.nsl,I0,I0,I0],iv 5 (.mv (.k (.nsl))),Mk 6 0] (Sr [Mv 12 1,Bu 13 [I0,I0,I0,.nsl] [(0,1,K0 2),(1,1,K0 1),(2,1,.t 12)],Al 7 [I0,I0,I0,.nsl],Sv 4 7 13] (Sr [Lt 15 15 2,Lt 16 4 7,Cr 17 bK [.t 15,.t 16],Mv 14 17,Ex 18 14 0,Ex 19 14 1,Sv 15 2 18,Mv 8 19] (.seq (Sr [Mv 20 8,Bi 21 .neq 20 0] (Cd 21 (Sr [Lt 22 15 2,Mv 23 8,Sv 15 4 22,iv 5 (.mv (.k (.nsl))),Mv 6 23] .ret) .skip)) (Sr [Lt 24 15 2,Lt 25 4 7,Cr 26 bL [.t 24,.t 25],Sv 15 2 26] (Sr [iv 27 (.slit 1 0 [B0] []),Mv 9 27] (.seq (Sr [Fa 28 0 2,Ld 29 28,Bi 30 .eql 29 1] (Cd 30 (Sr [Fa 32 5 2,Lt 33 4 32,Mv 34 1,Cr 35 dW [.t 33,.t 34],Mv 31 35,Ex 36 31 0,Ex 37 31 1,Fa 38 5 2,Sv 4 38 36,Mv 9 37] (Sr [Lt 39 15 2,Mv 40 9,Sv 15 4 39,Mv 5 40,Mk 6 0] .ret)) .skip)) (Sr [Fa 42 9 2,Lt 43 6 42,Mv 44 1,Bi 45 .add 44 30,Bi 46 .quo 45 31,Cr 47 oq [.t 43,.t 46],Mv 41 47,Ex 48 41 0,Ex 49 41 1,Al 10 [.nsl,.nsl,.nsl,I0,I0,I0],Sv 6 10 48,Mv 11 49] (Sr [Lt 50 6 10,Fa 51 9 2,Sv 6 51 50] (Sr [Mv 53 11,Mv 54 1,Cr 55 E2 [.t 53,.t 54],Mv 52 55,Ex 56 52 0,Ex 57 52 1,Mv 9 56] (Sr [Lt 58 15 2,Mv 59 9,Sv 15 4 58,Mv 5 59,Mk 6 0] .ret))))))))))
def rE:aZ:=⟨60,jg,[.cell 4 15 true,.tmp 5,.tmp 6],none⟩
def aK:AC:=.seq (Sr [Mv 55 14,Bi 56 .lss 55 64,Mv 57 56,Gv 58 (.mv (.t 13)) 57 true [],Gv 59 (.un .not (.t 58)) 57 true [],iv 60 (.pick (.t 57) (.t 59) (.k (.bool false)))] (Cd 60 .skip (.exit 2))) (.seq (.blk 3 (Sr [Fa 64 5 2,Lt 65 4 64,Cr 66 dW [.t 65,K0 32],Mv 63 66,Ex 67 63 0,Ex 68 63 1,Al 15 [.nsl,I0,I0,I0],Sv 4 15 67,Mv 16 68] (Sr [Lt 69 4 15,Fa 70 5 2,Sv 4 70 69] (Sr [Mv 72 16,iv 73 (.slit 1 1 [.nsl] [(0,.t 72)]),Cr 74 km [.t 73,K0 0],Mv 71 74,Ex 75 71 0,Ex 76 71 1,Ex 77 71 2,Mv 17 75,Mv 18 76,Mv 19 77] (Sr [Mv 78 19,Bi 79 .eql 78 0] (Cd 79 (Sr [Mv 80 11,Mv 81 17,iv 82 (.slit 1 1 [.nsl] [(0,.t 81)]),ic 83 (.app 1 false (.t 80) (.t 82)),Mv 11 83] (.reg [iv 13 (.mv (.k (.bool true)))])) .skip)))))) (.reg [Mv 61 14,Bi 62 .add 61 1,Mv 14 62]))
def cC:AC:=.seq (Sr [Mv 50 12,Mv 51 1,Bt 52 .lss 50 51] (Cd 52 .skip (.exit 0))) (.seq (.blk 1 (Sr [iv 13 (.mv (.k (.bool false)))] (.seq (Sr [Mk 14 0] (.blk 2 (.loop aK))) (Sr [Mv 84 13,iv 85 (.un .not (.t 84))] (Cd 85 (Sr [Lt 87 15 2,Cr 88 fB [.t 87,K0 11],Mv 86 88,Ex 89 86 0,Ex 90 86 1,Sv 15 2 89,Mv 8 90] (Sr [Lt 91 15 2,Mv 92 8,Sv 15 4 91,iv 5 (.mv (.k (.nsl))),Mv 6 92] .ret)) .skip))))) (.reg [Mv 53 12,Bi 54 .add 53 1,Mv 12 54]))
def eH:AC:=Sr [ic 2 (.box (.t 0)),Al 4 [I0,.nsl,I0,I0,.nsl,.nsl,I0,I0,I0,.nsl,.nsl,.nsl,I0,I0,I0],iv 5 (.mv (.k (.nsl))),Mk 6 0] (Sr [Mv 20 1,Bu 21 [I0,I0,I0,.nsl] [(0,1,K0 2),(1,1,K0 3),(2,1,.t 20)],Al 7 [I0,I0,I0,.nsl],Sv 4 7 21] (Sr [Lt 23 15 2,Lt 24 4 7,Cr 25 bK [.t 23,.t 24],Mv 22 25,Ex 26 22 0,Ex 27 22 1,Sv 15 2 26,Mv 8 27] (.seq (Sr [Mv 28 8,Bi 29 .neq 28 0] (Cd 29 (Sr [Lt 30 15 2,Mv 31 8,Sv 15 4 30,iv 5 (.mv (.k (.nsl))),Mv 6 31] .ret) .skip)) (Sr [Lt 32 15 2,Lt 33 4 7,Cr 34 bL [.t 32,.t 33],Sv 15 2 34] (.seq (Sr [Fa 35 0 2,Ld 36 35,Bi 37 .eql 36 2] (Cd 37 (Sr [Fa 39 9 2,Lt 40 6 39,Mv 41 1,Cr 42 oq [.t 40,.t 41],Mv 38 42,Ex 43 38 0,Ex 44 38 1,Al 9 [.nsl,.nsl,.nsl,I0,I0,I0],Sv 6 9 43,Mv 10 44] (Sr [Lt 45 6 9,Fa 46 9 2,Sv 6 46 45] (Sr [Lt 47 15 2,Mv 48 10,Sv 15 4 47,Mv 5 48,Mk 6 0] .ret))) .skip)) (Sr [iv 49 (.slit 1 0 [.nsl] []),Mv 11 49] (.seq (Sr [Mk 12 0] (.blk 0 (.loop cC))) (Sr [Lt 93 15 2,Mv 94 11,Sv 15 4 93,Mv 5 94,Mk 6 0] .ret))))))))
def pT:aZ:=⟨95,eH,[.cell 4 15 true,.tmp 5,.tmp 6],none⟩
def lx:AC:=Sr [Bt 14 .lss 13 12] (.seq (Cd 14 .skip (.exit 0)) (.seq (.blk 1 (Sr [Mv 15 13,Mv 5 15] (.seq (.draw [Dm 16 0,Dm 17 5,Dv 18 (.iadr none 4 (.t 16) (.t 17)) [16,17],Dr 19 (.ld 4 true (.t 18)) [18] 0 0,Dm 20 1,Dm 21 5,Dv 22 (.iadr none 1 (.t 20) (.t 21)) [20,21],Dl 23 22,Dr 24 (.call nU [.t 19,.t 23]) [19,23] 0 0,Dv 25 (.un .not (.t 24)) [24]]) (Cd 25 (Sr [iv 4 (.mv (.k (.bool false)))] .ret) .skip)))) (.reg [Bi 26 .add 13 1,Mv 13 26])))
def qF:AC:=Sr [iv 4 (.mv (.k (.bool false)))] (.seq (Sr [Mv 6 0,iv 7 (.lenL (.t 6)),Mv 8 1,iv 9 (.lenL (.t 8)),Bt 10 .neq 7 9] (Cd 10 (Sr [iv 4 (.mv (.k (.bool false)))] .ret) .skip)) (.seq (Sr [Mv 11 0,iv 12 (.lenL (.t 11)),Mk 13 0] (.blk 0 (.loop lx))) (Sr [iv 4 (.mv (.k (.bool true)))] .ret)))
def xB:aZ:=⟨27,qF,[.tmp 4],none⟩
def jh:AC:=Sr [ic 1 (.box (.t 0)),Al 2 [I0,.nsl,I0,I0,.nsl,.nsl,I0,I0,I0,.nsl,.nsl,.nsl,I0,I0,I0],Mk 3 0] (Sr [Bu 6 [I0,I0,I0,.nsl] [(0,1,K0 3),(1,1,K0 0),(2,1,K0 1)],Al 4 [I0,I0,I0,.nsl],Sv 4 4 6] (Sr [Lt 8 15 1,Lt 9 4 4,Cr 10 bK [.t 8,.t 9],Mv 7 10,Ex 11 7 0,Ex 12 7 1,Sv 15 1 11,Mv 5 12] (.seq (Sr [Mv 13 5,Bi 14 .neq 13 0] (Cd 14 (Sr [Lt 15 15 1,Mv 16 5,Sv 15 2 15,Mv 3 16] .ret) .skip)) (Sr [Lt 17 15 1,Lt 18 4 4,Cr 19 bL [.t 17,.t 18],Sv 15 1 19] (.seq (Sr [Fa 20 0 1,Ld 21 20,Bi 22 .eql 21 1] (Cd 22 (.reg [Fa 23 5 1,Lt 24 4 23,Cr 25 eO [.t 24],Fa 26 5 1,Sv 4 26 25]) (.reg [Fa 27 9 1,Lt 28 6 27,Cr 29 t6 [.t 28],Fa 30 9 1,Sv 6 30 29]))) (Sr [Lt 31 15 1,Sv 15 2 31,Mk 3 0] .ret))))))
def rG:aZ:=⟨32,jh,[.cell 2 15 true,.tmp 3],none⟩
def nH:AC:=Sr [ic 1 (.box (.t 0)),Al 2 [I0,.nsl,I0,I0,.nsl,.nsl,I0,I0,I0,.nsl,.nsl,.nsl,I0,I0,I0],Mk 3 0] (Sr [Fa 7 1 1,Lt 8 3 7,Cr 9 jF [.t 8],Mv 6 9,Ex 10 6 0,Ex 11 6 1,Al 4 [.nsl,I0,I0],Sv 3 4 10,Mv 5 11] (Sr [Lt 12 3 4,Fa 13 1 1,Sv 3 13 12] (Sr [Lt 14 15 1,Mv 15 5,Sv 15 2 14,Mv 3 15] .ret)))
def tN:aZ:=⟨16,nH,[.cell 2 15 true,.tmp 3],none⟩
def yj:AC:=Sr [Mk 2 0] (Sr [Mv 3 0,Cr 4 lK [.t 3],iv 5 (.fld 0 1 false (.t 4)),Mv 2 5] .ret)
def FT:aZ:=⟨6,yj,[.tmp 2],none⟩
def iZ:AC:=Sr [Mk 8 0] (Sr [Mv 11 1,Mv 12 2,Mv 13 3,iv 14 (.build [I0,I0,I0,.str ⟨#[]⟩] [(0,1,.t 11),(1,1,.t 12),(2,1,.t 13)]),ic 9 (.alloc [I0,I0,I0,.str ⟨#[]⟩]),Sv 4 9 14] (.seq (.draw [Dm 15 0,Dm 16 0,Dk 17 16,Df 18 1 17,Dl 19 18,Dm 20 0,Dk 21 20,Df 22 0 21,Dl 23 22,Dv 24 (.lenL (.t 23)) [23],Dv 25 (.bin .lss (.t 19) (.t 24)) [19,24],Dm 26 25,Gm 27 0 26 true,Gk 28 27 26 true,Gf 29 0 28 26 true,Gl 30 29 26 true,Gm 31 0 26 true,Gk 32 31 26 true,Gf 33 1 32 26 true,Gl 34 33 26 true,Gv 35 (.iadr none 4 (.t 30) (.t 34)) 26 true [30,34,26],Gr 36 (.ld 4 true (.t 35)) 26 true [35,26] 0 0,Gr 37 (.ld 4 true (.t 9)) 26 true [9,26] 0 0,Gr 38 (.call xa [.t 36,.t 37]) 26 true [36,37,26] 0 0,Dv 39 (.pick (.t 26) (.t 38) (.k (.bool false))) [26,38],Dc 40 (.call gh [.t 15,.t 39,K0 10]) [15,39],Dm 10 40]) (.seq (Sr [Mv 41 10,Bi 42 .eql 41 0] (Cd 42 (.reg [Mv 43 0,Nk 44 43,Fa 45 1 44,Ld 46 45,Bi 47 .add 46 1,Nk 48 43,Fa 49 1 48,Sx 49 47]) .skip)) (Sr [Mv 50 10,Mv 8 50] .ret))))
def vZ:aZ:=⟨51,iZ,[.tmp 8],none⟩
def gM:AC:=Sr [Al 2 [I0,.nfn,.nsl]] (.seq (Sr [Mv 3 0] (.blk 0 (Sr [Bi 5 .eql 3 1,Mv 4 5] (Cd 4 (Sr [Bu 6 [I0,.nfn,.nsl] [(0,1,K0 1)],Sv 3 2 6] .ret) (Sr [Bi 8 .eql 3 2,Mv 7 8] (Cd 7 (Sr [iv 9 (.slit 1 1 [I0] [(0,K0 8)]),Bu 10 [I0,.nfn,.nsl] [(0,1,K0 8),(2,1,.t 9)],Sv 3 2 10] .ret) (Sr [Bi 12 .eql 3 3,Mv 11 12] (Cd 11 (Sr [iv 13 (.slit 1 1 [I0] [(0,K0 32)]),iv 14 (.build [I0,.nfn,.nsl] [(0,1,K0 32),(1,1,.k (.fn (.func gr) [] [])),(2,1,.t 13)]),Sv 3 2 14] .ret) (Sr [Bi 16 .eql 3 4,Mv 15 16] (Cd 15 (Sr [iv 17 (.slit 1 4 [I0] [(0,K0 31),(1,K0 31),(2,K0 31),(3,K0 3)]),iv 18 (.build [I0,.nfn,.nsl] [(0,1,K0 96),(1,1,.k (.fn (.func gu) [] [])),(2,1,.t 17)]),Sv 3 2 18] .ret) .skip)))))))))) (Sr [Bu 19 [I0,.nfn,.nsl] [],Sv 3 2 19] .ret))
def BR:aZ:=⟨20,gM,[.cell 2 3 true],none⟩
def o8:AC:=Sr [ic 2 (.alloc [I0,I0,I0,.str ⟨#[]⟩]),iv 3 (.mv (.k (.nsl))),Mk 4 0] (Sr [Mv 9 0,Bu 10 [.nsl,.bool false] [(0,1,.t 9)],ic 11 (.box (.t 10)),Mv 5 11] (Sr [Mv 12 5,Ca 13 da [.t 12,K0 1],Mv 14 5,Ca 15 da [.t 14,K0 1],Mv 16 5,Ca 17 da [.t 16,K0 4],iv 18 (.build [I0,I0,I0,.str ⟨#[]⟩] [(0,1,.t 13),(1,1,.t 15),(2,1,.t 17)]),ic 6 (.alloc [I0,I0,I0,.str ⟨#[]⟩]),Sv 4 6 18] (Sr [Mv 19 5,Ca 20 da [.t 19,K0 2],Mv 7 20] (Sr [Mv 21 5,Mv 22 7,Ca 23 iS [.t 21,.t 22],ir 24 (.b2s (.t 23)),Fa 25 3 6,Sx 25 24] (.seq (Sr [Mv 26 5,Nk 27 26,Fa 28 1 27,Ld 29 28] (Cd 29 (Sr [iv 30 (.build [I0,I0,I0,.str ⟨#[]⟩] []),Sv 4 2 30,iv 3 (.mv (.k (.nsl))),Mk 4 2] .ret) .skip)) (.seq (Sr [Lt 31 4 6,Cr 32 lE [.t 31],Mv 8 32] (Sr [Mv 33 8,Bi 34 .neq 33 0] (Cd 34 (Sr [iv 35 (.build [I0,I0,I0,.str ⟨#[]⟩] []),Mv 36 8,Sv 4 2 35,iv 3 (.mv (.k (.nsl))),Mv 4 36] .ret) .skip))) (.seq (.draw [Dr 37 (.ld 4 true (.t 6)) [6] 0 0,Dm 38 5,Dk 39 38,Df 40 0 39,Dl 41 40,Dr 42 (.call gv [.t 41]) [41] 0 0,Dn (.st 4 (.t 2) (.t 37)) [2,37],Dm 3 42,Mk 4 0]) .ret)))))))
def FU:aZ:=⟨43,o8,[.cell 2 4 true,.tmp 3,.tmp 4],none⟩
def yk:AC:=Sr [iv 1 (.boxv (.t 0)),iv 2 (.mv (.k (.nsl))),Mk 3 0] (.seq (Sr [Lt 6 4 1,Cr 7 lE [.t 6],Mv 4 7] (Sr [Mv 8 4,Bi 9 .neq 8 0] (Cd 9 (Sr [Mv 10 4,iv 2 (.mv (.k (.nsl))),Mv 3 10] .ret) .skip))) (Sr [Fa 11 0 1,Ld 12 11,iv 13 (.i2i .u8 (.t 12)),Fa 14 1 1,Ld 15 14,iv 16 (.i2i .u8 (.t 15)),iv 17 (.slit 1 2 [B0] [(0,.t 13),(1,.t 16)]),Fa 18 2 1,Ld 19 18,Ca 20 iD [.t 17,.t 19,K0 4],Mv 5 20] (.seq (.draw [Dm 21 5,Df 22 3 1,Dl 23 22,Dv 24 (.lenS (.t 23)) [23],Dc 25 (.call iD [.t 21,.t 24,K0 2]) [21,24],Df 26 3 1,Dr 27 (.ld 1 false (.t 26)) [26] 0 1,Dc 28 (.app 1 false (.t 25) (.t 27)) [25,27],Dm 2 28,Mk 3 0]) .ret)))
def FV:aZ:=⟨29,yk,[.tmp 2,.tmp 3],none⟩
def ga:AC:=Sr [Bt 9 .lss 8 7] (.seq (Cd 9 .skip (.exit 0)) (.seq (.blk 1 (Sr [Ia 10 6 8,Ld 11 10,Mv 5 11] (Sr [Mv 12 0,Mv 13 0,Nk 14 13,Fa 15 25 14,Ld 16 15,Mv 17 5,Ca 18 dO [.t 12,.t 16,.t 17]] (Sr [Mv 19 0,Nk 20 19,Fa 21 25 20,Ld 22 21,Bi 23 .add 22 1,Nk 24 19,Fa 25 25 24,Sx 25 23] (Sr [Mv 26 0,Nk 27 26,Fa 28 25 27,Ld 29 28,Bi 30 .eql 29 136] (Cd 30 (.reg [Mv 31 0,Mv 32 0,Mv 33 0,Nk 34 33,Fa 35 0 34,Lt 36 25 35,Cr 37 dy [.t 36],Nk 38 31,Fa 39 0 38,Sv 25 39 37,Nk 40 32,Fa 41 25 40,jc (.st 1 (.t 41) (K0 0))]) .skip)))))) (.reg [Bi 42 .add 8 1,Mv 8 42])))
def oL:AC:=Sr [Mv 6 1,iv 7 (.lenL (.t 6)),Mk 8 0] (.blk 0 (.loop ga))
def uN:aZ:=⟨43,oL,[],none⟩
def qG:AC:=Sr [ic 2 (.alloc (aL (B0) 32))] (Sr [Mv 5 0,Nk 6 5,Lt 7 26 6,Al 3 [U0,U0,U0,U0,U0,U0,U0,U0,U0,U0,U0,U0,U0,U0,U0,U0,U0,U0,U0,U0,U0,U0,U0,U0,U0,I0],Sv 26 3 7] (Sr [Fa 8 25 3,Ld 9 8,Ca 10 dO [.t 3,.t 9,.k (.int .u8 6)]] (Sr [Ca 11 dO [.t 3,K0 135,.k (.int .u8 128)]] (Sr [Fa 12 0 3,Lt 13 25 12,Cr 14 dy [.t 13],Cr 15 fT [.t 14],ic 4 (.alloc (aL (B0) 200)),Sv 200 4 15] (Sr [iv 16 (.slice (.arr 200) 1 (.t 4) none (some (K0 32)) none),iv 17 (.s2a 32 (.t 16)),Lt 18 32 17,Sv 32 2 18] .ret)))))
def xE:aZ:=⟨19,qG,[.cell 2 32 true],none⟩
def dD:AC:=.seq (Sr [Mv 13 4,Bi 14 .geq 13 0] (Cd 14 .skip (.exit 0))) (.seq (.blk 1 (.draw [Dm 17 3,Dm 18 4,Dv 19 (.bin .quo (.t 18) (K0 4)) [18],Dm 20 3,Dm 21 4,Dv 22 (.bin .quo (.t 21) (K0 4)) [21],Dv 23 (.iadr none 1 (.t 20) (.t 22)) [20,22],Dl 24 23,Dv 25 (.bin .mul (.t 24) (.k (.int .u64 256))) [24],Dm 26 0,Dm 27 4,Dv 28 (.iadr none 1 (.t 26) (.t 27)) [26,27],Dl 29 28,Dv 30 (.i2i .u64 (.t 29)) [29],Dv 31 (.bin .add (.t 25) (.t 30)) [25,30],Dv 32 (.iadr none 1 (.t 17) (.t 19)) [17,19],Dn (.st 1 (.t 32) (.t 31)) [32,31]])) (.reg [Mv 15 4,Bi 16 .sub 15 1,Mv 4 16]))
def mj:AC:=Sr [iv 2 (.mv (.k (.nsl)))] (Sr [Mv 5 0,iv 6 (.lenL (.t 5)),Bi 7 .quo 6 4,Bi 8 .add 7 1,ic 9 (.mk 1 [U0] (.t 8)),Mv 3 9] (.seq (Sr [Mv 10 0,iv 11 (.lenL (.t 10)),Bi 12 .sub 11 1,Mv 4 12] (.blk 0 (.loop dD))) (Sr [Mv 33 3,Cr 34 d9 [.t 33],Mv 2 34] .ret)))
def rH:aZ:=⟨35,mj,[.tmp 2],none⟩
def ek:AC:=.seq (Sr [Mv 11 5,Bi 12 .geq 11 0] (Cd 12 .skip (.exit 0))) (.seq (.blk 1 (.seq (Sr [Mv 15 0,Mv 16 5,Cr 17 bS [.t 15,.t 16],Mv 18 1,Mv 19 5,Cr 20 bS [.t 18,.t 19],Bt 21 .lss 17 20] (Cd 21 (Sr [Mk 4 (-1)] .ret) .skip)) (Sr [Mv 22 0,Mv 23 5,Cr 24 bS [.t 22,.t 23],Mv 25 1,Mv 26 5,Cr 27 bS [.t 25,.t 26],Bt 28 .gtr 24 27] (Cd 28 (Sr [Mk 4 1] .ret) .skip)))) (.reg [Mv 13 5,Bi 14 .sub 13 1,Mv 5 14]))
def qH:AC:=Sr [Mk 4 0] (.seq (Sr [Mv 6 0,iv 7 (.lenL (.t 6)),Mv 8 1,iv 9 (.lenL (.t 8)),Bt 10 .add 7 9,Mv 5 10] (.blk 0 (.loop ek))) (Sr [Mk 4 0] .ret))
def xF:aZ:=⟨29,qH,[.tmp 4],none⟩
def ul:AC:=Sr [iv 0 (.mv (.k (.nsl)))] (Sr [iv 1 (.slit 1 8 [U0] [(0,.k (.int .u64 4026531841)),(1,.k (.int .u64 1138881939)),(2,.k (.int .u64 2042196113)),(3,.k (.int .u64 674490440)),(4,.k (.int .u64 2172737629)),(5,.k (.int .u64 3092268470)),(6,.k (.int .u64 3778125865)),(7,.k (.int .u64 811880050))]),Mv 0 1] .ret)
def BS:aZ:=⟨2,ul,[.tmp 0],none⟩
def i4:AC:=Sr [iv 4 (.mv (.k (.nsl))),Mk 5 0] (.seq (Sr [Mv 7 1,iv 8 (.lenL (.t 7)),Bi 9 .neq 8 96] (Cd 9 (Sr [iv 4 (.mv (.k (.nsl))),Mk 5 1] .ret) .skip)) (Sr [Mv 10 1,Cr 11 cE [.t 10],Mv 6 11] (.seq (Sr [Mv 12 6,Mv 13 0,Cr 14 lg [.t 13],Cr 15 eS [.t 12,.t 14],Bi 16 .geq 15 0] (Cd 16 (Sr [iv 4 (.mv (.k (.nsl))),Mk 5 4] .ret) .skip)) (Sr [Mv 17 6,Mv 4 17,Mk 5 0] .ret))))
def v7:aZ:=⟨18,i4,[.tmp 4,.tmp 5],none⟩
def aH:AC:=.seq (Sr [Mv 9 0,iv 10 (.iadr none 1 (.t 9) (K0 0)),Ld 11 10,iv 12 (.bin .rem (.t 11) (.k (.int .u64 2))),iv 13 (.bin .eql (.t 12) (.k (U0)))] (Cd 13 .skip (.exit 2))) (.blk 3 (Sr [Mv 14 0,Cr 15 li [.t 14],Mv 0 15] (Sr [Mv 16 3,iv 17 (.iadr none 1 (.t 16) (K0 0)),Ld 18 17,iv 19 (.bin .rem (.t 18) (.k (.int .u64 8))),iv 20 (.bin .eql (.t 19) (.k (.int .u64 3))),Mv 21 20,Gv 22 (.mv (.t 3)) 21 false [],Gv 23 (.iadr none 1 (.t 22) (K0 0)) 21 false [],Gr 24 (.ld 1 false (.t 23)) 21 false [] 0 0,Gv 25 (.bin .rem (.t 24) (.k (.int .u64 8))) 21 false [],Gv 26 (.bin .eql (.t 25) (.k (.int .u64 5))) 21 false [],iv 27 (.pick (.t 21) (.k (.bool true)) (.t 26))] (Cd 27 (.reg [Mv 28 4,iv 29 (.un .not (.t 28)),Mv 4 29]) .skip))))
def dU:AC:=.seq (Sr [Mv 6 0,iv 7 (.lenL (.t 6)),Bi 8 .gtr 7 0] (Cd 8 .skip (.exit 0))) (.blk 1 (.seq (.blk 2 (.loop aH)) (.seq (Sr [Mv 30 0,Mv 31 3,Cr 32 eS [.t 30,.t 31],Bi 33 .lss 32 0] (Cd 33 (.seq (Sr [Mv 34 0,iv 35 (.iadr none 1 (.t 34) (K0 0)),Ld 36 35,iv 37 (.bin .rem (.t 36) (.k (.int .u64 4))),iv 38 (.bin .eql (.t 37) (.k (.int .u64 3))),Mv 39 38,Gv 40 (.mv (.t 3)) 39 true [],Gv 41 (.iadr none 1 (.t 40) (K0 0)) 39 true [],Gr 42 (.ld 1 false (.t 41)) 39 true [] 0 0,Gv 43 (.bin .rem (.t 42) (.k (.int .u64 4))) 39 true [],Gv 44 (.bin .eql (.t 43) (.k (.int .u64 3))) 39 true [],iv 45 (.pick (.t 39) (.t 44) (.k (.bool false)))] (Cd 45 (.reg [Mv 46 4,iv 47 (.un .not (.t 46)),Mv 4 47]) .skip)) (.reg [Mv 48 3,Mv 49 0,Mv 0 48,Mv 3 49])) .skip)) (.reg [Mv 50 0,Mv 51 3,Cr 52 mH [.t 50,.t 51],Mv 0 52]))))
def nL:AC:=Sr [iv 2 (.mv (.k (.bool false)))] (Sr [Cr 5 jw [],Mv 3 5] (Sr [iv 4 (.mv (.k (.bool true)))] (.seq (.blk 0 (.loop dU)) (Sr [Mv 53 4,Mv 2 53] .ret))))
def tP:aZ:=⟨54,nL,[.tmp 2],none⟩
def A9:AC:=Sr [iv 2 (.mv (.k (.nsl))),Mk 3 0] (.seq (Sr [Mv 4 0] (.blk 0 (Sr [Bi 6 .eql 4 1,Mv 5 6] (Cd 5 (Sr [iv 7 (.slit 1 4 [I0] [(0,K0 1),(1,K0 2),(2,K0 3),(3,K0 4)]),Mv 2 7,Mk 3 1048576] .ret) (Sr [Bi 9 .eql 4 2,Mv 8 9] (Cd 8 (Sr [iv 10 (.slit 1 2 [I0] [(0,K0 1),(1,K0 3)]),Mv 2 10,Mk 3 1048576] .ret) (Sr [Bi 12 .eql 4 3,Mv 11 12] (Cd 11 (Sr [iv 13 (.slit 1 1 [I0] [(0,K0 0)]),Mv 2 13,Mk 3 1] .ret) .skip)))))))) (Sr [iv 2 (.mv (.k (.nsl))),Mk 3 0] .ret))
def Io:aZ:=⟨14,A9,[.tmp 2,.tmp 3],none⟩
def kb:AC:=Sr [iv 4 (.mv (.k (.bool false)))] (Sr [Mv 5 0,Mv 6 1,Cr 7 jb [.t 5,.t 6],Bi 8 .geq 7 0,Mv 4 8] .ret)
def o9:aZ:=⟨9,kb,[.tmp 4],none⟩
def l5:AC:=Sr [Bt 14 .lss 13 12] (.seq (Cd 14 .skip (.exit 0)) (.seq (.blk 1 (Sr [Mv 15 13,Ia 16 11 13,Ld 17 16,Mv 4 15,Mv 5 17] (.draw [Dm 18 3,Dm 19 4,Dv 20 (.bin .quo (.t 19) (K0 8)) [19],Dv 21 (.iadr none 1 (.t 18) (.t 20)) [18,20],Dl 22 21,Dm 23 5,Dv 24 (.i2i .u64 (.t 23)) [23],Dm 25 4,Dv 26 (.bin .rem (.t 25) (K0 8)) [25],Dv 27 (.bin .mul (K0 8) (.t 26)) [26],Dv 28 (.bin .shl (.t 24) (.t 27)) [24,27],Dv 29 (.bin .or (.t 22) (.t 28)) [22,28],Dv 30 (.iadr none 1 (.t 18) (.t 20)) [18,20],Dn (.st 1 (.t 30) (.t 29)) [30,29]]))) (.reg [Bi 31 .add 13 1,Mv 13 31])))
def Ba:AC:=Sr [iv 2 (.mv (.k (.nsl)))] (Sr [Mv 6 0,iv 7 (.lenL (.t 6)),Bi 8 .add 7 7,Bi 9 .quo 8 8,ic 10 (.mk 1 [U0] (.t 9)),Mv 3 10] (.seq (Sr [Mv 11 0,iv 12 (.lenL (.t 11)),Mk 13 0] (.blk 0 (.loop l5))) (Sr [Mv 32 3,Mv 2 32] .ret)))
def Iq:aZ:=⟨33,Ba,[.tmp 2],none⟩
def jy:AC:=Sr [Bi 8 .lss 7 4] (.seq (Cd 8 .skip (.exit 0)) (.seq (.blk 1 (Sr [Mv 9 7,Mv 6 9] (.draw [Dm 11 6,Dm 12 6,Dv 13 (.iadr (some 4) 1 (.t 2) (.t 12)) [2,12],Dl 14 13,Dm 15 6,Dv 16 (.iadr (some 4) 1 (.t 3) (.t 15)) [3,15],Dl 17 16,Dm 18 5,Dc 19 (.call gx [.t 14,.t 17,.t 18]) [14,17,18],Dm 10 19,Dv 20 (.ext (.t 10) 0) [10],Dv 21 (.ext (.t 10) 1) [10],Dv 22 (.iadr (some 4) 1 (.t 4) (.t 11)) [4,11],Dn (.st 1 (.t 22) (.t 20)) [22,20],Dm 5 21]))) (.reg [Bi 23 .add 7 1,Mv 7 23])))
def v8:AC:=Sr [iv 2 (.boxv (.t 0)),iv 3 (.boxv (.t 1)),ic 4 (.alloc (aL (U0) 4)),iv 5 (.mv (.k (U0)))] (.seq (Sr [Mk 7 0] (.blk 0 (.loop jy))) (Sr [Lt 24 4 4,Mv 25 5,Sv 4 4 24,Mv 5 25] .ret))
def DS:aZ:=⟨26,v8,[.cell 4 4 true,.tmp 5],none⟩
def yp:AC:=Sr [ic 0 (.alloc (aL (U0) 4))] (Sr [iv 1 (.build (aL (U0) 4) [(0,1,.k (.int .u64 4891460686036598785)),(1,1,.k (.int .u64 2896914383306846353)),(2,1,.k (.int .u64 13281191951274694749)),(3,1,.k (.int .u64 3486998266802970665))]),Sv 4 0 1] .ret)
def FX:aZ:=⟨2,yp,[.cell 0 4 true],none⟩
def kS:AC:=Sr [Bi 6 .lss 5 512] (.seq (Cd 6 .skip (.exit 0)) (.seq (.blk 1 (.reg [Lt 7 4 3,Lt 8 4 3,Cr 9 uY [.t 7,.t 8],Cr 10 oS [.t 9],Sv 4 3 10])) (.reg [Bi 11 .add 5 1,Mv 5 11])))
def yq:AC:=Sr [iv 1 (.boxv (.t 0)),ic 2 (.alloc (aL (U0) 4))] (Sr [iv 4 (.build (aL (U0) 4) [(0,1,.k (.int .u64 1))]),ic 3 (.alloc (aL (U0) 4)),Sv 4 3 4] (.seq (Sr [Mk 5 0] (.blk 0 (.loop kS))) (Sr [Lt 12 4 1,Lt 13 4 3,Cr 14 lW [.t 12,.t 13],iv 15 (.build (aL (U0) 4) [(0,4,.t 14)]),Sv 4 2 15] .ret)))
def FY:aZ:=⟨16,yq,[.cell 2 4 true],none⟩
def iK:AC:=Sr [Bi 6 .lss 5 6] (.seq (Cd 6 .skip (.exit 0)) (.seq (.blk 1 (.reg [Mv 7 2,Mv 8 1,Mv 9 2,Bt 10 .mul 8 9,iv 11 (.bin .sub (.k (.int .u64 2)) (.t 10)),Bt 12 .mul 7 11,Mv 2 12])) (.reg [Bi 13 .add 5 1,Mv 5 13])))
def um:AC:=Sr [iv 0 (.mv (.k (U0)))] (Sr [Cr 3 j6 [],iv 4 (.idxA 4 1 false (.t 3) (K0 0)),Mv 1 4,iv 2 (.mv (.k (.int .u64 1)))] (.seq (Sr [Mk 5 0] (.blk 0 (.loop iK))) (Sr [Mv 14 2,iv 15 (.un .neg (.t 14)),Mv 0 15] .ret)))
def BU:aZ:=⟨16,um,[.tmp 0],none⟩
def Bd:AC:=Sr [iv 8 (.mv (.k (U0))),iv 9 (.mv (.k (U0)))] (Sr [Mv 14 1,Mv 15 2,Cr 16 jI [.t 14,.t 15],Mv 13 16,Ex 17 13 0,Ex 18 13 1,Mv 10 17,Mv 11 18] (Sr [Mv 20 11,Mv 21 0,Ca 22 bR [.t 20,.t 21,.k (U0)],Mv 19 22,Ex 23 19 0,Ex 24 19 1,Mv 11 23,Mv 12 24] (Sr [Mv 25 10,Mv 26 12,Bt 27 .add 25 26,Mv 10 27] (Sr [Mv 29 11,Mv 30 3,Ca 31 bR [.t 29,.t 30,.k (U0)],Mv 28 31,Ex 32 28 0,Ex 33 28 1,Mv 11 32,Mv 12 33] (Sr [Mv 34 11,Mv 35 10,Mv 36 12,Bt 37 .add 35 36,Mv 8 34,Mv 9 37] .ret)))))
def Iu:aZ:=⟨38,Bd,[.tmp 8,.tmp 9],none⟩
def sS:AC:=Sr [iv 1 (.boxv (.t 0)),ic 2 (.alloc (aL (U0) 4))] (.seq (.seq (.draw [Dr 6 (.ld 4 true (.t 1)) [1] 0 1,Dr 7 (.call j6 []) [] 0 1,Dr 8 (.call nc [.t 6,.t 7]) [6,7] 0 1,Dm 5 8,Dv 9 (.ext (.t 5) 0) [5],Dv 10 (.ext (.t 5) 1) [5],ic 3 (.alloc (aL (U0) 4)),Dn (.st 4 (.t 3) (.t 9)) [3,9],Dm 4 10]) (Sr [Mv 11 4,iv 12 (.bin .eql (.t 11) (.k (U0)))] (Cd 12 (Sr [Lt 13 4 3,Sv 4 2 13] .ret) .skip))) (Sr [Lt 14 4 1,Sv 4 2 14] .ret))
def FZ:aZ:=⟨15,sS,[.cell 2 4 true],none⟩
def dL:AC:=.seq (Sr [Mv 6 3,Bi 7 .gtr 6 0,Mv 8 7,Gv 9 (.mv (.t 0)) 8 true [],Gv 10 (.mv (.t 3)) 8 true [],Gv 11 (.bin .sub (.t 10) (K0 1)) 8 true [],Gv 12 (.iadr none 1 (.t 9) (.t 11)) 8 true [],Gr 13 (.ld 1 false (.t 12)) 8 true [] 0 0,Gv 14 (.bin .eql (.t 13) (.k (U0))) 8 true [],iv 15 (.pick (.t 8) (.t 14) (.k (.bool false)))] (Cd 15 .skip (.exit 0))) (.blk 1 (.reg [Mv 16 3,Bi 17 .sub 16 1,Mv 3 17]))
def pF:AC:=Sr [iv 2 (.mv (.k (.nsl)))] (Sr [Mv 4 0,iv 5 (.lenL (.t 4)),Mv 3 5] (.seq (.blk 0 (.loop dL)) (Sr [Mv 18 0,Mv 19 3,iv 20 (.slice .slc 1 (.t 18) none (some (.t 19)) none),Mv 2 20] .ret)))
def v9:aZ:=⟨21,pF,[.tmp 2],none⟩
def eJ:AC:=.seq (Sr [Mv 10 0,iv 11 (.lenL (.t 10)),Bi 12 .gtr 11 0] (Cd 12 .skip (.exit 0))) (.blk 1 (.seq (Sr [Mv 13 5,iv 14 (.lenL (.t 13)),Bi 15 .eql 14 1024] (Cd 15 (Sr [Mv 16 5,iv 17 (.lenL (.t 16)),iv 2 (.mv (.k (.nsl))),Mv 3 17,Mk 4 9] .ret) .skip)) (Sr [Mv 19 0,Cr 20 jJ [.t 19],Mv 18 20,Ex 21 18 0,Ex 22 18 1,Ex 23 18 2,ic 6 (.alloc [I0,I0,I0,.str ⟨#[]⟩]),Sv 4 6 21,Mv 7 22,Mv 8 23] (.seq (Sr [Mv 24 8,Bi 25 .neq 24 0] (Cd 25 (Sr [Mv 26 5,iv 27 (.lenL (.t 26)),Mv 28 8,iv 2 (.mv (.k (.nsl))),Mv 3 27,Mv 4 28] .ret) .skip)) (Sr [Mv 29 5,Lt 30 4 6,iv 31 (.slit 4 1 [I0,I0,I0,.str ⟨#[]⟩] [(0,.t 30)]),ic 32 (.app 4 false (.t 29) (.t 31)),Mv 5 32] (.reg [Mv 33 7,Mv 0 33]))))))
def oN:AC:=Sr [iv 2 (.mv (.k (.nsl))),Mk 3 0,Mk 4 0] (Sr [iv 9 (.slit 4 0 [I0,I0,I0,.str ⟨#[]⟩] []),Mv 5 9] (.seq (.blk 0 (.loop eJ)) (Sr [Mv 34 5,Mv 2 34,Mk 3 (-1),Mk 4 0] .ret)))
def uO:aZ:=⟨35,oN,[.tmp 2,.tmp 3,.tmp 4],none⟩
def fK:AC:=.seq (Sr [Mv 16 6,Bi 17 .lss 16 136] (Cd 17 .skip (.exit 2))) (.seq (.blk 3 (.draw [Dm 20 4,Dm 21 6,Dm 22 4,Dm 23 6,Dv 24 (.iadr none 1 (.t 22) (.t 23)) [22,23],Dl 25 24,Dm 26 3,Dm 27 5,Dm 28 6,Dv 29 (.bin .add (.t 27) (.t 28)) [27,28],Dv 30 (.iadr none 1 (.t 26) (.t 29)) [26,29],Dl 31 30,Dr 32 (.call mJ [.t 25,.t 31]) [25,31] 0 0,Dv 33 (.iadr none 1 (.t 20) (.t 21)) [20,21],Dn (.st 1 (.t 33) (.t 32)) [33,32]])) (.reg [Mv 18 6,Bi 19 .add 18 1,Mv 6 19]))
def lz:AC:=.seq (Sr [Mv 10 5,Mv 11 3,iv 12 (.lenL (.t 11)),Bt 13 .lss 10 12] (Cd 13 .skip (.exit 0))) (.seq (.blk 1 (.seq (Sr [Mk 6 0] (.blk 2 (.loop fK))) (.reg [Mv 34 4,Cr 35 cG [.t 34],Cr 36 fy [.t 35],Ca 37 e9 [.t 36],Mv 4 37]))) (.reg [Mv 14 5,Bi 15 .add 14 136,Mv 5 15]))
def qK:AC:=Sr [iv 2 (.mv (.k (.nsl)))] (Sr [Mv 7 0,Cr 8 mI [.t 7],Mv 3 8] (Sr [ic 9 (.mk 1 [B0] (K0 200)),Mv 4 9] (.seq (Sr [Mk 5 0] (.blk 0 (.loop lz))) (Sr [Mv 38 4,iv 39 (.slice .slc 1 (.t 38) none (some (K0 32)) none),Mv 2 39] .ret))))
def xG:aZ:=⟨40,qK,[.tmp 2],none⟩
def cT:AC:=.seq (Sr [Mv 12 4,iv 13 (.lenL (.t 12)),Bi 14 .lss 13 200] (Cd 14 .skip (.exit 0))) (.blk 1 (.reg [Mv 15 4,iv 16 (.slit 1 1 [B0] [(0,.k (B0))]),ic 17 (.app 1 false (.t 15) (.t 16)),Mv 4 17]))
def lB:AC:=Sr [Al 2 [.nsl,I0,I0,I0],Mk 3 0] (.seq (Sr [Mv 5 0,iv 6 (.lenL (.t 5)),Bi 7 .gtr 6 64] (Cd 7 (Sr [Bu 8 [.nsl,I0,I0,I0] [],Sv 4 2 8,Mk 3 1] .ret) .skip)) (Sr [ic 9 (.mk 1 [B0] (K0 136)),Mv 10 0,ic 11 (.app 1 false (.t 9) (.t 10)),Mv 4 11] (.seq (.blk 0 (.loop cT)) (Sr [Mv 18 4,Bu 19 [.nsl,I0,I0,I0] [(0,1,.t 18),(2,1,K0 136)],Sv 4 2 19,Mk 3 0] .ret))))
def qR:aZ:=⟨20,lB,[.cell 2 4 true,.tmp 3],none⟩
def pG:AC:=Sr [ic 2 (.box (.t 0)),Al 4 [I0,.nsl,I0,I0,.nsl,.nsl,I0,I0,I0,.nsl,.nsl,.nsl,I0,I0,I0],Mk 5 0] (Sr [Fa 9 1 2,Lt 10 3 9,Mv 11 1,Cr 12 lj [.t 10,.t 11],Mv 8 12,Ex 13 8 0,Ex 14 8 1,Al 6 [.nsl,I0,I0],Sv 3 6 13,Mv 7 14] (Sr [Lt 15 3 6,Fa 16 1 2,Sv 3 16 15] (Sr [Lt 17 15 2,Mv 18 7,Sv 15 4 17,Mv 5 18] .ret)))
def wh:aZ:=⟨19,pG,[.cell 4 15 true,.tmp 5],none⟩
def pH:AC:=Sr [ic 2 (.box (.t 0)),iv 3 (.boxv (.t 1)),Al 4 [I0,.nsl,I0,I0,.nsl,.nsl,I0,I0,I0,.nsl,.nsl,.nsl,I0,I0,I0],Mk 5 0] (Sr [Fa 9 1 2,Lt 10 3 9,Fa 11 0 3,Ld 12 11,Fa 13 1 3,Ld 14 13,Fa 15 2 3,Ld 16 15,Cr 17 lk [.t 10,.t 12,.t 14,.t 16],Mv 8 17,Ex 18 8 0,Ex 19 8 1,Al 6 [.nsl,I0,I0],Sv 3 6 18,Mv 7 19] (Sr [Lt 20 3 6,Fa 21 1 2,Sv 3 21 20] (Sr [Lt 22 15 2,Mv 23 7,Sv 15 4 22,Mv 5 23] .ret)))
def wi:aZ:=⟨24,pH,[.cell 4 15 true,.tmp 5],none⟩
def pI:AC:=Sr [ic 2 (.box (.t 0)),iv 3 (.boxv (.t 1)),Al 4 [I0,.nsl,I0,I0,.nsl,.nsl,I0,I0,I0,.nsl,.nsl,.nsl,I0,I0,I0]] (.seq (Sr [Fa 5 0 2,Ld 6 5,Bi 7 .eql 6 1] (Cd 7 (.draw [Df 8 5 2,Dr 9 (.ld 4 true (.t 8)) [8] 0 0,Dr 10 (.ld 4 true (.t 3)) [3] 0 0,Dr 11 (.call jd [.t 10]) [10] 0 0,Dr 12 (.call fO [.t 9,.t 11]) [9,11] 0 0,Df 13 5 2,Dn (.st 4 (.t 13) (.t 12)) [13,12]]) (.draw [Df 14 9 2,Dr 15 (.ld 6 true (.t 14)) [14] 0 0,Dr 16 (.ld 4 true (.t 3)) [3] 0 0,Dr 17 (.call Am [.t 16]) [16] 0 0,Dr 18 (.call wG [.t 15,.t 17]) [15,17] 0 0,Df 19 9 2,Dn (.st 6 (.t 19) (.t 18)) [19,18]]))) (Sr [Lt 20 15 2,Sv 15 4 20] .ret))
def wj:aZ:=⟨21,pI,[.cell 4 15 true],none⟩
def bE:AC:=.seq (Sr [Mv 9 7,Mv 10 1,Bt 11 .lss 9 10] (Cd 11 .skip (.exit 0))) (.seq (.blk 1 (.seq (Sr [Fa 14 2 2,Ld 15 14,Bi 16 .eql 15 136] (Cd 16 (Sr [Lt 17 4 2,Ca 18 cq [.t 17],Sv 4 2 18] (Sr [Fa 19 1 2,jc (.st 1 (.t 19) (K0 0))] (.reg [Fa 20 2 2,jc (.st 1 (.t 20) (K0 0))]))) .skip)) (Sr [Mv 21 6,Fa 22 0 2,Ld 23 22,Fa 24 2 2,Ld 25 24,Ia 26 23 25,Ld 27 26,iv 28 (.slit 1 1 [B0] [(0,.t 27)]),ic 29 (.app 1 false (.t 21) (.t 28)),Mv 6 29] (.reg [Fa 30 2 2,Ld 31 30,Bi 32 .add 31 1,Fa 33 2 2,Sx 33 32])))) (.reg [Mv 12 7,Bi 13 .add 12 1,Mv 7 13]))
def ke:AC:=Sr [ic 2 (.box (.t 0)),Al 4 [.nsl,I0,I0,I0],iv 5 (.mv (.k (.nsl)))] (Sr [iv 8 (.slit 1 0 [B0] []),Mv 6 8] (.seq (Sr [Mk 7 0] (.blk 0 (.loop bE))) (Sr [Lt 34 4 2,Mv 35 6,Sv 4 4 34,Mv 5 35] .ret)))
def pf:aZ:=⟨36,ke,[.cell 4 4 true,.tmp 5],none⟩
def gj:AC:=.seq (Sr [Mv 9 7,Bi 10 .lss 9 64] (Cd 10 .skip (.exit 0))) (.seq (.blk 1 (Sr [Mv 13 0,Mv 14 1,Mv 15 7,Bt 16 .add 14 15,Mv 17 0,iv 18 (.lenL (.t 17)),Bt 19 .rem 16 18,Ia 20 13 19,Ld 21 20,Cr 22 jK [.t 21],Mv 8 22] (Sr [Mv 23 8,Cr 24 lM [],Cr 25 eS [.t 23,.t 24],Bi 26 .lss 25 0] (Cd 26 (Sr [Mv 27 8,Mv 28 7,Bi 29 .add 28 1,Mv 4 27,Mv 5 29,Mk 6 0] .ret) .skip)))) (.reg [Mv 11 7,Bi 12 .add 11 1,Mv 7 12]))
def oO:AC:=Sr [iv 4 (.mv (.k (.nsl))),Mk 5 0,Mk 6 0] (.seq (Sr [Mk 7 0] (.blk 0 (.loop gj))) (Sr [iv 4 (.mv (.k (.nsl))),Mk 5 64,Mk 6 11] .ret))
def uP:aZ:=⟨30,oO,[.tmp 4,.tmp 5,.tmp 6],none⟩
def sF:AC:=Sr [iv 2 (.boxv (.t 0)),iv 4 (.mv (.k (.bool false)))] (Sr [Lt 6 4 2,Cr 7 ji [.t 6],ic 5 (.alloc (aL (B0) 32)),Sv 32 5 7] (.seq (.draw [Dv 8 (.slice (.arr 32) 1 (.t 5) none none none) [5],Dr 9 (.b2s (.t 8)) [8] 0 0,Dm 10 1,Dr 11 (.call kn [.t 10]) [10] 0 0,Dr 12 (.b2s (.t 11)) [11] 0 0,Dv 13 (.bin .eql (.t 9) (.t 12)) [9,12],Dm 4 13]) .ret))
def zJ:aZ:=⟨14,sF,[.tmp 4],none⟩
def iy:AC:=Sr [ic 1 (.box (.t 0)),Al 2 [.nsl,I0,I0,I0]] (Sr [Lt 3 4 1,Ca 4 cq [.t 3],Sv 4 1 4] (.seq (.draw [ic 5 (.mk 1 [B0] (K0 136)),Df 6 0 1,Dr 7 (.ld 1 false (.t 6)) [6] 0 1,Dv 8 (.slice .slc 1 (.t 7) (some (K0 136)) none none) [7],Dc 9 (.app 1 false (.t 5) (.t 8)) [5,8],Df 10 0 1,Dn (.st 1 (.t 10) (.t 9)) [10,9]]) (Sr [Fa 11 1 1,jc (.st 1 (.t 11) (K0 0))] (Sr [Fa 12 2 1,jc (.st 1 (.t 12) (K0 136))] (Sr [Lt 13 4 1,Sv 4 2 13] .ret)))))
def mY:aZ:=⟨14,iy,[.cell 2 4 true],none⟩
def gk:AC:=Sr [ic 1 (.box (.t 0)),Al 2 [.nsl,I0,I0],Mk 3 0] (.seq (Sr [Fa 4 2 1,Ld 5 4,Bi 6 .eql 5 0,Mv 7 6,Gv 8 (.fadr 1 (.t 1)) 7 true [],Gr 9 (.ld 1 false (.t 8)) 7 true [] 0 0,Gv 10 (.fadr 0 (.t 1)) 7 true [],Gr 11 (.ld 1 false (.t 10)) 7 true [] 0 0,Gv 12 (.lenL (.t 11)) 7 true [],Gv 13 (.bin .lss (.t 9) (.t 12)) 7 true [],iv 14 (.pick (.t 7) (.t 13) (.k (.bool false)))] (Cd 14 (.reg [Fa 15 2 1,jc (.st 1 (.t 15) (K0 12))]) .skip)) (.seq (.draw [Dr 16 (.ld 3 true (.t 1)) [1] 0 0,Df 17 2 1,Dr 18 (.ld 1 false (.t 17)) [17] 0 1,Dn (.st 3 (.t 2) (.t 16)) [2,16],Dm 3 18]) .ret))
def tT:aZ:=⟨19,gk,[.cell 2 3 true,.tmp 3],none⟩
def Eb:AC:=Sr [ic 2 (.box (.t 0)),ic 3 (.box (.t 1)),iv 4 (.mv (.k (.bool false)))] (Sr [Fa 5 3 2,jc (.st 1 (.t 5) (.k (.str ⟨#[]⟩))),Fa 6 3 3,jc (.st 1 (.t 6) (.k (.str ⟨#[]⟩)))] (Sr [Lt 7 4 2,Lt 8 4 3,iv 9 (.eq (.agg [.i,.i,.i,.s]) false (.t 7) (.t 8)),Mv 4 9] .ret))
def Ky:aZ:=⟨10,Eb,[.tmp 4],none⟩
def mZ:AC:=Sr [Mk 2 0] (Sr [Mv 6 0,Cr 7 gH [.t 6],Mv 5 7,Ex 8 5 0,Ex 9 5 1,ic 3 (.alloc (aL (U0) 4)),Sv 4 3 8,Mv 4 9] (Sr [Mv 10 4,Mv 2 10] .ret))
def xI:aZ:=⟨11,mZ,[.tmp 2],none⟩
def qS:AC:=Sr [Mk 2 0] (Sr [Mv 6 0,Cr 7 uX [.t 6],Mv 5 7,Ex 8 5 0,Ex 9 5 1,ic 3 (.alloc (aL (U0) 12)),Sv 12 3 8,Mv 4 9] (Sr [Mv 10 4,Mv 2 10] .ret))
def xJ:aZ:=⟨11,qS,[.tmp 2],none⟩
def ol:AC:=Sr [ic 2 (.alloc (aL (U0) 12)),Mk 3 0] (Sr [Cr 7 u0 [],Mv 4 7] (Sr [Mv 9 4,Mv 10 0,Cr 11 nV [.t 9,.t 10],Mv 8 11,Ex 12 8 0,Ex 13 8 1,ic 5 (.alloc (aL (U0) 12)),Sv 12 5 12,Mv 6 13] (.seq (.blk 0 (Sr [Mv 15 6,Bi 16 .neq 15 0,Mv 14 16] (Cd 14 (Sr [iv 17 (.build (aL (U0) 12) []),Mv 18 6,Sv 12 2 17,Mv 3 18] .ret) (.seq (.draw [Dm 20 4,Dr 21 (.ld 12 true (.t 5)) [5] 0 0,Cr 22 nW [],Dr 23 (.call nX [.t 22]) [22] 0 0,Dr 24 (.call pi [.t 20,.t 21,.t 23]) [20,21,23] 0 0,Cr 25 xd [],Dv 26 (.fld 0 12 true (.t 25)) [25],Dv 27 (.eq (.agg (aL .i 12)) true (.t 24) (.t 26)) [24,26],Dm 19 27]) (Cd 19 (Sr [iv 28 (.build (aL (U0) 12) []),Sv 12 2 28,Mk 3 4] .ret) .skip))))) (Sr [Lt 29 12 5,iv 30 (.build (aL (U0) 12) [(0,12,.t 29)]),Sv 12 2 30,Mk 3 0] .ret))))
def IH:aZ:=⟨31,ol,[.cell 2 12 true,.tmp 3],none⟩
def jo:AC:=Sr [Bt 13 .lss 12 11] (.seq (Cd 13 .skip (.exit 0)) (.seq (.blk 1 (Sr [Mv 14 12,Ia 15 10 12,Ld 16 15,Mv 6 14,Mv 7 16] (.reg [Mv 17 5,Mv 18 7,iv 19 (.i2i .i64 (.t 18)),Mv 20 6,iv 21 (.bin .mul (K0 8) (.t 20)),Bt 22 .shl 19 21,Bt 23 .or 17 22,Mv 5 23]))) (.reg [Bi 24 .add 12 1,Mv 12 24])))
def nP:AC:=Sr [Mk 4 0] (Sr [Mk 5 0] (.seq (Sr [Mv 8 0,Mv 9 1,Ca 10 iS [.t 8,.t 9],iv 11 (.lenL (.t 10)),Mk 12 0] (.blk 0 (.loop jo))) (Sr [Mv 25 5,Mv 4 25] .ret)))
def tU:aZ:=⟨26,nP,[.tmp 4],none⟩
def lH:AC:=Sr [iv 4 (.mv (.k (.nsl)))] (.seq (Sr [Mv 6 0,Nk 7 6,Fa 8 0 7,Ld 9 8,iv 10 (.lenL (.t 9)),Mv 11 1,Bt 12 .lss 10 11] (Cd 12 (Sr [Mv 13 0,Nk 14 13,Fa 15 1 14,jc (.st 1 (.t 15) (.k (.bool true)))] (.reg [Mk 1 0])) .skip)) (Sr [Mv 16 0,Nk 17 16,Fa 18 0 17,Ld 19 18,Mv 20 1,Mv 21 1,iv 22 (.slice .slc 1 (.t 19) none (some (.t 20)) (some (.t 21))),Mv 5 22] (Sr [Mv 23 0,Mv 24 0,Nk 25 24,Fa 26 0 25,Ld 27 26,Mv 28 1,iv 29 (.slice .slc 1 (.t 27) (some (.t 28)) none none),Nk 30 23,Fa 31 0 30,Sx 31 29] (Sr [Mv 32 5,Mv 4 32] .ret))))
def wl:aZ:=⟨33,lH,[.tmp 4],none⟩
def zL:AC:=Sr [iv 5 (.slit 1 0 [B0] []),Mv 6 0,ic 7 (.app 1 false (.t 5) (.t 6)),Mv 2 7] .ret
def p6:aZ:=⟨8,zL,[.tmp 2],some (.reg [iv 2 (.mv (.k (.nsl)))],3,4,.cond (.t 4)
 (.seq (.reg [iv 2 (.mv (.k (.nsl)))])
 (.ret))
 (.skip))⟩
def gm:AC:=Sr [Bt 10 .lss 9 8] (.seq (Cd 10 .skip (.exit 0)) (.seq (.blk 1 (Sr [Mv 11 9,Mv 7 11] (.reg [Mv 12 0,Mv 13 1,Mv 14 7,iv 15 (.bin .mul (K0 8) (.t 14)),Bt 16 .shr 13 15,iv 17 (.i2i .u8 (.t 16)),iv 18 (.slit 1 1 [B0] [(0,.t 17)]),ic 19 (.app 1 false (.t 12) (.t 18)),Mv 0 19]))) (.reg [Bi 20 .add 9 1,Mv 9 20])))
def sX:AC:=Sr [iv 6 (.mv (.k (.nsl)))] (.seq (Sr [Mv 8 2,Mk 9 0] (.blk 0 (.loop gm))) (Sr [Mv 21 0,Mv 6 21] .ret))
def F3:aZ:=⟨22,sX,[.tmp 6],none⟩
def qU:AC:=.draw [Dm 6 0,Dm 7 1,Dv 8 (.bin .quo (.t 7) (K0 8)) [7],Dk 9 6,Df 10 0 9,Dv 11 (.iadr (some 25) 1 (.t 10) (.t 8)) [10,8],Dl 12 11,Dm 13 2,Dv 14 (.i2i .u64 (.t 13)) [13],Dm 15 1,Dv 16 (.bin .rem (.t 15) (K0 8)) [15],Dv 17 (.bin .mul (K0 8) (.t 16)) [16],Dv 18 (.bin .shl (.t 14) (.t 17)) [14,17],Dv 19 (.bin .xor (.t 12) (.t 18)) [12,18],Dk 20 6,Df 21 0 20,Dv 22 (.iadr (some 25) 1 (.t 21) (.t 8)) [21,8],Dn (.st 1 (.t 22) (.t 19)) [22,19]]
def xK:aZ:=⟨23,qU,[],none⟩
def cU:AC:=Sr [Bi 5 .lss 4 24] (.seq (Cd 5 .skip (.exit 0)) (.seq (.blk 1 (Sr [Mv 6 4,Mv 3 6] (.reg [Lt 7 25 1,Mv 8 3,Cr 9 jL [.t 7,.t 8],Sv 25 1 9]))) (.reg [Bi 10 .add 4 1,Mv 4 10])))
def lI:AC:=Sr [ic 1 (.box (.t 0)),ic 2 (.alloc (aL (U0) 25))] (.seq (Sr [Mk 4 0] (.blk 0 (.loop cU))) (Sr [Lt 11 25 1,Sv 25 2 11] .ret))
def qV:aZ:=⟨12,lI,[.cell 2 25 true],none⟩
def nQ:AC:=Sr [ic 1 (.box (.t 0)),ic 2 (.alloc (aL (B0) 200))] (Sr [iv 3 (.slice (.arr 25) 1 (.t 1) none none none),Cr 4 qP [.t 3],iv 5 (.s2a 200 (.t 4)),Lt 6 200 5,Sv 200 2 6] .ret)
def tV:aZ:=⟨7,nQ,[.cell 2 200 true],none⟩
def j1:AC:=Sr [Bi 46 .lss 45 6] (.seq (Cd 46 .skip (.exit 0)) (.seq (.blk 1 (.reg [Mv 47 5,Mv 48 0,iv 49 (.iadr none 1 (.t 48) (K0 0)),Ld 50 49,Mv 51 5,Bt 52 .mul 50 51,iv 53 (.bin .sub (.k (.int .u64 2)) (.t 52)),Bt 54 .mul 47 53,Mv 5 54])) (.reg [Bi 55 .add 45 1,Mv 45 55])))
def p7:AC:=Sr [Bt 76 .lss 75 74] (.seq (Cd 76 .skip (.exit 2)) (.seq (.blk 3 (.reg [Mv 77 4,Mv 78 4,Mv 79 4,Nk 80 79,Fa 81 2 80,Ld 82 81,Cr 83 fV [.t 78,.t 82,.k (U0)],Nk 84 77,Fa 85 2 84,Sx 85 83])) (.reg [Bi 86 .add 75 1,Mv 75 86])))
def Hf:AC:=Sr [iv 2 (.mv (.k (.nilp))),Mk 3 0] (.seq (Sr [Mv 6 0,iv 7 (.lenL (.t 6)),Bi 8 .lss 7 1,Mv 9 8,Gv 10 (.mv (.t 0)) 9 false [],Gv 11 (.lenL (.t 10)) 9 false [],Gv 12 (.bin .gtr (.t 11) (K0 16)) 9 false [],iv 13 (.pick (.t 9) (.k (.bool true)) (.t 12)),Mv 14 13,Gv 15 (.mv (.t 0)) 14 false [],Gv 16 (.iadr none 1 (.t 15) (K0 0)) 14 false [],Gr 17 (.ld 1 false (.t 16)) 14 false [] 0 0,Gv 18 (.bin .and (.t 17) (.k (.int .u64 1))) 14 false [],Gv 19 (.bin .eql (.t 18) (.k (U0))) 14 false [],iv 20 (.pick (.t 14) (.k (.bool true)) (.t 19)),Mv 21 20,Gv 22 (.mv (.t 0)) 21 false [],Gv 23 (.mv (.t 0)) 21 false [],Gv 24 (.lenL (.t 23)) 21 false [],Gv 25 (.bin .sub (.t 24) (K0 1)) 21 false [],Gv 26 (.iadr none 1 (.t 22) (.t 25)) 21 false [],Gr 27 (.ld 1 false (.t 26)) 21 false [] 0 0,Gv 28 (.bin .eql (.t 27) (.k (U0))) 21 false [],iv 29 (.pick (.t 21) (.k (.bool true)) (.t 28)),Mv 30 29,Gv 31 (.mv (.t 0)) 30 false [],Gv 32 (.lenL (.t 31)) 30 false [],Gv 33 (.bin .eql (.t 32) (K0 1)) 30 false [],Gv 34 (.mv (.t 33)) 30 false [],Gv 35 (.mv (.t 0)) 34 true [],Gv 36 (.iadr none 1 (.t 35) (K0 0)) 34 true [],Gr 37 (.ld 1 false (.t 36)) 34 true [] 0 0,Gv 38 (.bin .eql (.t 37) (.k (.int .u64 1))) 34 true [],Gv 39 (.pick (.t 34) (.t 38) (.k (.bool false))) 30 false [],iv 40 (.pick (.t 30) (.k (.bool true)) (.t 39))] (Cd 40 (Sr [iv 2 (.mv (.k (.nilp))),Mk 3 1] .ret) .skip)) (Sr [Mv 41 0,Cr 42 cJ [.t 41],Bu 43 [.nsl,U0,.nsl] [(0,1,.t 42)],ic 44 (.box (.t 43)),Mv 4 44] (Sr [iv 5 (.mv (.k (.int .u64 1)))] (.seq (Sr [Mk 45 0] (.blk 0 (.loop j1))) (Sr [Mv 56 4,Mv 57 5,iv 58 (.un .neg (.t 57)),Nk 59 56,Fa 60 1 59,Sx 60 58] (Sr [Mv 61 4,Mv 62 0,iv 63 (.lenL (.t 62)),ic 64 (.mk 1 [U0] (.t 63)),Nk 65 61,Fa 66 2 65,Sx 66 64] (Sr [Mv 67 4,Nk 68 67,Fa 69 2 68,Ld 70 69,iv 71 (.iadr none 1 (.t 70) (K0 0)),jc (.st 1 (.t 71) (.k (.int .u64 1)))] (.seq (Sr [Mv 72 0,iv 73 (.lenL (.t 72)),iv 74 (.bin .mul (K0 128) (.t 73)),Mk 75 0] (.blk 2 (.loop p7))) (Sr [Mv 87 4,Mv 2 87,Mk 3 0] .ret)))))))))
def NO:aZ:=⟨88,Hf,[.tmp 2,.tmp 3],none⟩
def iz:AC:=.seq (Sr [Mv 16 6,Bi 17 .geq 16 0] (Cd 17 .skip (.exit 0))) (.seq (.blk 1 (.reg [Mv 20 0,Mv 21 5,Mv 22 1,Mv 23 6,Bi 24 .quo 23 64,Ia 25 22 24,Ld 26 25,Mv 27 6,Bi 28 .rem 27 64,Bt 29 .shr 26 28,iv 30 (.bin .and (.t 29) (.k (.int .u64 1))),Cr 31 fV [.t 20,.t 21,.t 30],Mv 5 31])) (.reg [Mv 18 6,Bi 19 .sub 18 1,Mv 6 19]))
def mn:AC:=Sr [iv 4 (.mv (.k (.nsl)))] (Sr [Mv 7 0,Nk 8 7,Fa 9 0 8,Ld 10 9,iv 11 (.lenL (.t 10)),ic 12 (.mk 1 [U0] (.t 11)),Mv 5 12] (.seq (Sr [Mv 13 1,Cr 14 tp [.t 13],Bi 15 .sub 14 1,Mv 6 15] (.blk 0 (.loop iz))) (Sr [Mv 32 5,Mv 4 32] .ret)))
def rI:aZ:=⟨33,mn,[.tmp 4],none⟩
def m5:AC:=Sr [iv 4 (.mv (.k (U0)))] (.seq (Sr [Mv 5 1,Mv 6 0,iv 7 (.lenL (.t 6)),Bt 8 .lss 5 7] (Cd 8 (Sr [Mv 9 0,Mv 10 1,Ia 11 9 10,Ld 12 11,Mv 4 12] .ret) .skip)) (Sr [iv 4 (.mv (.k (U0)))] .ret))
def xL:aZ:=⟨13,m5,[.tmp 4],none⟩
def pJ:AC:=Sr [iv 2 (.mv (.k (.nsl)))] (.seq (Sr [Mv 3 0] (Cd 3 (Sr [Cr 4 jw [],Mv 2 4] .ret) .skip)) (Sr [Cr 5 KM [],Mv 2 5] .ret))
def wo:aZ:=⟨6,pJ,[.tmp 2],none⟩
def uq:AC:=Sr [iv 0 (.mv (.k (.nsl)))] (Sr [iv 1 (.slit 1 24 [U0] [(0,.k (.int .u64 4294967295)),(1,.k (.int .u64 4294967295)),(2,.k (.int .u64 2788832800)),(3,.k (.int .u64 4098638569)),(4,.k (.int .u64 1650360006)),(5,.k (.int .u64 3833967990)),(6,.k (.int .u64 1834074693)),(7,.k (.int .u64 1340159341)),(8,.k (.int .u64 4066317367)),(9,.k (.int .u64 808127085)),(10,.k (.int .u64 3443147547)),(11,.k (.int .u64 4019526067)),(12,.k (.int .u64 2385773789)),(13,.k (.int .u64 1363806329)),(14,.k (.int .u64 991140642)),(15,.k (.int .u64 34324134)),(16,.k (.int .u64 2322058356)),(17,.k (.int .u64 688016904)),(18,.k (.int .u64 2161908945)),(19,.k (.int .u64 3301335691)),(20,.k (.int .u64 560513588)),(21,.k (.int .u64 3373259426)),(22,.k (.int .u64 4294967295)),(23,.k (.int .u64 4294967295))]),Mv 0 1] .ret)
def BX:aZ:=⟨2,uq,[.tmp 0],none⟩
def dN:AC:=.seq (Sr [Mv 8 4,Mv 9 0,iv 10 (.lenL (.t 9)),Bt 11 .lss 8 10] (Cd 11 .skip (.exit 0))) (.seq (.blk 1 (Sr [Mv 14 3,Mv 15 4,Mv 16 0,Mv 17 4,Ia 18 16 17,Ld 19 18,iv 20 (.bin .quo (.t 19) (.k (.int .u64 2))),Ia 21 14 15,Sx 21 20] (Sr [Mv 22 4,Bi 23 .add 22 1,Mv 24 0,iv 25 (.lenL (.t 24)),Bt 26 .lss 23 25] (Cd 26 (.draw [Dm 27 3,Dm 28 4,Dm 29 3,Dm 30 4,Dv 31 (.iadr none 1 (.t 29) (.t 30)) [29,30],Dl 32 31,Dm 33 0,Dm 34 4,Dv 35 (.bin .add (.t 34) (K0 1)) [34],Dv 36 (.iadr none 1 (.t 33) (.t 35)) [33,35],Dl 37 36,Dv 38 (.bin .rem (.t 37) (.k (.int .u64 2))) [37],Dv 39 (.bin .mul (.t 38) (.k (.int .u64 2147483648))) [38],Dv 40 (.bin .add (.t 32) (.t 39)) [32,39],Dv 41 (.iadr none 1 (.t 27) (.t 28)) [27,28],Dn (.st 1 (.t 41) (.t 40)) [41,40]]) .skip)))) (.reg [Mv 12 4,Bi 13 .add 12 1,Mv 4 13]))
def pK:AC:=Sr [iv 2 (.mv (.k (.nsl)))] (Sr [Mv 5 0,iv 6 (.lenL (.t 5)),ic 7 (.mk 1 [U0] (.t 6)),Mv 3 7] (.seq (Sr [Mk 4 0] (.blk 0 (.loop dN))) (Sr [Mv 42 3,Cr 43 d9 [.t 42],Mv 2 43] .ret)))
def wu:aZ:=⟨44,pK,[.tmp 2],none⟩
def fL:AC:=.seq (Sr [Mv 12 7,Mv 13 0,iv 14 (.lenL (.t 13)),Bt 15 .lss 12 14] (Cd 15 .skip (.exit 0))) (.seq (.blk 1 (.seq (.draw [Dm 18 0,Dm 19 7,Dv 20 (.iadr none 1 (.t 18) (.t 19)) [18,19],Dl 21 20,Dv 22 (.bin .add (.k (.int .u64 4294967296)) (.t 21)) [21],Dm 23 1,Dm 24 7,Dr 25 (.call bS [.t 23,.t 24]) [23,24] 0 0,Dv 26 (.bin .sub (.t 22) (.t 25)) [22,25],Dm 27 6,Dv 28 (.bin .sub (.t 26) (.t 27)) [26,27],Dm 8 28]) (Sr [Mv 29 5,Mv 30 8,iv 31 (.bin .rem (.t 30) (.k (.int .u64 4294967296))),iv 32 (.slit 1 1 [U0] [(0,.t 31)]),ic 33 (.app 1 false (.t 29) (.t 32)),Mv 5 33] (.reg [Mv 34 8,iv 35 (.bin .quo (.t 34) (.k (.int .u64 4294967296))),iv 36 (.bin .sub (.k (.int .u64 1)) (.t 35)),Mv 6 36])))) (.reg [Mv 16 7,Bi 17 .add 16 1,Mv 7 17]))
def qZ:AC:=Sr [iv 4 (.mv (.k (.nsl)))] (Sr [Mv 9 0,iv 10 (.lenL (.t 9)),ic 11 (.mkc 1 [U0] (K0 0) (.t 10)),Mv 5 11] (Sr [iv 6 (.mv (.k (U0)))] (.seq (Sr [Mk 7 0] (.blk 0 (.loop fL))) (Sr [Mv 37 5,Cr 38 d9 [.t 37],Mv 4 38] .ret))))
def xM:aZ:=⟨39,qZ,[.tmp 4],none⟩
def iA:AC:=Sr [Bt 9 .lss 8 7] (.seq (Cd 9 .skip (.exit 0)) (.seq (.blk 1 (Sr [Mv 10 8,Mv 5 10] (Sr [Mv 11 1,Mv 12 0,Mv 13 5,Ia 14 12 13,Ld 15 14,Bt 16 .eql 11 15] (Cd 16 (Sr [Mv 17 5,Mv 4 17] .ret) .skip)))) (.reg [Bi 18 .add 8 1,Mv 8 18])))
def mq:AC:=Sr [Mk 4 0] (.seq (Sr [Mv 6 0,iv 7 (.lenL (.t 6)),Mk 8 0] (.blk 0 (.loop iA))) (Sr [Mk 4 (-1)] .ret))
def rJ:aZ:=⟨19,mq,[.tmp 4],none⟩
def l6:AC:=Sr [Bi 8 .lss 7 4] (.seq (Cd 8 .skip (.exit 0)) (.seq (.blk 1 (Sr [Mv 9 7,Mv 6 9] (.draw [Dm 11 6,Dm 12 6,Dv 13 (.iadr (some 4) 1 (.t 2) (.t 12)) [2,12],Dl 14 13,Dm 15 6,Dv 16 (.iadr (some 4) 1 (.t 3) (.t 15)) [3,15],Dl 17 16,Dm 18 5,Dc 19 (.call bR [.t 14,.t 17,.t 18]) [14,17,18],Dm 10 19,Dv 20 (.ext (.t 10) 0) [10],Dv 21 (.ext (.t 10) 1) [10],Dv 22 (.iadr (some 4) 1 (.t 4) (.t 11)) [4,11],Dn (.st 1 (.t 22) (.t 20)) [22,20],Dm 5 21]))) (.reg [Bi 23 .add 7 1,Mv 7 23])))
def BE:AC:=Sr [iv 2 (.boxv (.t 0)),iv 3 (.boxv (.t 1)),ic 4 (.alloc (aL (U0) 4))] (Sr [iv 5 (.mv (.k (U0)))] (.seq (Sr [Mk 7 0] (.blk 0 (.loop l6))) (Sr [Lt 24 4 4,Sv 4 4 24] .ret)))
def IL:aZ:=⟨25,BE,[.cell 4 4 true],none⟩
def q7:AC:=Sr [iv 4 (.mv (.k (U0))),iv 5 (.mv (.k (U0)))] (Sr [Mv 14 0,iv 15 (.bin .and (.t 14) (.k (.int .u64 4294967295))),Mv 6 15] (Sr [Mv 16 0,iv 17 (.bin .shr (.t 16) (.k (.int .u64 32))),Mv 7 17] (Sr [Mv 18 1,iv 19 (.bin .and (.t 18) (.k (.int .u64 4294967295))),Mv 8 19] (Sr [Mv 20 1,iv 21 (.bin .shr (.t 20) (.k (.int .u64 32))),Mv 9 21] (Sr [Mv 22 6,Mv 23 8,Bt 24 .mul 22 23,Mv 10 24] (Sr [Mv 25 7,Mv 26 8,Bt 27 .mul 25 26,Mv 28 10,iv 29 (.bin .shr (.t 28) (.k (.int .u64 32))),Bt 30 .add 27 29,Mv 11 30] (Sr [Mv 31 11,iv 32 (.bin .and (.t 31) (.k (.int .u64 4294967295))),Mv 12 32] (Sr [Mv 33 11,iv 34 (.bin .shr (.t 33) (.k (.int .u64 32))),Mv 13 34] (Sr [Mv 35 12,Mv 36 6,Mv 37 9,Bt 38 .mul 36 37,Bt 39 .add 35 38,Mv 12 39] (Sr [Mv 40 7,Mv 41 9,Bt 42 .mul 40 41,Mv 43 13,Bt 44 .add 42 43,Mv 45 12,iv 46 (.bin .shr (.t 45) (.k (.int .u64 32))),Bt 47 .add 44 46,Mv 4 47] (Sr [Mv 48 0,Mv 49 1,Bt 50 .mul 48 49,Mv 5 50] .ret)))))))))))
def xN:aZ:=⟨51,q7,[.tmp 4,.tmp 5],none⟩
def eM:AC:=Sr [ic 2 (.alloc [I0,I0,I0,.str ⟨#[]⟩]),iv 3 (.mv (.k (.nsl))),Mk 4 0] (.seq (Sr [Mv 8 0,iv 9 (.lenL (.t 8)),Bi 10 .lss 9 8,Mv 11 10,Gv 12 (.mv (.t 0)) 11 false [],Gv 13 (.lenL (.t 12)) 11 false [],Gv 14 (.mv (.t 0)) 11 false [],Gv 15 (.slice .slc 1 (.t 14) (some (K0 6)) (some (K0 8)) none) 11 false [],Gr 16 (.call iF [.t 15]) 11 false [] 0 0,Gv 17 (.bin .add (K0 8) (.t 16)) 11 false [],Gv 18 (.bin .lss (.t 13) (.t 17)) 11 false [],iv 19 (.pick (.t 11) (.k (.bool true)) (.t 18))] (Cd 19 (Sr [iv 20 (.build [I0,I0,I0,.str ⟨#[]⟩] []),Sv 4 2 20,iv 3 (.mv (.k (.nsl))),Mk 4 2] .ret) .skip)) (Sr [Mv 21 0,iv 22 (.slice .slc 1 (.t 21) (some (K0 6)) (some (K0 8)) none),Cr 23 iF [.t 22],iv 24 (.bin .add (K0 8) (.t 23)),Mv 5 24] (.seq (.draw [Dm 25 0,Dv 26 (.iadr none 1 (.t 25) (K0 0)) [25],Dr 27 (.ld 1 false (.t 26)) [26] 0 1,Dv 28 (.i2i .i64 (.t 27)) [27],Dm 29 0,Dv 30 (.iadr none 1 (.t 29) (K0 1)) [29],Dr 31 (.ld 1 false (.t 30)) [30] 0 1,Dv 32 (.i2i .i64 (.t 31)) [31],Dm 33 0,Dv 34 (.slice .slc 1 (.t 33) (some (K0 2)) (some (K0 6)) none) [33],Dr 35 (.call iF [.t 34]) [34] 0 1,Dm 36 0,Dm 37 5,Dv 38 (.slice .slc 1 (.t 36) (some (K0 8)) (some (.t 37)) none) [36,37],Dr 39 (.b2s (.t 38)) [38] 0 1,⟨(some 40),.v (.build [I0,I0,I0,.str ⟨#[]⟩] [(0,1,.t 28),(1,1,.t 32),(2,1,.t 35),(3,1,.t 39)]),none,[28,32,35,39],0,0⟩,ic 6 (.alloc [I0,I0,I0,.str ⟨#[]⟩]),Dn (.st 4 (.t 6) (.t 40)) [6,40]]) (.seq (Sr [Lt 41 4 6,Cr 42 dM [.t 41],Mv 7 42] (Sr [Mv 43 7,Bi 44 .neq 43 0] (Cd 44 (Sr [iv 45 (.build [I0,I0,I0,.str ⟨#[]⟩] []),Mv 46 7,Sv 4 2 45,iv 3 (.mv (.k (.nsl))),Mv 4 46] .ret) .skip))) (.seq (.draw [Dr 47 (.ld 4 true (.t 6)) [6] 0 0,Dm 48 0,Dm 49 5,Dv 50 (.slice .slc 1 (.t 48) (some (.t 49)) none none) [48,49],Dn (.st 4 (.t 2) (.t 47)) [2,47],Dm 3 50,Mk 4 0]) .ret)))))
def tX:aZ:=⟨51,eM,[.cell 2 4 true,.tmp 3,.tmp 4],none⟩
def lJ:AC:=.seq (Sr [Mv 9 3,iv 10 (.lenL (.t 9)),Bi 11 .rem 10 136,Bi 12 .neq 11 0] (Cd 12 .skip (.exit 0))) (.blk 1 (.reg [Mv 13 3,iv 14 (.slit 1 1 [B0] [(0,.k (B0))]),ic 15 (.app 1 true (.t 13) (.t 14)),Mv 3 15]))
def q8:AC:=Sr [iv 2 (.mv (.k (.nsl)))] (Sr [iv 4 (.slit 1 0 [B0] []),Mv 5 0,ic 6 (.app 1 true (.t 4) (.t 5)),iv 7 (.slit 1 1 [B0] [(0,.k (.int .u8 6))]),ic 8 (.app 1 true (.t 6) (.t 7)),Mv 3 8] (.seq (.blk 0 (.loop lJ)) (Sr [Mv 16 3,Mv 17 3,iv 18 (.lenL (.t 17)),Bi 19 .sub 18 1,Mv 20 3,Mv 21 3,iv 22 (.lenL (.t 21)),Bi 23 .sub 22 1,Ia 24 20 23,Ld 25 24,iv 26 (.bin .add (.t 25) (.k (.int .u8 128))),Ia 27 16 19,Sx 27 26] (Sr [Mv 28 3,Mv 2 28] .ret))))
def xO:aZ:=⟨29,q8,[.tmp 2],none⟩
def i6:AC:=.seq (Sr [Mv 14 9,Bi 15 .lss 14 8] (Cd 15 .skip (.exit 0))) (.seq (.blk 1 (.seq (Sr [Mv 18 7,Bi 19 .rem 18 2,Mv 20 8,Bi 21 .rem 20 2,Bt 22 .neq 19 21] (Cd 22 (.reg [Mv 23 5,Mv 24 6,Bt 25 .add 23 24,Mv 5 25]) .skip)) (Sr [Mv 26 7,Bi 27 .quo 26 2,Mv 7 27] (Sr [Mv 28 8,Bi 29 .quo 28 2,Mv 8 29] (.reg [Mv 30 6,Bi 31 .mul 30 2,Mv 6 31]))))) (.reg [Mv 16 9,Bi 17 .add 16 1,Mv 9 17]))
def q9:AC:=Sr [iv 4 (.mv (.k (B0)))] (Sr [Mk 5 0] (Sr [Mk 6 1] (Sr [Mv 10 0,iv 11 (.i2i .i64 (.t 10)),Mv 12 1,iv 13 (.i2i .i64 (.t 12)),Mv 7 11,Mv 8 13] (.seq (Sr [Mk 9 0] (.blk 0 (.loop i6))) (Sr [Mv 32 5,iv 33 (.i2i .u8 (.t 32)),Mv 4 33] .ret)))))
def xP:aZ:=⟨34,q9,[.tmp 4],none⟩
def eL:AC:=.seq (Sr [Mv 15 6,Bi 16 .lss 15 8] (Cd 16 .skip (.exit 2))) (.seq (.blk 3 (Sr [Mv 19 3,Mv 20 5,iv 21 (.bin .rem (.t 20) (.k (.int .u64 256))),iv 22 (.i2i .u8 (.t 21)),iv 23 (.slit 1 1 [B0] [(0,.t 22)]),ic 24 (.app 1 true (.t 19) (.t 23)),Mv 3 24] (.reg [Mv 25 5,iv 26 (.bin .quo (.t 25) (.k (.int .u64 256))),Mv 5 26]))) (.reg [Mv 17 6,Bi 18 .add 17 1,Mv 6 18]))
def jD:AC:=.seq (Sr [Mv 8 4,Bi 9 .lss 8 25] (Cd 9 .skip (.exit 0))) (.seq (.blk 1 (Sr [Mv 12 4,iv 13 (.iadr (some 25) 1 (.t 1) (.t 12)),Ld 14 13,Mv 5 14] (Sr [Mk 6 0] (.blk 2 (.loop eL))))) (.reg [Mv 10 4,Bi 11 .add 10 1,Mv 4 11]))
def ox:AC:=Sr [iv 1 (.boxv (.t 0)),iv 2 (.mv (.k (.nsl)))] (Sr [iv 7 (.slit 1 0 [B0] []),Mv 3 7] (.seq (Sr [Mk 4 0] (.blk 0 (.loop jD))) (Sr [Mv 27 3,Mv 2 27] .ret)))
def uy:aZ:=⟨28,ox,[.tmp 2],none⟩
def dv:AC:=.seq (Sr [Mv 7 4,Bi 8 .lss 7 24] (Cd 8 .skip (.exit 0))) (.seq (.blk 1 (.reg [Lt 11 1600 3,Mv 12 4,Cr 13 ko [.t 11,.t 12],Sv 1600 3 13])) (.reg [Mv 9 4,Bi 10 .add 9 1,Mv 4 10]))
def l9:AC:=Sr [iv 1 (.boxv (.t 0)),ic 2 (.alloc (aL (U0) 25))] (Sr [Lt 5 25 1,Cr 6 je [.t 5],ic 3 (.alloc (aL (.bool false) 1600)),Sv 1600 3 6] (.seq (Sr [Mk 4 0] (.blk 0 (.loop dv))) (Sr [Lt 14 1600 3,Cr 15 kq [.t 14],Sv 25 2 15] .ret)))
def rj:aZ:=⟨16,l9,[.cell 2 25 true],none⟩
def b7:AC:=.seq (Sr [Mv 9 4,Bi 10 .geq 9 0] (Cd 10 .skip (.exit 0))) (.seq (.blk 1 (.draw [Dm 13 4,Dv 14 (.bin .quo (.t 13) (K0 8)) [13],Dm 15 4,Dv 16 (.bin .quo (.t 15) (K0 8)) [15],Dv 17 (.iadr (some 25) 1 (.t 3) (.t 16)) [3,16],Dl 18 17,Dv 19 (.bin .mul (.t 18) (.k (.int .u64 256))) [18],Dm 20 0,Dm 21 4,Dv 22 (.iadr none 1 (.t 20) (.t 21)) [20,21],Dl 23 22,Dv 24 (.i2i .u64 (.t 23)) [23],Dv 25 (.bin .add (.t 19) (.t 24)) [19,24],Dv 26 (.iadr (some 25) 1 (.t 3) (.t 14)) [3,14],Dn (.st 1 (.t 26) (.t 25)) [26,25]])) (.reg [Mv 11 4,Bi 12 .sub 11 1,Mv 4 12]))
def i8:AC:=Sr [ic 2 (.alloc (aL (U0) 25))] (Sr [iv 5 (.build (aL (U0) 25) []),ic 3 (.alloc (aL (U0) 25)),Sv 25 3 5] (.seq (Sr [Mv 6 0,iv 7 (.lenL (.t 6)),Bi 8 .sub 7 1,Mv 4 8] (.blk 0 (.loop b7))) (Sr [Lt 27 25 3,Sv 25 2 27] .ret)))
def rl:aZ:=⟨28,i8,[.cell 2 25 true],none⟩
def kZ:AC:=Sr [ic 2 (.box (.t 0)),Al 4 [.nsl,I0,I0],Mk 5 0] (.seq (Sr [Fa 6 2 2,Ld 7 6,Bi 8 .eql 7 0] (Cd 8 (.reg [Mv 9 1,Fa 10 2 2,Sx 10 9]) .skip)) (.seq (.draw [Dr 11 (.ld 3 true (.t 2)) [2] 0 0,Df 12 2 2,Dr 13 (.ld 1 false (.t 12)) [12] 0 1,Dn (.st 3 (.t 4) (.t 11)) [4,11],Dm 5 13]) .ret))
def vt:aZ:=⟨14,kZ,[.cell 4 3 true,.tmp 5],none⟩
def c9:AC:=Sr [ic 4 (.box (.t 0)),Al 8 [.nsl,I0,I0],Mk 9 0] (.seq (Sr [Fa 10 2 4,Ld 11 10,Bi 12 .neq 11 0] (Cd 12 (.seq (.draw [Dr 13 (.ld 3 true (.t 4)) [4] 0 0,Df 14 2 4,Dr 15 (.ld 1 false (.t 14)) [14] 0 1,Dn (.st 3 (.t 8) (.t 13)) [8,13],Dm 9 15]) .ret) .skip)) (.seq (Sr [Fa 16 1 4,Ld 17 16,Fa 18 0 4,Ld 19 18,iv 20 (.lenL (.t 19)),Bt 21 .geq 17 20,Mv 22 21,Gv 23 (.fadr 0 (.t 4)) 22 false [],Gr 24 (.ld 1 false (.t 23)) 22 false [] 0 0,Gv 25 (.fadr 1 (.t 4)) 22 false [],Gr 26 (.ld 1 false (.t 25)) 22 false [] 0 0,Gv 27 (.iadr none 4 (.t 24) (.t 26)) 22 false [],Gv 28 (.fadr 0 (.t 27)) 22 false [],Gr 29 (.ld 1 false (.t 28)) 22 false [] 0 0,Gv 30 (.mv (.t 1)) 22 false [],Gv 31 (.bin .neq (.t 29) (.t 30)) 22 false [],iv 32 (.pick (.t 22) (.k (.bool true)) (.t 31)),Mv 33 32,Gv 34 (.fadr 0 (.t 4)) 33 false [],Gr 35 (.ld 1 false (.t 34)) 33 false [] 0 0,Gv 36 (.fadr 1 (.t 4)) 33 false [],Gr 37 (.ld 1 false (.t 36)) 33 false [] 0 0,Gv 38 (.iadr none 4 (.t 35) (.t 37)) 33 false [],Gv 39 (.fadr 1 (.t 38)) 33 false [],Gr 40 (.ld 1 false (.t 39)) 33 false [] 0 0,Gv 41 (.mv (.t 2)) 33 false [],Gv 42 (.bin .neq (.t 40) (.t 41)) 33 false [],iv 43 (.pick (.t 33) (.k (.bool true)) (.t 42)),Mv 44 43,Gv 45 (.fadr 0 (.t 4)) 44 false [],Gr 46 (.ld 1 false (.t 45)) 44 false [] 0 0,Gv 47 (.fadr 1 (.t 4)) 44 false [],Gr 48 (.ld 1 false (.t 47)) 44 false [] 0 0,Gv 49 (.iadr none 4 (.t 46) (.t 48)) 44 false [],Gv 50 (.fadr 2 (.t 49)) 44 false [],Gr 51 (.ld 1 false (.t 50)) 44 false [] 0 0,Gv 52 (.mv (.t 3)) 44 false [],Gv 53 (.bin .neq (.t 51) (.t 52)) 44 false [],iv 54 (.pick (.t 44) (.k (.bool true)) (.t 53))] (Cd 54 (Sr [Fa 55 2 4,jc (.st 1 (.t 55) (K0 10))] (Sr [Lt 56 3 4,Sv 3 8 56,Mk 9 10] .ret)) .skip)) (Sr [Fa 57 1 4,Ld 58 57,Bi 59 .add 58 1,Fa 60 1 4,Sx 60 59] (Sr [Lt 61 3 4,Sv 3 8 61,Mk 9 0] .ret))))
def vu:aZ:=⟨62,c9,[.cell 8 3 true,.tmp 9],none⟩
def bD:AC:=.seq (Sr [Mv 11 5,Mv 12 1,iv 13 (.lenL (.t 12)),Bt 14 .lss 11 13] (Cd 14 .skip (.exit 0))) (.seq (.blk 1 (.seq (Sr [Fa 17 1 2,Ld 18 17,Bi 19 .eql 18 136] (Cd 19 (Sr [Lt 20 4 2,Ca 21 cq [.t 20],Sv 4 2 21] (.reg [Fa 22 1 2,jc (.st 1 (.t 22) (K0 0))])) .skip)) (.seq (.draw [Df 23 0 2,Dl 24 23,Df 25 1 2,Dl 26 25,Dm 27 1,Dm 28 5,Dv 29 (.iadr none 1 (.t 27) (.t 28)) [27,28],Dl 30 29,Dv 31 (.iadr none 1 (.t 24) (.t 26)) [24,26],Dn (.st 1 (.t 31) (.t 30)) [31,30]]) (Sr [Fa 32 1 2,Ld 33 32,Bi 34 .add 33 1,Fa 35 1 2,Sx 35 34] (.reg [Fa 36 2 2,jc (.st 1 (.t 36) (K0 136))]))))) (.reg [Mv 15 5,Bi 16 .add 15 1,Mv 5 16]))
def j4:AC:=Sr [ic 2 (.box (.t 0)),Al 4 [.nsl,I0,I0,I0]] (Sr [iv 6 (.slit 1 0 [B0] []),Fa 7 0 2,Ld 8 7,ic 9 (.app 1 true (.t 6) (.t 8)),Fa 10 0 2,Sx 10 9] (.seq (Sr [Mk 5 0] (.blk 0 (.loop bD))) (Sr [Lt 37 4 2,Sv 4 4 37] .ret)))
def oP:aZ:=⟨38,j4,[.cell 4 4 true],none⟩
def i9:AC:=Sr [iv 1 (.boxv (.t 0)),iv 2 (.mv (.k (.nsl)))] (.seq (Sr [Lt 4 4 1,Cr 5 kD [.t 4],iv 6 (.un .not (.t 5))] (Cd 6 (Sr [iv 2 (.mv (.k (.nsl)))] .ret) .skip)) (.seq (.draw [Df 7 0 1,Dl 8 7,Dc 9 (.call aW [.t 8,K0 1]) [8],Df 10 1 1,Dr 11 (.ld 1 false (.t 10)) [10] 0 1,Dc 12 (.call aW [.t 11,K0 1]) [11],Dc 13 (.app 1 false (.t 9) (.t 12)) [9,12],Dm 3 13]) (.seq (.draw [Dm 14 3,Df 15 2 1,Dl 16 15,Dc 17 (.call aW [.t 16,K0 4]) [16],Dc 18 (.app 1 false (.t 14) (.t 17)) [14,17],Df 19 3 1,Dr 20 (.ld 1 false (.t 19)) [19] 0 2,Dc 21 (.app 1 false (.t 18) (.t 20)) [18,20],Dm 2 21]) .ret)))
def rm:aZ:=⟨22,i9,[.tmp 2],none⟩
def j5:AC:=Sr [ic 1 (.box (.t 0)),Al 2 [.nsl,I0,I0,I0]] (Sr [Fa 3 0 1,Ld 4 3,Cr 5 cG [.t 4],Cr 6 fy [.t 5],Ca 7 e9 [.t 6],Fa 8 0 1,Sx 8 7] (Sr [Fa 9 3 1,Ld 10 9,Bi 11 .add 10 1,Fa 12 3 1,Sx 12 11] (Sr [Lt 13 4 1,Sv 4 2 13] .ret)))
def oQ:aZ:=⟨14,j5,[.cell 2 4 true],none⟩
def oy:AC:=Sr [iv 2 (.mv (.k (.nsl)))] (Sr [Mv 3 0,Cr 4 gR [.t 3,K0 4],Cr 5 kw [.t 4],Mv 2 5] .ret)
def uz:aZ:=⟨6,oy,[.tmp 2],none⟩
def nf:AC:=Sr [iv 2 (.mv (.k (.nsl)))] (Sr [iv 4 (.slit 1 0 [B0] []),Mv 5 0,ic 6 (.app 1 true (.t 4) (.t 5)),Mv 3 6] (Sr [Mv 7 3,Mv 8 3,iv 9 (.iadr none 1 (.t 8) (K0 31)),Ld 10 9,iv 11 (.bin .rem (.t 10) (.k (.int .u8 64))),iv 12 (.iadr none 1 (.t 7) (K0 31)),Sx 12 11] (Sr [Mv 13 3,Cr 14 cE [.t 13],Mv 2 14] .ret)))
def tf:aZ:=⟨15,nf,[.tmp 2],none⟩
def Ab:AC:=Sr [iv 0 (.mv (.k (.nilp)))] (Sr [Cr 1 qm [],Cr 2 tq [.t 1],Mv 0 2] .ret)
def Hz:aZ:=⟨3,Ab,[.tmp 0],none⟩
def kO:AC:=Sr [ic 4 (.alloc (aL (U0) 12)),Mk 5 0] (.seq (Sr [Mv 7 1,iv 8 (.lenL (.t 7)),Bi 9 .neq 8 96] (Cd 9 (Sr [iv 10 (.build (aL (U0) 12) []),Sv 12 4 10,Mk 5 1] .ret) .skip)) (Sr [Mv 11 1,Cr 12 nR [.t 11],Mv 6 12] (.seq (Sr [Mv 13 6,Mv 14 0,Nk 15 14,Fa 16 0 15,Ld 17 16,Cr 18 fW [.t 17],Cr 19 vz [.t 13,.t 18],Bi 20 .geq 19 0] (Cd 20 (Sr [iv 21 (.build (aL (U0) 12) []),Sv 12 4 21,Mk 5 4] .ret) .skip)) (Sr [Mv 22 6,iv 23 (.s2a 12 (.t 22)),Lt 24 12 23,Sv 12 4 24,Mk 5 0] .ret))))
def yL:aZ:=⟨25,kO,[.cell 4 12 true,.tmp 5],none⟩
def tZ:AC:=Sr [iv 4 (.boxv (.t 1)),iv 5 (.boxv (.t 2)),ic 6 (.alloc (aL (U0) 12))] (.seq (.draw [Dm 7 0,Dk 8 7,Df 9 0 8,Dl 10 9,Dv 11 (.mkfn (.func ec) [.t 10] []) [10],Dr 12 (.ld 12 true (.t 4)) [4] 0 0,Dr 13 (.ld 12 true (.t 5)) [5] 0 0,Dr 14 (.call EA [.t 11,.t 12,.t 13]) [11,12,13] 0 0,Dn (.st 12 (.t 6) (.t 14)) [6,14]]) .ret)
def BK:aZ:=⟨15,tZ,[.cell 6 12 true],none⟩
def mE:AC:=.seq (Sr [Mv 5 3,Bi 6 .geq 5 0] (Cd 6 .skip (.exit 0))) (.seq (.blk 1 (.draw [Dm 9 3,Dm 10 3,Dv 11 (.iadr (some 12) 1 (.t 1) (.t 10)) [1,10],Dl 12 11,Dv 13 (.bin .shr (.t 12) (.k (.int .u64 1))) [12],Dm 14 2,Dv 15 (.bin .shl (.t 14) (.k (.int .u64 63))) [14],Dv 16 (.bin .or (.t 13) (.t 15)) [13,15],Dm 17 3,Dv 18 (.iadr (some 12) 1 (.t 1) (.t 17)) [1,17],Dl 19 18,Dv 20 (.bin .and (.t 19) (.k (.int .u64 1))) [19],Dv 21 (.iadr (some 12) 1 (.t 1) (.t 9)) [1,9],Dn (.st 1 (.t 21) (.t 16)) [21,16],Dm 2 20])) (.reg [Mv 7 3,Bi 8 .sub 7 1,Mv 3 8]))
def rR:AC:=Sr [iv 0 (.mv (.k (.nilp)))] (Sr [Cr 4 qm [],ic 1 (.alloc (aL (U0) 12)),Sv 12 1 4,iv 2 (.mv (.k (U0)))] (.seq (Sr [Mk 3 11] (.blk 0 (.loop mE))) (Sr [Lt 22 12 1,Cr 23 tq [.t 22],Mv 0 23] .ret)))
def yM:aZ:=⟨24,rR,[.tmp 0],none⟩
def rS:AC:=Sr [ic 2 (.alloc (aL (U0) 12))] (Sr [Mv 3 0,Nk 4 3,Fa 5 0 4,Ld 6 5,Cr 7 fW [.t 6],iv 8 (.s2a 12 (.t 7)),Lt 9 12 8,Sv 12 2 9] .ret)
def yN:aZ:=⟨10,rS,[.cell 2 12 true],none⟩
def CY:AC:=Sr [ic 0 (.alloc (aL (U0) 12))] (Sr [iv 1 (.build (aL (U0) 12) [(0,1,.k (.int .u64 1))]),iv 2 (.build (aL (U0) 12) [(0,12,.t 1)]),Sv 12 0 2] .ret)
def J8:aZ:=⟨3,CY,[.cell 0 12 true],none⟩
def ng:AC:=Sr [ic 2 (.box (.t 0)),ic 4 (.alloc (aL (U0) 25))] (Sr [Lt 5 25 2,Cr 6 jM [.t 5],Cr 7 jN [.t 6],Cr 8 ll [.t 7],Sv 25 2 8] (.seq (.draw [Dv 9 (.iadr (some 25) 1 (.t 2) (K0 0)) [2],Dl 10 9,Dm 11 1,Dr 12 (.call mK [.t 11]) [11] 0 0,Dv 13 (.bin .xor (.t 10) (.t 12)) [10,12],Dv 14 (.iadr (some 25) 1 (.t 2) (K0 0)) [2],Dn (.st 1 (.t 14) (.t 13)) [14,13]]) (Sr [Lt 15 25 2,Sv 25 4 15] .ret)))
def th:aZ:=⟨16,ng,[.cell 4 25 true],none⟩
def il:AC:=Sr [iv 2 (.mv (.k (.nsl)))] (.seq (Sr [Mv 3 0,iv 4 (.eq .slc false (.t 3) (.k (.nsl)))] (Cd 4 (Sr [iv 2 (.mv (.k (.nsl)))] .ret) .skip)) (Sr [iv 5 (.slit 1 0 [U0] []),Mv 6 0,ic 7 (.app 1 false (.t 5) (.t 6)),Mv 2 7] .ret))
def mF:aZ:=⟨8,il,[.tmp 2],none⟩
def cF:AC:=Sr [Bt 16 .lss 15 14] (.seq (Cd 16 .skip (.exit 0)) (.seq (.blk 1 (Sr [Mv 17 15,Ia 18 13 15,Ld 19 18,Mv 8 17,Mv 9 19] (Sr [Mv 20 7,Mv 21 8,Mv 22 9,iv 23 (.bin .shl (.t 22) (.k (.int .u64 1))),Mv 24 2,Bt 25 .or 23 24,Ia 26 20 21,Sx 26 25] (.reg [Mv 27 9,iv 28 (.bin .shr (.t 27) (.k (.int .u64 63))),Mv 2 28])))) (.reg [Bi 29 .add 15 1,Mv 15 29])))
def nh:AC:=Sr [iv 6 (.mv (.k (.nsl)))] (Sr [Mv 10 1,iv 11 (.lenL (.t 10)),ic 12 (.mk 1 [U0] (.t 11)),Mv 7 12] (.seq (Sr [Mv 13 1,iv 14 (.lenL (.t 13)),Mk 15 0] (.blk 0 (.loop cF))) (Sr [Mv 30 0,Mv 31 7,Mv 32 2,Cr 33 fc [.t 30,.t 31,.t 32],Mv 6 33] .ret)))
def ti:aZ:=⟨34,nh,[.tmp 6],none⟩
def ql:AC:=.seq (Sr [Mv 7 3,Bi 8 .geq 7 0] (Cd 8 .skip (.exit 0))) (.seq (.blk 1 (Sr [Mv 11 0,Mv 12 3,Ia 13 11 12,Ld 14 13,iv 15 (.bin .neq (.t 14) (.k (U0)))] (Cd 15 (Sr [Mv 16 3,iv 17 (.bin .mul (K0 64) (.t 16)),Mv 18 0,Mv 19 3,Ia 20 18 19,Ld 21 20,Cr 22 mL [.t 21],Bt 23 .add 17 22,Mv 2 23] .ret) .skip))) (.reg [Mv 9 3,Bi 10 .sub 9 1,Mv 3 10]))
def CZ:AC:=Sr [Mk 2 0] (.seq (Sr [Mv 4 0,iv 5 (.lenL (.t 4)),Bi 6 .sub 5 1,Mv 3 6] (.blk 0 (.loop ql))) (Sr [Mk 2 0] .ret))
def J9:aZ:=⟨24,CZ,[.tmp 2],none⟩
def mG:AC:=.seq (Sr [Mv 8 4,Bi 9 .geq 8 0] (Cd 9 .skip (.exit 0))) (.seq (.blk 1 (.reg [Mv 12 3,Bi 13 .mul 12 256,Mv 14 0,Mv 15 4,Ia 16 14 15,Ld 17 16,iv 18 (.i2i .i64 (.t 17)),Bt 19 .add 13 18,Mv 3 19])) (.reg [Mv 10 4,Bi 11 .sub 10 1,Mv 4 11]))
def rV:AC:=Sr [Mk 2 0] (Sr [Mk 3 0] (.seq (Sr [Mv 5 0,iv 6 (.lenL (.t 5)),Bi 7 .sub 6 1,Mv 4 7] (.blk 0 (.loop mG))) (Sr [Mv 20 3,Mv 2 20] .ret)))
def yQ:aZ:=⟨21,rV,[.tmp 2],none⟩
def b8:AC:=.seq (Sr [Mv 15 6,Bi 16 .lss 15 64] (Cd 16 .skip (.exit 2))) (.seq (.blk 3 (Sr [Mv 19 4,Bi 20 .rem 19 5,Mv 21 4,Bi 22 .quo 21 5,Mv 23 6,Mv 24 5,iv 25 (.bin .rem (.t 24) (.k (.int .u64 2))),iv 26 (.bin .eql (.t 25) (.k (.int .u64 1))),iv 27 (.iadr (some 5) 320 (.t 3) (.t 20)),iv 28 (.iadr (some 5) 64 (.t 27) (.t 22)),iv 29 (.iadr (some 64) 1 (.t 28) (.t 23)),Sx 29 26] (.reg [Mv 30 5,iv 31 (.bin .quo (.t 30) (.k (.int .u64 2))),Mv 5 31]))) (.reg [Mv 17 6,Bi 18 .add 17 1,Mv 6 18]))
def dw:AC:=.seq (Sr [Mv 8 4,Bi 9 .lss 8 25] (Cd 9 .skip (.exit 0))) (.seq (.blk 1 (Sr [Mv 12 4,iv 13 (.iadr (some 25) 1 (.t 1) (.t 12)),Ld 14 13,Mv 5 14] (Sr [Mk 6 0] (.blk 2 (.loop b8))))) (.reg [Mv 10 4,Bi 11 .add 10 1,Mv 4 11]))
def ma:AC:=Sr [iv 1 (.boxv (.t 0)),ic 2 (.alloc (aL (.bool false) 1600))] (Sr [iv 7 (.build (aL (.bool false) 1600) []),ic 3 (.alloc (aL (.bool false) 1600)),Sv 1600 3 7] (.seq (Sr [Mk 4 0] (.blk 0 (.loop dw))) (Sr [Lt 32 1600 3,Sv 1600 2 32] .ret)))
def rn:aZ:=⟨33,ma,[.cell 2 1600 true],none⟩
def eu:AC:=.seq (Sr [Mv 14 6,Bi 15 .lss 14 64] (Cd 15 .skip (.exit 0))) (.seq (.blk 1 (.draw [Dm 18 6,Dm 19 6,Dv 20 (.iadr (some 5) 320 (.t 2) (K0 0)) [2],Dv 21 (.iadr (some 5) 64 (.t 20) (K0 0)) [20],Dv 22 (.iadr (some 64) 1 (.t 21) (.t 19)) [21,19],Dl 23 22,Dm 24 6,Dv 25 (.iadr (some 64) 1 (.t 5) (.t 24)) [5,24],Dl 26 25,Dv 27 (.eq .bool true (.t 23) (.t 26)) [23,26],Dv 28 (.iadr (some 5) 320 (.t 2) (K0 0)) [2],Dv 29 (.iadr (some 5) 64 (.t 28) (K0 0)) [28],Dv 30 (.iadr (some 64) 1 (.t 29) (.t 18)) [29,18],Dn (.st 1 (.t 30) (.t 27)) [30,27]])) (.reg [Mv 16 6,Bi 17 .add 16 1,Mv 6 17]))
def oz:AC:=Sr [ic 2 (.box (.t 0)),ic 4 (.alloc (aL (.bool false) 1600))] (Sr [Lt 7 1600 2,Cr 8 kx [.t 7],Cr 9 mN [.t 8],Cr 10 nY [.t 9],Cr 11 mM [.t 10],Sv 1600 2 11] (Sr [Mv 12 1,Cr 13 im [.t 12],ic 5 (.alloc (aL (.bool false) 64)),Sv 64 5 13] (.seq (Sr [Mk 6 0] (.blk 0 (.loop eu))) (Sr [Lt 31 1600 2,Sv 1600 4 31] .ret))))
def uA:aZ:=⟨32,oz,[.cell 4 1600 true],none⟩
def bX:AC:=.seq (Sr [Mv 12 6,Bi 13 .geq 12 0] (Cd 13 .skip (.exit 2))) (.seq (.blk 3 (Sr [Mv 16 5,iv 17 (.bin .mul (.t 16) (.k (.int .u64 2))),Mv 5 17] (Sr [Mv 18 4,Bi 19 .rem 18 5,Mv 20 4,Bi 21 .quo 20 5,Mv 22 6,iv 23 (.iadr (some 5) 320 (.t 1) (.t 19)),iv 24 (.iadr (some 5) 64 (.t 23) (.t 21)),iv 25 (.iadr (some 64) 1 (.t 24) (.t 22)),Ld 26 25] (Cd 26 (.reg [Mv 27 5,iv 28 (.bin .add (.t 27) (.k (.int .u64 1))),Mv 5 28]) .skip)))) (.reg [Mv 14 6,Bi 15 .sub 14 1,Mv 6 15]))
def eA:AC:=.seq (Sr [Mv 8 4,Bi 9 .lss 8 25] (Cd 9 .skip (.exit 0))) (.seq (.blk 1 (Sr [iv 5 (.mv (.k (U0)))] (.seq (Sr [Mk 6 63] (.blk 2 (.loop bX))) (.reg [Mv 29 4,Mv 30 5,iv 31 (.iadr (some 25) 1 (.t 3) (.t 29)),Sx 31 30])))) (.reg [Mv 10 4,Bi 11 .add 10 1,Mv 4 11]))
def oC:AC:=Sr [iv 1 (.boxv (.t 0)),ic 2 (.alloc (aL (U0) 25))] (Sr [iv 7 (.build (aL (U0) 25) []),ic 3 (.alloc (aL (U0) 25)),Sv 25 3 7] (.seq (Sr [Mk 4 0] (.blk 0 (.loop eA))) (Sr [Lt 32 25 3,Sv 25 2 32] .ret)))
def uC:aZ:=⟨33,oC,[.cell 2 25 true],none⟩
def eB:AC:=.seq (Sr [Mv 18 6,Bi 19 .lss 18 8] (Cd 19 .skip (.exit 2))) (.seq (.blk 3 (Sr [Mv 22 3,Mv 23 5,iv 24 (.bin .rem (.t 23) (.k (.int .u64 256))),iv 25 (.i2i .u8 (.t 24)),iv 26 (.slit 1 1 [B0] [(0,.t 25)]),ic 27 (.app 1 false (.t 22) (.t 26)),Mv 3 27] (.reg [Mv 28 5,iv 29 (.bin .quo (.t 28) (.k (.int .u64 256))),Mv 5 29]))) (.reg [Mv 20 6,Bi 21 .add 20 1,Mv 6 21]))
def jG:AC:=.seq (Sr [Mv 8 4,Mv 9 0,iv 10 (.lenL (.t 9)),Bt 11 .lss 8 10] (Cd 11 .skip (.exit 0))) (.seq (.blk 1 (Sr [Mv 14 0,Mv 15 4,Ia 16 14 15,Ld 17 16,Mv 5 17] (Sr [Mk 6 0] (.blk 2 (.loop eB))))) (.reg [Mv 12 4,Bi 13 .add 12 1,Mv 4 13]))
def oD:AC:=Sr [iv 2 (.mv (.k (.nsl)))] (Sr [iv 7 (.slit 1 0 [B0] []),Mv 3 7] (.seq (Sr [Mk 4 0] (.blk 0 (.loop jG))) (Sr [Mv 30 3,Mv 2 30] .ret)))
def uD:aZ:=⟨31,oD,[.tmp 2],none⟩
def eC:AC:=.seq (Sr [Mv 9 6,Mv 10 1,Bt 11 .lss 9 10] (Cd 11 .skip (.exit 0))) (.seq (.blk 1 (.reg [Mv 14 5,Mv 15 0,Mv 16 6,iv 17 (.bin .mul (K0 2) (.t 16)),Cr 18 bS [.t 15,.t 17],Mv 19 0,Mv 20 6,iv 21 (.bin .mul (K0 2) (.t 20)),Bi 22 .add 21 1,Cr 23 bS [.t 19,.t 22],iv 24 (.bin .mul (.t 23) (.k (.int .u64 4294967296))),Bt 25 .add 18 24,iv 26 (.slit 1 1 [U0] [(0,.t 25)]),ic 27 (.app 1 false (.t 14) (.t 26)),Mv 5 27])) (.reg [Mv 12 6,Bi 13 .add 12 1,Mv 6 13]))
def oE:AC:=Sr [iv 4 (.mv (.k (.nsl)))] (Sr [Mv 7 1,ic 8 (.mkc 1 [U0] (K0 0) (.t 7)),Mv 5 8] (.seq (Sr [Mk 6 0] (.blk 0 (.loop eC))) (Sr [Mv 28 5,Mv 4 28] .ret)))
def uE:aZ:=⟨29,oE,[.tmp 4],none⟩
def C4:AC:=Sr [iv 1 (.boxv (.t 0)),iv 2 (.mv (.k (.nilp)))] (Sr [iv 6 (.slice (.arr 12) 1 (.t 1) none none none),Cr 7 Ag [.t 6],Mv 5 7,Ex 8 5 0,Ex 9 5 1,Mv 3 8,Mv 4 9] (Sr [Mv 10 3,Bu 11 [.nilp] [(0,1,.t 10)],iv 12 (.boxv (.t 11)),Mv 2 12] .ret))
def Kb:aZ:=⟨13,C4,[.tmp 2],none⟩
def Ai:AC:=Sr [ic 0 (.alloc (aL (U0) 12))] (Sr [iv 1 (.build (aL (U0) 12) [(0,1,.k (.int .u64 18446744073709551615)),(1,1,.k (.int .u64 17603518614768072224)),(2,1,.k (.int .u64 16466767132611215046)),(3,1,.k (.int .u64 5755940542857986629)),(4,1,.k (.int .u64 3470879405153129527)),(5,1,.k (.int .u64 17263733006627652379)),(6,1,.k (.int .u64 5857503583518590173)),(7,1,.k (.int .u64 147421033984662306)),(8,1,.k (.int .u64 2955010104097229940)),(9,1,.k (.int .u64 14179128828124470481)),(10,1,.k (.int .u64 14488038916154245684)),(11,1,.k (.int .u64 18446744073709551615))]),Sv 12 0 1] .ret)
def HJ:aZ:=⟨2,Ai,[.cell 0 12 true],none⟩
def pO:AC:=.seq (Sr [Mv 13 5,Bi 14 .geq 13 0] (Cd 14 .skip (.exit 0))) (.seq (.blk 1 (Sr [Mv 17 0,Mv 18 5,Cr 19 rW [.t 17,.t 18],Mv 20 1,Mv 21 5,Cr 22 rW [.t 20,.t 21],Cr 23 ky [.t 19,.t 22],Mv 6 23] (Sr [Mv 24 6,Bi 25 .neq 24 0] (Cd 25 (Sr [Mv 26 6,Mv 4 26] .ret) .skip)))) (.reg [Mv 15 5,Bi 16 .sub 15 1,Mv 5 16]))
def Gt:AC:=Sr [Mk 4 0] (.seq (Sr [Mv 7 0,iv 8 (.lenL (.t 7)),Mv 9 1,iv 10 (.lenL (.t 9)),iv 11 (.mxmn true [.t 8,.t 10]),Bi 12 .sub 11 1,Mv 5 12] (.blk 0 (.loop pO))) (Sr [Mk 4 0] .ret))
def Mj:aZ:=⟨27,Gt,[.tmp 4],none⟩
def nk:AC:=Sr [iv 2 (.mv (.k (.nsl)))] (Sr [Mv 3 0,Nk 4 3,Fa 5 0 4,Ld 6 5,Cr 7 cJ [.t 6],Mv 2 7] .ret)
def tn:aZ:=⟨8,nk,[.tmp 2],none⟩
def Jj:AC:=Sr [iv 4 (.boxv (.t 1)),iv 5 (.boxv (.t 2)),ic 6 (.alloc (aL (U0) 12))] (.seq (.draw [Dm 7 0,Dv 8 (.slice (.arr 12) 1 (.t 4) none none none) [4],Dv 9 (.slice (.arr 12) 1 (.t 5) none none none) [5],Dc 10 (.callv (.t 7) [.t 8,.t 9]) [7,8,9],Dv 11 (.s2a 12 (.t 10)) [10],Dr 12 (.ld 12 true (.t 11)) [11] 1 1,Dn (.st 12 (.t 6) (.t 12)) [6,12]]) .ret)
def PD:aZ:=⟨13,Jj,[.cell 6 12 true],none⟩
def dK:AC:=.seq (Sr [Mv 38 10,Bi 39 .geq 38 0] (Cd 39 .skip (.exit 0))) (.seq (.blk 1 (Sr [Mv 42 0,Mv 43 9,Mv 44 9,Cr 45 bP [.t 42,.t 43,.t 44],Mv 9 45] (Sr [Mv 46 2,Mv 47 10,Bi 48 .quo 47 64,Ia 49 46 48,Ld 50 49,Mv 51 10,Bi 52 .rem 51 64,Bt 53 .shr 50 52,iv 54 (.bin .and (.t 53) (.k (.int .u64 1))),iv 55 (.bin .eql (.t 54) (.k (.int .u64 1)))] (Cd 55 (.reg [Mv 56 0,Mv 57 9,Mv 58 8,Cr 59 bP [.t 56,.t 57,.t 58],Mv 9 59]) .skip)))) (.reg [Mv 40 10,Bi 41 .sub 40 1,Mv 10 41]))
def px:AC:=Sr [iv 6 (.mv (.k (.nsl)))] (Sr [Mv 11 0,Nk 12 11,Fa 13 0 12,Ld 14 13,iv 15 (.lenL (.t 14)),ic 16 (.mk 1 [U0] (.t 15)),Mv 7 16] (Sr [Mv 17 7,iv 18 (.iadr none 1 (.t 17) (K0 0)),jc (.st 1 (.t 18) (.k (.int .u64 1)))] (.seq (.draw [Dm 19 0,Dm 20 0,Dm 21 1,Dr 22 (.call ja [.t 20,.t 21]) [20,21] 0 0,Dm 23 0,Dk 24 23,Df 25 2 24,Dl 26 25,Dr 27 (.call bP [.t 19,.t 22,.t 26]) [19,22,26] 0 0,Dm 28 0,Dm 29 7,Dm 30 0,Dk 31 30,Df 32 2 31,Dl 33 32,Dr 34 (.call bP [.t 28,.t 29,.t 33]) [28,29,33] 0 0,Dm 8 27,Dm 9 34]) (.seq (Sr [Mv 35 2,Cr 36 tp [.t 35],Bi 37 .sub 36 1,Mv 10 37] (.blk 0 (.loop dK))) (Sr [Mv 60 0,Mv 61 9,Mv 62 7,Cr 63 bP [.t 60,.t 61,.t 62],Mv 6 63] .ret)))))
def vR:aZ:=⟨64,px,[.tmp 6],none⟩
def bu:AC:=Sr [Bi 10 .lss 9 25] (.seq (Cd 10 .skip (.exit 0)) (.seq (.blk 1 (Sr [Mv 11 9,iv 12 (.idxA 25 1 false (.t 8) (.t 9)),Mv 4 11,Mv 5 12] (.reg [Mv 13 4,Bi 14 .rem 13 5,iv 15 (.iadr (some 5) 1 (.t 3) (.t 14)),Ld 16 15,Mv 17 5,Bt 18 .xor 16 17,iv 19 (.iadr (some 5) 1 (.t 3) (.t 14)),Sx 19 18]))) (.reg [Bi 20 .add 9 1,Mv 9 20])))
def dS:AC:=Sr [Bi 22 .lss 21 25] (.seq (Cd 22 .skip (.exit 2)) (.seq (.blk 3 (Sr [Mv 23 21,Mv 6 23] (Sr [Mv 24 6,Bi 25 .rem 24 5,Mv 7 25] (.draw [Dm 26 6,Dv 27 (.iadr (some 25) 1 (.t 1) (.t 26)) [1,26],Dl 28 27,Dm 29 7,Dv 30 (.bin .add (.t 29) (K0 4)) [29],Dv 31 (.bin .rem (.t 30) (K0 5)) [30],Dv 32 (.iadr (some 5) 1 (.t 3) (.t 31)) [3,31],Dl 33 32,Dm 34 7,Dv 35 (.bin .add (.t 34) (K0 1)) [34],Dv 36 (.bin .rem (.t 35) (K0 5)) [35],Dv 37 (.iadr (some 5) 1 (.t 3) (.t 36)) [3,36],Dl 38 37,Dr 39 (.call dY [.t 38,K0 1]) [38] 0 0,Dv 40 (.bin .xor (.t 33) (.t 39)) [33,39],Dv 41 (.bin .xor (.t 28) (.t 40)) [28,40],Dv 42 (.iadr (some 25) 1 (.t 1) (.t 26)) [1,26],Dn (.st 1 (.t 42) (.t 41)) [42,41]])))) (.reg [Bi 43 .add 21 1,Mv 21 43])))
def ny:AC:=Sr [ic 1 (.box (.t 0)),ic 2 (.alloc (aL (U0) 25))] (Sr [ic 3 (.alloc (aL (U0) 5))] (.seq (Sr [Lt 8 25 1,Mk 9 0] (.blk 0 (.loop bu))) (.seq (Sr [Mk 21 0] (.blk 2 (.loop dS))) (Sr [Lt 44 25 1,Sv 25 2 44] .ret))))
def tD:aZ:=⟨45,ny,[.cell 2 25 true],none⟩
def dT:AC:=Sr [Bi 12 .lss 11 24] (.seq (Cd 12 .skip (.exit 0)) (.seq (.blk 1 (Sr [Mv 13 11,Mv 6 13] (Sr [Mv 14 4,iv 15 (.bin .mul (K0 2) (.t 14)),Mv 16 5,iv 17 (.bin .mul (K0 3) (.t 16)),Bt 18 .add 15 17,Bi 19 .rem 18 5,Mv 7 19] (Sr [Mv 20 5,Mv 21 7,iv 22 (.bin .mul (K0 5) (.t 21)),Bt 23 .add 20 22,Mv 24 4,Mv 25 5,iv 26 (.bin .mul (K0 5) (.t 25)),Bt 27 .add 24 26,iv 28 (.iadr (some 25) 1 (.t 1) (.t 27)),Ld 29 28,Mv 30 6,Bi 31 .add 30 1,Mv 32 6,Bi 33 .add 32 2,Bt 34 .mul 31 33,Bi 35 .quo 34 2,Cr 36 dY [.t 29,.t 35],iv 37 (.iadr (some 25) 1 (.t 3) (.t 23)),Sx 37 36] (.reg [Mv 38 5,Mv 39 7,Mv 4 38,Mv 5 39]))))) (.reg [Bi 40 .add 11 1,Mv 11 40])))
def nz:AC:=Sr [iv 1 (.boxv (.t 0)),ic 2 (.alloc (aL (U0) 25))] (Sr [iv 8 (.iadr (some 25) 1 (.t 1) (K0 0)),Ld 9 8,iv 10 (.build (aL (U0) 25) [(0,1,.t 9)]),ic 3 (.alloc (aL (U0) 25)),Sv 25 3 10] (Sr [Mk 4 1,Mk 5 0] (.seq (Sr [Mk 11 0] (.blk 0 (.loop dT))) (Sr [Lt 41 25 3,Sv 25 2 41] .ret))))
def tE:aZ:=⟨42,nz,[.cell 2 25 true],none⟩
def ff:AC:=Sr [Bi 8 .lss 7 25] (.seq (Cd 8 .skip (.exit 0)) (.seq (.blk 1 (Sr [Mv 9 7,Mv 4 9] (Sr [Mv 10 4,Mv 11 4,Bi 12 .rem 11 5,Bt 13 .sub 10 12,Mv 5 13] (.draw [Dm 14 4,Dv 15 (.iadr (some 25) 1 (.t 3) (.t 14)) [3,14],Dl 16 15,Dm 17 5,Dm 18 4,Dv 19 (.bin .add (.t 18) (K0 2)) [18],Dv 20 (.bin .rem (.t 19) (K0 5)) [19],Dv 21 (.bin .add (.t 17) (.t 20)) [17,20],Dv 22 (.iadr (some 25) 1 (.t 1) (.t 21)) [1,21],Dl 23 22,Dm 24 5,Dm 25 4,Dv 26 (.bin .add (.t 25) (K0 1)) [25],Dv 27 (.bin .rem (.t 26) (K0 5)) [26],Dv 28 (.bin .add (.t 24) (.t 27)) [24,27],Dv 29 (.iadr (some 25) 1 (.t 1) (.t 28)) [1,28],Dl 30 29,Dv 31 (.bin .andNot (.t 23) (.t 30)) [23,30],Dv 32 (.bin .xor (.t 16) (.t 31)) [16,31],Dv 33 (.iadr (some 25) 1 (.t 3) (.t 14)) [3,14],Dn (.st 1 (.t 33) (.t 32)) [33,32]])))) (.reg [Bi 34 .add 7 1,Mv 7 34])))
def pz:AC:=Sr [iv 1 (.boxv (.t 0)),ic 2 (.alloc (aL (U0) 25))] (Sr [Lt 6 25 1,ic 3 (.alloc (aL (U0) 25)),Sv 25 3 6] (.seq (Sr [Mk 7 0] (.blk 0 (.loop ff))) (Sr [Lt 35 25 3,Sv 25 2 35] .ret)))
def vT:aZ:=⟨36,pz,[.cell 2 25 true],none⟩
def qs:AC:=Sr [iv 2 (.mv (.k (U0)))] (.seq (Sr [Mv 3 0,Bi 4 .lss 3 0,Mv 5 4,Gv 6 (.mv (.t 0)) 5 false [],Gv 7 (.bin .geq (.t 6) (K0 24)) 5 false [],iv 8 (.pick (.t 5) (.k (.bool true)) (.t 7))] (Cd 8 (Sr [iv 2 (.mv (.k (U0)))] .ret) .skip)) (Sr [Mv 9 0,iv 10 (.iadr (some 24) 1 (.g 0) (.t 9)),Ld 11 10,Mv 2 11] .ret))
def xr:aZ:=⟨12,qs,[.tmp 2],none⟩
def gS:AC:=Sr [iv 6 (.mv (.k (.nsl)))] (.seq (Sr [Mv 9 2,iv 10 (.bin .eql (.t 9) (.k (U0))),Mv 11 10,Gv 12 (.mv (.t 1)) 11 true [],Gv 13 (.mv (.t 0)) 11 true [],Gv 14 (.nck (.t 13)) 11 true [],Gv 15 (.fadr 0 (.t 14)) 11 true [],Gr 16 (.ld 1 false (.t 15)) 11 true [] 0 0,Gr 17 (.call vz [.t 12,.t 16]) 11 true [] 0 0,Gv 18 (.bin .lss (.t 17) (K0 0)) 11 true [],iv 19 (.pick (.t 11) (.t 18) (.k (.bool false)))] (Cd 19 (Sr [Mv 20 1,Mv 6 20] .ret) .skip)) (Sr [Mv 22 1,Mv 23 0,Nk 24 23,Fa 25 0 24,Ld 26 25,Cr 27 Ap [.t 22,.t 26],Mv 21 27,Ex 28 21 0,Ex 29 21 1,Mv 7 28,Mv 8 29] (Sr [Mv 30 7,Mv 6 30] .ret)))
def uJ:aZ:=⟨31,gS,[.tmp 6],none⟩
def bU:AC:=Sr [Mk 2 0] (.seq (Sr [Mv 3 0,iv 4 (.bin .geq (.t 3) (.k (.int .u64 4294967296)))] (Cd 4 (Sr [Mv 5 0,iv 6 (.bin .shr (.t 5) (.k (.int .u64 32))),Mv 0 6] (.reg [Mk 2 32])) .skip)) (.seq (Sr [Mv 7 0,iv 8 (.bin .geq (.t 7) (.k (.int .u64 65536)))] (Cd 8 (Sr [Mv 9 0,iv 10 (.bin .shr (.t 9) (.k (.int .u64 16))),Mv 0 10] (.reg [Mv 11 2,Bi 12 .add 11 16,Mv 2 12])) .skip)) (.seq (Sr [Mv 13 0,iv 14 (.bin .geq (.t 13) (.k (.int .u64 256)))] (Cd 14 (Sr [Mv 15 0,iv 16 (.bin .shr (.t 15) (.k (.int .u64 8))),Mv 0 16] (.reg [Mv 17 2,Bi 18 .add 17 8,Mv 2 18])) .skip)) (Sr [Mv 19 2,Mv 20 0,iv 21 (.i2i .u8 (.t 20)),iv 22 (.idxS (.k (.str zcG)) (.t 21)),iv 23 (.i2i .i64 (.t 22)),Bt 24 .add 19 23,Mv 2 24] .ret))))
def xu:aZ:=⟨25,bU,[.tmp 2],none⟩
def de:AC:=.seq (Sr [Mv 16 6,Bi 17 .lss 16 64] (Cd 17 .skip (.exit 4))) (.seq (.blk 5 (.draw [Dm 20 4,Dm 21 5,Dm 22 6,Dm 23 4,Dm 24 5,Dm 25 6,Dv 26 (.iadr (some 5) 320 (.t 1) (.t 23)) [1,23],Dv 27 (.iadr (some 5) 64 (.t 26) (.t 24)) [26,24],Dv 28 (.iadr (some 64) 1 (.t 27) (.t 25)) [27,25],Dl 29 28,Dm 30 4,Dv 31 (.bin .add (.t 30) (K0 1)) [30],Dv 32 (.bin .rem (.t 31) (K0 5)) [31],Dm 33 5,Dm 34 6,Dv 35 (.iadr (some 5) 320 (.t 1) (.t 32)) [1,32],Dv 36 (.iadr (some 5) 64 (.t 35) (.t 33)) [35,33],Dv 37 (.iadr (some 64) 1 (.t 36) (.t 34)) [36,34],Dl 38 37,Dv 39 (.un .not (.t 38)) [38],Dm 40 39,Gm 41 4 40 true,Gv 42 (.bin .add (.t 41) (K0 2)) 40 true [41,40],Gv 43 (.bin .rem (.t 42) (K0 5)) 40 true [42,40],Gm 44 5 40 true,Gm 45 6 40 true,Gv 46 (.iadr (some 5) 320 (.t 1) (.t 43)) 40 true [1,43,40],Gv 47 (.iadr (some 5) 64 (.t 46) (.t 44)) 40 true [46,44,40],Gv 48 (.iadr (some 64) 1 (.t 47) (.t 45)) 40 true [47,45,40],Gl 49 48 40 true,Dv 50 (.pick (.t 40) (.t 49) (.k (.bool false))) [40,49],Dv 51 (.eq .bool true (.t 29) (.t 50)) [29,50],Dv 52 (.iadr (some 5) 320 (.t 3) (.t 20)) [3,20],Dv 53 (.iadr (some 5) 64 (.t 52) (.t 21)) [52,21],Dv 54 (.iadr (some 64) 1 (.t 53) (.t 22)) [53,22],Dn (.st 1 (.t 54) (.t 51)) [54,51]])) (.reg [Mv 18 6,Bi 19 .add 18 1,Mv 6 19]))
def eg:AC:=.seq (Sr [Mv 12 5,Bi 13 .lss 12 5] (Cd 13 .skip (.exit 2))) (.seq (.blk 3 (Sr [Mk 6 0] (.blk 4 (.loop de)))) (.reg [Mv 14 5,Bi 15 .add 14 1,Mv 5 15]))
def fF:AC:=.seq (Sr [Mv 8 4,Bi 9 .lss 8 5] (Cd 9 .skip (.exit 0))) (.seq (.blk 1 (Sr [Mk 5 0] (.blk 2 (.loop eg)))) (.reg [Mv 10 4,Bi 11 .add 10 1,Mv 4 11]))
def qu:AC:=Sr [iv 1 (.boxv (.t 0)),ic 2 (.alloc (aL (.bool false) 1600))] (Sr [iv 7 (.build (aL (.bool false) 1600) []),ic 3 (.alloc (aL (.bool false) 1600)),Sv 1600 3 7] (.seq (Sr [Mk 4 0] (.blk 0 (.loop fF))) (Sr [Lt 55 1600 3,Sv 1600 2 55] .ret)))
def xw:aZ:=⟨56,qu,[.cell 2 1600 true],none⟩
def eX:AC:=.seq (Sr [Mv 11 5,Bi 12 .lss 11 5] (Cd 12 .skip (.exit 2))) (.seq (.blk 3 (.draw [Dm 15 5,Dm 16 4,Dv 17 (.bin .mul (K0 2) (.t 16)) [16],Dm 18 5,Dv 19 (.bin .mul (K0 3) (.t 18)) [18],Dv 20 (.bin .add (.t 17) (.t 19)) [17,19],Dv 21 (.bin .rem (.t 20) (K0 5)) [20],Dm 22 4,Dm 23 5,Dv 24 (.iadr (some 5) 320 (.t 1) (.t 22)) [1,22],Dv 25 (.iadr (some 5) 64 (.t 24) (.t 23)) [24,23],Dr 26 (.ld 64 true (.t 25)) [25] 0 0,Dv 27 (.iadr (some 5) 320 (.t 3) (.t 15)) [3,15],Dv 28 (.iadr (some 5) 64 (.t 27) (.t 21)) [27,21],Dn (.st 64 (.t 28) (.t 26)) [28,26]])) (.reg [Mv 13 5,Bi 14 .add 13 1,Mv 5 14]))
def gF:AC:=.seq (Sr [Mv 7 4,Bi 8 .lss 7 5] (Cd 8 .skip (.exit 0))) (.seq (.blk 1 (Sr [Mk 5 0] (.blk 2 (.loop eX)))) (.reg [Mv 9 4,Bi 10 .add 9 1,Mv 4 10]))
def si:AC:=Sr [iv 1 (.boxv (.t 0)),ic 2 (.alloc (aL (.bool false) 1600))] (Sr [iv 6 (.build (aL (.bool false) 1600) []),ic 3 (.alloc (aL (.bool false) 1600)),Sv 1600 3 6] (.seq (Sr [Mk 4 0] (.blk 0 (.loop gF))) (Sr [Lt 29 1600 3,Sv 1600 2 29] .ret)))
def zh:aZ:=⟨30,si,[.cell 2 1600 true],none⟩
def eh:AC:=.seq (Sr [Mv 18 7,Bi 19 .lss 18 64] (Cd 19 .skip (.exit 2))) (.seq (.blk 3 (.draw [Dm 22 4,Dm 23 5,Dm 24 7,Dm 25 6,Dv 26 (.bin .add (.t 25) (K0 1)) [25],Dm 27 6,Dv 28 (.bin .add (.t 27) (K0 2)) [27],Dv 29 (.bin .mul (.t 26) (.t 28)) [26,28],Dv 30 (.bin .quo (.t 29) (K0 2)) [29],Dv 31 (.bin .add (.t 24) (.t 30)) [24,30],Dv 32 (.bin .rem (.t 31) (K0 64)) [31],Dm 33 4,Dm 34 5,Dm 35 7,Dv 36 (.iadr (some 5) 320 (.t 1) (.t 33)) [1,33],Dv 37 (.iadr (some 5) 64 (.t 36) (.t 34)) [36,34],Dv 38 (.iadr (some 64) 1 (.t 37) (.t 35)) [37,35],Dl 39 38,Dv 40 (.iadr (some 5) 320 (.t 3) (.t 22)) [3,22],Dv 41 (.iadr (some 5) 64 (.t 40) (.t 23)) [40,23],Dv 42 (.iadr (some 64) 1 (.t 41) (.t 32)) [41,32],Dn (.st 1 (.t 42) (.t 39)) [42,39]])) (.reg [Mv 20 7,Bi 21 .add 20 1,Mv 7 21]))
def fG:AC:=.seq (Sr [Mv 14 6,Bi 15 .lss 14 24] (Cd 15 .skip (.exit 0))) (.seq (.blk 1 (.seq (Sr [Mk 7 0] (.blk 2 (.loop eh))) (.reg [Mv 43 5,Mv 44 4,iv 45 (.bin .mul (K0 2) (.t 44)),Mv 46 5,iv 47 (.bin .mul (K0 3) (.t 46)),Bt 48 .add 45 47,Bi 49 .rem 48 5,Mv 4 43,Mv 5 49]))) (.reg [Mv 16 6,Bi 17 .add 16 1,Mv 6 17]))
def qv:AC:=Sr [iv 1 (.boxv (.t 0)),ic 2 (.alloc (aL (.bool false) 1600))] (Sr [iv 8 (.build (aL (.bool false) 1600) []),ic 3 (.alloc (aL (.bool false) 1600)),Sv 1600 3 8] (Sr [iv 9 (.iadr (some 5) 320 (.t 1) (K0 0)),iv 10 (.iadr (some 5) 64 (.t 9) (K0 0)),Lt 11 64 10,iv 12 (.iadr (some 5) 320 (.t 3) (K0 0)),iv 13 (.iadr (some 5) 64 (.t 12) (K0 0)),Sv 64 13 11] (Sr [Mk 4 1,Mk 5 0] (.seq (Sr [Mk 6 0] (.blk 0 (.loop fG))) (Sr [Lt 50 1600 3,Sv 1600 2 50] .ret)))))
def xz:aZ:=⟨51,qv,[.cell 2 1600 true],none⟩
def aS:AC:=.seq (Sr [Mv 22 7,Bi 23 .lss 22 5] (Cd 23 .skip (.exit 4))) (.seq (.blk 5 (Sr [Mv 26 4,Mv 27 7,Mv 28 5,iv 29 (.iadr (some 5) 320 (.t 1) (.t 26)),iv 30 (.iadr (some 5) 64 (.t 29) (.t 27)),iv 31 (.iadr (some 64) 1 (.t 30) (.t 28)),Ld 32 31] (Cd 32 (.reg [Mv 33 6,Bi 34 .add 33 1,Mv 6 34]) .skip))) (.reg [Mv 24 7,Bi 25 .add 24 1,Mv 7 25]))
def bh:AC:=.seq (Sr [Mv 18 5,Bi 19 .lss 18 64] (Cd 19 .skip (.exit 2))) (.seq (.blk 3 (Sr [Mk 6 0] (.seq (Sr [Mk 7 0] (.blk 4 (.loop aS))) (.reg [Mv 35 4,Mv 36 5,Mv 37 6,Bi 38 .rem 37 2,Bi 39 .eql 38 1,iv 40 (.iadr (some 5) 64 (.t 3) (.t 35)),iv 41 (.iadr (some 64) 1 (.t 40) (.t 36)),Sx 41 39])))) (.reg [Mv 20 5,Bi 21 .add 20 1,Mv 5 21]))
def bF:AC:=.seq (Sr [Mv 14 4,Bi 15 .lss 14 5] (Cd 15 .skip (.exit 0))) (.seq (.blk 1 (Sr [Mk 5 0] (.blk 2 (.loop bh)))) (.reg [Mv 16 4,Bi 17 .add 16 1,Mv 4 17]))
def bY:AC:=.seq (Sr [Mv 51 11,Bi 52 .lss 51 64] (Cd 52 .skip (.exit 10))) (.seq (.blk 11 (.seq (.draw [Dm 55 9,Dv 56 (.bin .add (.t 55) (K0 4)) [55],Dv 57 (.bin .rem (.t 56) (K0 5)) [56],Dm 58 11,Dv 59 (.iadr (some 5) 64 (.t 3) (.t 57)) [3,57],Dv 60 (.iadr (some 64) 1 (.t 59) (.t 58)) [59,58],Dl 61 60,Dm 62 9,Dv 63 (.bin .add (.t 62) (K0 1)) [62],Dv 64 (.bin .rem (.t 63) (K0 5)) [63],Dm 65 11,Dv 66 (.bin .add (.t 65) (K0 63)) [65],Dv 67 (.bin .rem (.t 66) (K0 64)) [66],Dv 68 (.iadr (some 5) 64 (.t 3) (.t 64)) [3,64],Dv 69 (.iadr (some 64) 1 (.t 68) (.t 67)) [68,67],Dl 70 69,Dv 71 (.eq .bool true (.t 61) (.t 70)) [61,70],Dm 12 71]) (.draw [Dm 72 9,Dm 73 10,Dm 74 11,Dm 75 9,Dm 76 10,Dm 77 11,Dv 78 (.iadr (some 5) 320 (.t 1) (.t 75)) [1,75],Dv 79 (.iadr (some 5) 64 (.t 78) (.t 76)) [78,76],Dv 80 (.iadr (some 64) 1 (.t 79) (.t 77)) [79,77],Dl 81 80,Dm 82 12,Dv 83 (.eq .bool true (.t 81) (.t 82)) [81,82],Dv 84 (.iadr (some 5) 320 (.t 8) (.t 72)) [8,72],Dv 85 (.iadr (some 5) 64 (.t 84) (.t 73)) [84,73],Dv 86 (.iadr (some 64) 1 (.t 85) (.t 74)) [85,74],Dn (.st 1 (.t 86) (.t 83)) [86,83]]))) (.reg [Mv 53 11,Bi 54 .add 53 1,Mv 11 54]))
def dh:AC:=.seq (Sr [Mv 47 10,Bi 48 .lss 47 5] (Cd 48 .skip (.exit 8))) (.seq (.blk 9 (Sr [Mk 11 0] (.blk 10 (.loop bY)))) (.reg [Mv 49 10,Bi 50 .add 49 1,Mv 10 50]))
def eG:AC:=.seq (Sr [Mv 43 9,Bi 44 .lss 43 5] (Cd 44 .skip (.exit 6))) (.seq (.blk 7 (Sr [Mk 10 0] (.blk 8 (.loop dh)))) (.reg [Mv 45 9,Bi 46 .add 45 1,Mv 9 46]))
def oI:AC:=Sr [iv 1 (.boxv (.t 0)),ic 2 (.alloc (aL (.bool false) 1600))] (Sr [iv 13 (.build (aL (.bool false) 320) []),ic 3 (.alloc (aL (.bool false) 320)),Sv 320 3 13] (.seq (Sr [Mk 4 0] (.blk 0 (.loop bF))) (Sr [iv 42 (.build (aL (.bool false) 1600) []),ic 8 (.alloc (aL (.bool false) 1600)),Sv 1600 8 42] (.seq (Sr [Mk 9 0] (.blk 6 (.loop eG))) (Sr [Lt 87 1600 8,Sv 1600 2 87] .ret)))))
def uK:aZ:=⟨88,oI,[.cell 2 1600 true],none⟩
def cS:AC:=.seq (Sr [Mv 14 5,Bi 15 .lss 14 7] (Cd 15 .skip (.exit 0))) (.seq (.blk 1 (Sr [Mv 18 4,Bi 19 .sub 18 1,Mv 20 5,Mv 21 0,iv 22 (.bin .mul (K0 7) (.t 21)),Bt 23 .add 20 22,Cr 24 nZ [.t 23],iv 25 (.iadr (some 64) 1 (.t 3) (.t 19)),Sx 25 24] (.reg [Mv 26 4,Bi 27 .mul 26 2,Mv 4 27]))) (.reg [Mv 16 5,Bi 17 .add 16 1,Mv 5 17]))
def ls:AC:=Sr [ic 2 (.alloc (aL (.bool false) 64))] (Sr [iv 6 (.build (aL (.bool false) 64) []),ic 3 (.alloc (aL (.bool false) 64)),Sv 64 3 6] (.seq (Sr [Mv 7 0,Bi 8 .lss 7 0,Mv 9 8,Gv 10 (.mv (.t 0)) 9 false [],Gv 11 (.bin .gtr (.t 10) (K0 23)) 9 false [],iv 12 (.pick (.t 9) (.k (.bool true)) (.t 11))] (Cd 12 (Sr [Lt 13 64 3,Sv 64 2 13] .ret) .skip)) (Sr [Mk 4 1] (.seq (Sr [Mk 5 0] (.blk 0 (.loop cS))) (Sr [Lt 28 64 3,Sv 64 2 28] .ret)))))
def qx:aZ:=⟨29,ls,[.cell 2 64 true],none⟩
def gU:AC:=Sr [Mk 4 0] (Sr [Mv 7 0,Cr 8 jP [.t 7],Mv 5 8] (Sr [Mv 9 1,Cr 10 jP [.t 9],Mv 6 10] (.seq (Sr [Mv 11 5] (Cd 11 (.seq (Sr [Mv 12 6] (Cd 12 (Sr [Mk 4 0] .ret) .skip)) (Sr [Mk 4 (-1)] .ret)) .skip)) (.seq (Sr [Mv 13 6] (Cd 13 (Sr [Mk 4 1] .ret) .skip)) (.seq (Sr [Mv 14 0,Mv 15 1,Bt 16 .lss 14 15] (Cd 16 (Sr [Mk 4 (-1)] .ret) .skip)) (.seq (Sr [Mv 17 0,Mv 18 1,Bt 19 .gtr 17 18] (Cd 19 (Sr [Mk 4 1] .ret) .skip)) (Sr [Mk 4 0] .ret)))))))
def uL:aZ:=⟨20,gU,[.tmp 4],none⟩
def EJ:AC:=Sr [iv 4 (.mv (.k (U0)))] (.seq (Sr [Mv 5 1,Mv 6 0,iv 7 (.lenL (.t 6)),Bt 8 .lss 5 7] (Cd 8 (Sr [Mv 9 0,Mv 10 1,Ia 11 9 10,Ld 12 11,Mv 4 12] .ret) .skip)) (Sr [iv 4 (.mv (.k (U0)))] .ret))
def P6:aZ:=⟨13,EJ,[.tmp 4],none⟩
def aM:AC:=Sr [Bt 34 .lss 33 32] (.seq (Cd 34 .skip (.exit 2)) (.seq (.blk 3 (Sr [Mv 35 33,Ia 36 31 33,Ld 37 36,Mv 13 35,Mv 14 37] (.reg [Mv 39 8,Mv 40 13,Mv 41 8,Mv 42 13,Ia 43 41 42,Ld 44 43,Mv 45 10,Mv 46 14,Mv 47 11,Cr 48 pP [.t 44,.t 45,.t 46,.t 47],Mv 38 48,Ex 49 38 0,Ex 50 38 1,Ia 51 39 40,Sx 51 49,Mv 11 50]))) (.reg [Bi 52 .add 33 1,Mv 33 52])))
def bG:AC:=.seq (Sr [Mv 92 16,Mv 93 7,Bt 94 .lss 92 93] (Cd 94 .skip (.exit 4))) (.seq (.blk 5 (.draw [Dm 98 8,Dm 99 16,Dv 100 (.bin .sub (.t 99) (K0 1)) [99],Dm 101 8,Dm 102 16,Dv 103 (.iadr none 1 (.t 101) (.t 102)) [101,102],Dl 104 103,Dm 105 15,Dm 106 0,Dk 107 106,Df 108 0 107,Dl 109 108,Dm 110 16,Dv 111 (.iadr none 1 (.t 109) (.t 110)) [109,110],Dl 112 111,Dm 113 11,Dr 114 (.call pP [.t 104,.t 105,.t 112,.t 113]) [104,105,112,113] 0 0,Dm 97 114,Dv 115 (.ext (.t 97) 0) [97],Dv 116 (.ext (.t 97) 1) [97],Dv 117 (.iadr none 1 (.t 98) (.t 100)) [98,100],Dn (.st 1 (.t 117) (.t 115)) [117,115],Dm 11 116])) (.reg [Mv 95 16,Bi 96 .add 95 1,Mv 16 96]))
def bf:AC:=Sr [Bt 28 .lss 27 26] (.seq (Cd 28 .skip (.exit 0)) (.seq (.blk 1 (Sr [Ia 29 25 27,Ld 30 29,Mv 10 30] (Sr [iv 11 (.mv (.k (U0))),iv 12 (.mv (.k (U0)))] (.seq (Sr [Mv 31 2,iv 32 (.lenL (.t 31)),Mk 33 0] (.blk 2 (.loop aM))) (Sr [Mv 54 8,Mv 55 7,Mv 56 8,Mv 57 7,Ia 58 56 57,Ld 59 58,Mv 60 11,Ca 61 bR [.t 59,.t 60,.k (U0)],Mv 53 61,Ex 62 53 0,Ex 63 53 1,Ia 64 54 55,Sx 64 62,Mv 12 63] (Sr [Mv 65 8,Mv 66 7,Bi 67 .add 66 1,Mv 68 12,Ia 69 65 67,Sx 69 68] (.seq (.draw [Dm 70 8,Dv 71 (.iadr none 1 (.t 70) (K0 0)) [70],Dl 72 71,Dm 73 0,Dk 74 73,Df 75 1 74,Dl 76 75,Dv 77 (.bin .mul (.t 72) (.t 76)) [72,76],Dm 15 77]) (.seq (.draw [Dm 79 8,Dv 80 (.iadr none 1 (.t 79) (K0 0)) [79],Dl 81 80,Dm 82 15,Dm 83 0,Dk 84 83,Df 85 0 84,Dl 86 85,Dv 87 (.iadr none 1 (.t 86) (K0 0)) [86],Dl 88 87,Dr 89 (.call pP [.t 81,.t 82,.t 88,.k (U0)]) [81,82,88] 0 0,Dm 78 89,Dv 90 (.ext (.t 78) 0) [78],Dv 91 (.ext (.t 78) 1) [78],Dm 11 91]) (.seq (Sr [Mk 16 1] (.blk 4 (.loop bG))) (Sr [Mv 119 8,Mv 120 7,Bi 121 .sub 120 1,Mv 122 8,Mv 123 7,Ia 124 122 123,Ld 125 124,Mv 126 11,Ca 127 bR [.t 125,.t 126,.k (U0)],Mv 118 127,Ex 128 118 0,Ex 129 118 1,Ia 130 119 121,Sx 130 128,Mv 12 129] (.reg [Mv 131 8,Mv 132 7,Mv 133 8,Mv 134 7,Bi 135 .add 134 1,Ia 136 133 135,Ld 137 136,Mv 138 12,Bt 139 .add 137 138,Ia 140 131 132,Sx 140 139]))))))))))) (.reg [Bi 141 .add 27 1,Mv 27 141])))
def mh:AC:=Sr [iv 6 (.mv (.k (.nsl)))] (Sr [Mv 17 0,Nk 18 17,Fa 19 0 18,Ld 20 19,iv 21 (.lenL (.t 20)),Mv 7 21] (Sr [Mv 22 7,Bi 23 .add 22 2,ic 24 (.mk 1 [U0] (.t 23)),Mv 8 24] (.seq (Sr [Mv 25 1,iv 26 (.lenL (.t 25)),Mk 27 0] (.blk 0 (.loop bf))) (.seq (.draw [Dm 142 0,Dm 143 8,Dm 144 7,Dv 145 (.slice .slc 1 (.t 143) none (some (.t 144)) none) [143,144],Dm 146 8,Dm 147 7,Dv 148 (.iadr none 1 (.t 146) (.t 147)) [146,147],Dl 149 148,Dr 150 (.call fc [.t 142,.t 145,.t 149]) [142,145,149] 0 0,Dm 6 150]) .ret))))
def rD:aZ:=⟨151,mh,[.tmp 6],none⟩
def j9:AC:=Sr [iv 4 (.mv (.k (U0)))] (Sr [Mv 6 1,iv 7 (.i2i .u64 (.t 6)),iv 8 (.bin .and (.t 7) (.k (.int .u64 63))),Mv 5 8] (Sr [Mv 9 0,Mv 10 5,Bt 11 .shl 9 10,Mv 12 0,Mv 13 5,iv 14 (.bin .sub (.k (.int .u64 64)) (.t 13)),Bt 15 .shr 12 14,Bt 16 .or 11 15,Mv 4 16] .ret))
def o0:aZ:=⟨17,j9,[.tmp 4],none⟩
def GW:AC:=Sr [iv 4 (.mv (.k (.nsl))),iv 5 (.mv (.k (U0)))] (Sr [Mv 6 0,Mv 7 1,ir 8 (.call xe [.t 6,.t 7,.k (.fn (.func gx) [] [])]),Ex 9 8 0,Ex 10 8 1,Mv 4 9,Mv 5 10] .ret)
def MN:aZ:=⟨11,GW,[.tmp 4,.tmp 5],none⟩
def eY:AC:=Sr [Bt 21 .lss 20 19] (.seq (Cd 21 .skip (.exit 2)) (.seq (.blk 3 (Sr [Ia 22 18 20,Ld 23 22,Mv 6 23] (Sr [Mv 24 3,Mv 25 6,Bt 26 .quo 24 25,Bi 27 .rem 26 2,Bi 28 .eql 27 1] (Cd 28 (.reg [Mv 29 3,Mv 30 6,Bt 31 .sub 29 30,Mv 3 31]) (.reg [Mv 32 3,Mv 33 6,Bt 34 .add 32 33,Mv 3 34]))))) (.reg [Bi 35 .add 20 1,Mv 20 35])))
def jR:AC:=.seq (Sr [Mv 7 4,Mv 8 0,Bt 9 .lss 7 8] (Cd 9 .skip (.exit 0))) (.seq (.blk 1 (Sr [Mv 12 3,Bi 13 .mul 12 2,Mv 3 13] (Sr [Mv 14 3,Bi 15 .geq 14 256] (Cd 15 (Sr [Mv 16 3,Bi 17 .sub 16 256,Mv 3 17] (Sr [iv 18 (.slit 1 4 [I0] [(0,K0 64),(1,K0 32),(2,K0 16),(3,K0 1)]),iv 19 (.lenL (.t 18)),Mk 20 0] (.blk 2 (.loop eY)))) .skip)))) (.reg [Mv 10 4,Bi 11 .add 10 1,Mv 4 11]))
def sk:AC:=Sr [iv 2 (.mv (.k (.bool false)))] (Sr [Mk 3 1] (.seq (Sr [Mk 4 0] (.blk 0 (.loop jR))) (Sr [Mv 36 3,Bi 37 .rem 36 2,Bi 38 .eql 37 1,Mv 2 38] .ret)))
def zk:aZ:=⟨39,sk,[.tmp 2],none⟩
def qz:AC:=Sr [iv 2 (.mv (.k (.bool false)))] (Sr [Mv 3 0,Mv 4 0,Bt 5 .neq 3 4,Mv 2 5] .ret)
def xA:aZ:=⟨6,qz,[.tmp 2],none⟩
def DD:AC:=Sr [iv 8 (.mv (.k (U0))),iv 9 (.mv (.k (U0)))] (Sr [Mv 14 1,Mv 15 2,Cr 16 jI [.t 14,.t 15],Mv 13 16,Ex 17 13 0,Ex 18 13 1,Mv 10 17,Mv 11 18] (Sr [Mv 20 11,Mv 21 0,Ca 22 bR [.t 20,.t 21,.k (U0)],Mv 19 22,Ex 23 19 0,Ex 24 19 1,Mv 11 23,Mv 12 24] (Sr [Mv 25 10,Mv 26 12,Bt 27 .add 25 26,Mv 10 27] (Sr [Mv 29 11,Mv 30 3,Ca 31 bR [.t 29,.t 30,.k (U0)],Mv 28 31,Ex 32 28 0,Ex 33 28 1,Mv 11 32,Mv 12 33] (Sr [Mv 34 11,Mv 35 10,Mv 36 12,Bt 37 .add 35 36,Mv 8 34,Mv 9 37] .ret)))))
def Kn:aZ:=⟨38,DD,[.tmp 8,.tmp 9],none⟩
def n9:AC:=Sr [Bt 20 .lss 19 18] (.seq (Cd 20 .skip (.exit 0)) (.seq (.blk 1 (Sr [Mv 21 19,Mv 10 21] (.reg [Mv 23 8,Mv 24 10,Mv 25 2,Mv 26 0,Mv 27 10,Cr 28 rW [.t 26,.t 27],Mv 29 1,Mv 30 10,Cr 31 rW [.t 29,.t 30],Mv 32 9,ic 33 (.callv (.t 25) [.t 28,.t 31,.t 32]),Mv 22 33,Ex 34 22 0,Ex 35 22 1,Ia 36 23 24,Sx 36 34,Mv 9 35]))) (.reg [Bi 37 .add 19 1,Mv 19 37])))
def DF:AC:=Sr [iv 6 (.mv (.k (.nsl))),iv 7 (.mv (.k (U0)))] (Sr [Mv 11 0,iv 12 (.lenL (.t 11)),Mv 13 1,iv 14 (.lenL (.t 13)),iv 15 (.mxmn true [.t 12,.t 14]),ic 16 (.mk 1 [U0] (.t 15)),Mv 8 16] (Sr [iv 9 (.mv (.k (U0)))] (.seq (Sr [Mv 17 8,iv 18 (.lenL (.t 17)),Mk 19 0] (.blk 0 (.loop n9))) (Sr [Mv 38 8,Mv 39 9,Mv 6 38,Mv 7 39] .ret))))
def Ko:aZ:=⟨40,DF,[.tmp 6,.tmp 7],none⟩
def iW:AC:=Sr [iv 2 (.boxv (.t 0)),iv 4 (.mv (.k (.nsl)))] (Sr [Fa 5 0 2,Ld 6 5,Mv 7 1,Ca 8 cR [.t 6,.t 7],Mv 4 8] .ret)
def nE:aZ:=⟨9,iW,[.tmp 4],none⟩
def iw:AC:=Sr [iv 2 (.boxv (.t 0)),iv 4 (.mv (.k (.nsl))),Mk 5 0] (Sr [Mv 10 1,Lt 11 1 2,iv 12 (.mkfn (.func dm) [.t 11] []),Ca 13 pl [.t 10,.t 12],Mv 9 13,Ex 14 9 0,Ex 15 9 1,Ex 16 9 2,Mv 6 14,Mv 7 15,Mv 8 16] (Sr [Mv 17 6,Mv 18 8,Mv 4 17,Mv 5 18] .ret))
def mR:aZ:=⟨19,iw,[.tmp 4,.tmp 5],none⟩
def jv:AC:=Sr [iv 2 (.boxv (.t 0)),iv 3 (.boxv (.t 1))] (.draw [Df 4 0 2,Dl 5 4,Dr 6 (.ld 4 true (.t 3)) [3] 0 0,Dr 7 (.call od [.t 6]) [6] 0 0,Dc 8 (.call eZ [.t 5,.t 7]) [5,7]])
def ot:aZ:=⟨9,jv,[],none⟩
def iY:AC:=Sr [iv 1 (.boxv (.t 0)),ic 2 (.alloc (aL (B0) 32))] (Sr [Fa 3 0 1,Ld 4 3,Ca 5 cR [.t 4,K0 32],iv 6 (.s2a 32 (.t 5)),Lt 7 32 6,Sv 32 2 7] .ret)
def nF:aZ:=⟨8,iY,[.cell 2 32 true],none⟩
def lu:AC:=Sr [iv 2 (.boxv (.t 0))] (Sr [Mv 8 1,Cr 9 oe [.t 8],Mv 7 9,Ex 10 7 0,Ex 11 7 1,ic 4 (.alloc (aL (U0) 25)),Sv 25 4 10,Mv 5 11] (.seq (Sr [Mv 12 5,Bi 13 .neq 12 0] (Cd 13 .ret .skip)) (Sr [Lt 14 25 4,Cr 15 dy [.t 14],Cr 16 fT [.t 15],ic 6 (.alloc (aL (B0) 200)),Sv 200 6 16] (.reg [Mv 17 1,iv 18 (.slice (.arr 200) 1 (.t 6) none none none),ic 19 (.copy 1 (.t 17) (.t 18))]))))
def qE:aZ:=⟨20,lu,[],none⟩
def oJ:AC:=Sr [iv 1 (.boxv (.t 0)),Mk 2 0] (Sr [Mk 2 136] .ret)
def uM:aZ:=⟨3,oJ,[.tmp 2],none⟩
def nG:AC:=Sr [iv 1 (.boxv (.t 0)),Mk 2 0] (Sr [Mk 2 200] .ret)
def tM:aZ:=⟨3,nG,[.tmp 2],none⟩
def su:AC:=Sr [ic 2 (.alloc (aL (U0) 25)),Mk 3 0] (.seq (Sr [Mv 4 0,iv 5 (.lenL (.t 4)),Bi 6 .neq 5 200] (Cd 6 (Sr [iv 7 (.build (aL (U0) 25) []),Sv 25 2 7,Mk 3 1] .ret) .skip)) (Sr [Mv 8 0,Cr 9 nR [.t 8],iv 10 (.s2a 25 (.t 9)),Lt 11 25 10,Sv 25 2 11,Mk 3 0] .ret))
def yU:aZ:=⟨12,su,[.cell 2 25 true,.tmp 3],none⟩
def Jo:AC:=.reg [iv 0 (.build (aL (U0) 24) [(0,1,.k (.int .u64 1)),(1,1,.k (.int .u64 32898)),(2,1,.k (.int .u64 9223372036854808714)),(3,1,.k (.int .u64 9223372039002292224)),(4,1,.k (.int .u64 32907)),(5,1,.k (.int .u64 2147483649)),(6,1,.k (.int .u64 9223372039002292353)),(7,1,.k (.int .u64 9223372036854808585)),(8,1,.k (.int .u64 138)),(9,1,.k (.int .u64 136)),(10,1,.k (.int .u64 2147516425)),(11,1,.k (.int .u64 2147483658)),(12,1,.k (.int .u64 2147516555)),(13,1,.k (.int .u64 9223372036854775947)),(14,1,.k (.int .u64 9223372036854808713)),(15,1,.k (.int .u64 9223372036854808579)),(16,1,.k (.int .u64 9223372036854808578)),(17,1,.k (.int .u64 9223372036854775936)),(18,1,.k (.int .u64 32778)),(19,1,.k (.int .u64 9223372039002259466)),(20,1,.k (.int .u64 9223372039002292353)),(21,1,.k (.int .u64 9223372036854808704)),(22,1,.k (.int .u64 2147483649)),(23,1,.k (.int .u64 9223372039002292232))]),jc (.st 24 (.g 0) (.t 0))]
def yW:aZ:=⟨1,Jo,[],none⟩
def zdB:FuncId->Option aZ
 | 7=>some kU
 | 9=>some sY
 | 10=>some pL
 | 11=>some yC
 | 12=>some ur
 | 15=>some mw
 | 17=>some kK
 | 18=>some my
 | 19=>some m8
 | 20=>some FG
 | 21=>some m9
 | 22=>some yE
 | 24=>some mB
 | 25=>some mC
 | 26=>some BH
 | 28=>some ri
 | 29=>some kV
 | 30=>some oo
 | 31=>some wW
 | 32=>some ut
 | 33=>some kN
 | 34=>some kf
 | 35=>some s9
 | 36=>some J7
 | 37=>some Po
 | 38=>some uu
 | 40=>some uv
 | 41=>some uw
 | 42=>some ux
 | 43=>some jr
 | 44=>some kg
 | 45=>some vr
 | 47=>some td
 | 48=>some yV
 | 49=>some BM
 | 50=>some BN
 | 51=>some mW
 | 52=>some xf
 | 53=>some Db
 | 54=>some rp
 | 55=>some HU
 | 57=>some xg
 | 58=>some vI
 | 59=>some uF
 | 60=>some Dh
 | 61=>some lQ
 | 62=>some Dp
 | 63=>some tu
 | 64=>some BO
 | 65=>some uH
 | 66=>some HW
 | 67=>some jt
 | 71=>some vN
 | 72=>some vO
 | 73=>some vP
 | 74=>some tz
 | 75=>some y8
 | 76=>some HY
 | 77=>some FN
 | 78=>some xj
 | 79=>some BP
 | 83=>some xn
 | 84=>some xo
 | 85=>some rq
 | 87=>some tB
 | 88=>some rE
 | 89=>some pT
 | 90=>some xB
 | 91=>some rG
 | 92=>some tN
 | 93=>some FT
 | 94=>some vZ
 | 95=>some BR
 | 96=>some FU
 | 97=>some FV
 | 98=>some uN
 | 99=>some xE
 | 103=>some rH
 | 104=>some xF
 | 105=>some BS
 | 106=>some v7
 | 107=>some tP
 | 108=>some Io
 | 109=>some o9
 | 110=>some Iq
 | 111=>some DS
 | 112=>some FX
 | 113=>some FY
 | 114=>some BU
 | 115=>some Iu
 | _=>none
def zdC:FuncId->Option aZ
 | 117=>some FZ
 | 123=>some v9
 | 124=>some uO
 | 125=>some xG
 | 126=>some qR
 | 129=>some wh
 | 130=>some wi
 | 131=>some wj
 | 132=>some pf
 | 135=>some uP
 | 136=>some zJ
 | 137=>some mY
 | 139=>some tT
 | 140=>some Ky
 | 141=>some xI
 | 142=>some xJ
 | 143=>some IH
 | 144=>some tU
 | 145=>some wl
 | 146=>some p6
 | 147=>some F3
 | 148=>some xK
 | 149=>some qV
 | 150=>some tV
 | 151=>some NO
 | 152=>some rI
 | 153=>some xL
 | 154=>some wo
 | 155=>some BX
 | 156=>some wu
 | 157=>some xM
 | 158=>some rJ
 | 160=>some IL
 | 161=>some xN
 | 163=>some tX
 | 164=>some xO
 | 165=>some xP
 | 166=>some uy
 | 167=>some rj
 | 168=>some rl
 | 170=>some vt
 | 171=>some vu
 | 172=>some oP
 | 173=>some rm
 | 176=>some oQ
 | 178=>some uz
 | 179=>some tf
 | 180=>some Hz
 | 181=>some yL
 | 182=>some BK
 | 183=>some yM
 | 184=>some yN
 | 185=>some J8
 | 186=>some th
 | 187=>some mF
 | 188=>some ti
 | 189=>some J9
 | 194=>some yQ
 | 195=>some rn
 | 196=>some uA
 | 197=>some uC
 | 202=>some uD
 | 203=>some uE
 | 204=>some Kb
 | 205=>some HJ
 | 206=>some Mj
 | 207=>some tn
 | 208=>some PD
 | 209=>some vR
 | 210=>some tD
 | 211=>some tE
 | 212=>some vT
 | 213=>some xr
 | 214=>some uJ
 | 215=>some xu
 | 220=>some xw
 | 221=>some zh
 | 222=>some xz
 | 223=>some uK
 | 224=>some qx
 | 230=>some uL
 | 231=>some P6
 | 232=>some rD
 | 233=>some o0
 | 234=>some MN
 | 235=>some zk
 | 240=>some xA
 | 241=>some Kn
 | 242=>some Ko
 | 260=>some nE
 | _=>none
def zdD:FuncId->Option aZ
 | 261=>some mR
 | 262=>some ot
 | 263=>some nF
 | 282=>some qE
 | 283=>some uM
 | 284=>some tM
 | 285=>some yU
 | 343=>some yW
 | _=>none
def orA (x y:Option aZ):Option aZ:=match x with
 | some F=>some F
 | none=>y
def zoo (f:FuncId):Option aZ:=orA (zdB f) (orA (zdC f) (zdD f))
theorem zdI {x y:Option aZ}{F:aZ}(h:orA x y=some F):x=some F\/y=some F:=by
 unfold orA at h;split at h
 ·exact .inl h
 ·exact .inr h
def zoq:FuncId->Av.Mode
 | 11=>⟨false,false,true,false⟩
 | 13=>⟨false,false,false,false⟩
 | 15=>⟨false,false,false,false⟩
 | 17=>⟨false,false,false,false⟩
 | 20=>⟨false,false,true,false⟩
 | 21=>⟨false,false,false,false⟩
 | 24=>⟨false,false,false,false⟩
 | 25=>⟨false,false,false,false⟩
 | 26=>⟨false,false,false,false⟩
 | 33=>⟨false,false,false,false⟩
 | 34=>⟨false,false,false,false⟩
 | 36=>⟨false,false,true,false⟩
 | 39=>⟨false,false,true,false⟩
 | 43=>⟨false,false,false,false⟩
 | 44=>⟨false,false,false,false⟩
 | 45=>⟨false,false,false,false⟩
 | 47=>⟨false,false,false,false⟩
 | 49=>⟨false,false,true,false⟩
 | 51=>⟨false,false,false,false⟩
 | 53=>⟨false,false,false,false⟩
 | 55=>⟨true,false,false,false⟩
 | 58=>⟨false,false,false,false⟩
 | 61=>⟨false,false,false,false⟩
 | 63=>⟨true,true,false,true⟩
 | 67=>⟨true,false,false,false⟩
 | 68=>⟨false,false,true,false⟩
 | 69=>⟨false,false,true,false⟩
 | 74=>⟨false,false,false,false⟩
 | 75=>⟨false,false,true,false⟩
 | 94=>⟨false,false,false,false⟩
 | 98=>⟨false,false,false,false⟩
 | 100=>⟨false,false,true,false⟩
 | 101=>⟨false,false,true,false⟩
 | 103=>⟨true,false,false,false⟩
 | 104=>⟨true,false,false,false⟩
 | 110=>⟨true,false,false,false⟩
 | 119=>⟨false,false,false,true⟩
 | 123=>⟨true,false,false,false⟩
 | 144=>⟨false,false,false,false⟩
 | 145=>⟨false,false,false,false⟩
 | 146=>⟨true,false,false,false⟩
 | 147=>⟨false,false,false,true⟩
 | 148=>⟨false,false,false,false⟩
 | 151=>⟨true,false,false,false⟩
 | 152=>⟨true,false,false,false⟩
 | 153=>⟨true,false,false,false⟩
 | 166=>⟨false,false,true,false⟩
 | 176=>⟨false,false,true,false⟩
 | 187=>⟨true,false,false,false⟩
 | 188=>⟨true,false,false,false⟩
 | 189=>⟨true,false,false,false⟩
 | 206=>⟨true,false,false,false⟩
 | 207=>⟨true,false,false,false⟩
 | 209=>⟨true,false,false,false⟩
 | 214=>⟨true,false,false,false⟩
 | 231=>⟨true,false,false,false⟩
 | 232=>⟨true,false,false,false⟩
 | 234=>⟨true,false,false,false⟩
 | 242=>⟨true,false,false,false⟩
 | 260=>⟨false,false,false,false⟩
 | 261=>⟨false,false,false,false⟩
 | 262=>⟨false,false,false,false⟩
 | 263=>⟨false,false,false,false⟩
 | 264=>⟨false,false,false,false⟩
 | 266=>⟨false,false,false,false⟩
 | 267=>⟨false,false,false,false⟩
 | 268=>⟨false,false,false,false⟩
 | 269=>⟨false,false,false,false⟩
 | 270=>⟨false,false,false,false⟩
 | 271=>⟨false,false,false,false⟩
 | 272=>⟨false,false,false,false⟩
 | 273=>⟨false,false,false,false⟩
 | 282=>⟨false,false,false,false⟩
 | 286=>⟨false,false,false,false⟩
 | 287=>⟨false,false,false,false⟩
 | 288=>⟨false,false,false,false⟩
 | 289=>⟨false,false,false,false⟩
 | 295=>⟨false,false,true,false⟩
 | 296=>⟨false,false,false,false⟩
 | 305=>⟨false,false,false,false⟩
 | 306=>⟨false,false,false,false⟩
 | 307=>⟨false,false,false,false⟩
 | 313=>⟨true,false,false,false⟩
 | 333=>⟨false,false,false,false⟩
 | _=>Mode.pure
def zjK:Nat->Option (List J)
 | 0=>some ([.int .u64 1,.int .u64 32898,.int .u64 9223372036854808714,.int .u64 9223372039002292224,.int .u64 32907,.int .u64 2147483649,.int .u64 9223372039002292353,.int .u64 9223372036854808585,.int .u64 138,.int .u64 136,.int .u64 2147516425,.int .u64 2147483658,.int .u64 2147516555,.int .u64 9223372036854775947,.int .u64 9223372036854808713,.int .u64 9223372036854808579,.int .u64 9223372036854808578,.int .u64 9223372036854775936,.int .u64 32778,.int .u64 9223372039002259466,.int .u64 9223372039002292353,.int .u64 9223372036854808704,.int .u64 2147483649,.int .u64 9223372039002292232])
 | _=>none
def zjS:List (TypeId × String × FuncId):=[(157,"Width",gf),(157,"Rate",gY),(157,"Permute",e6),(84,"avouch/transcript.tell",dF),(84,"avouch/transcript.bytes",dk),(84,"avouch/transcript.fields",cP)]
def zef:List (TypeId × String × FuncId × Nat):=[(84,"Ratchet",cQ,0),(84,"Calls",dG,0)]
def zdO (t : TypeId)(n : String) : Option (List (Nat × Nat × Bool) × FuncId) := match (zjS.find? fun r => r.1 == t && r.2.1 == n) with
 | some r=>some ([],r.2.2)
 | none=>(zef.find? fun r=>r.1==t&&r.2.1==n).map fun r=>([(r.2.2.2,1,false)],r.2.2.1)
def zkV:FuncId->Option zaK
 | 116=>some (zdH)
 | 159=>some (zd8)
 | _=>none
def ah:eD:={fns:=zoo,mode:=zoq,glob:=zjK,meth:=zdO,ext:=zkV,qinv:=fun n=>n== "Width"||n== "Rate"||n== "Calls"}
abbrev aj (f:FuncId)(m:Mode)(n:Nat)(c:AC)(r:List Cm):Prop:=∀ (L:az) (a:List J) (h:O),Z ah L f a h=TS ah L m h n c r (o6 m h a)
theorem ab {f:FuncId}{m:Mode}{n:Nat}{c:AC}{r:List Cm}(x:ah.ext f=none)(y:ah.fns f=some ⟨n,c,r,none⟩)(z:ah.mode f=m):aj f m n c r:=fun L a h=>z ▸ zdu h L x y a
theorem E4:ah.ext bR=some (zdH):=rfl
theorem E5:ah.ext gx=some (zd8):=rfl
@[simp] theorem zdS:ah.meth 157 "Width"=some ([],gf):=rfl
@[simp] theorem zgF:ah.meth 157 "Rate"=some ([],gY):=rfl
@[simp] theorem zbD:ah.meth 157 "Permute"=some ([],e6):=rfl
@[simp] theorem zhK:ah.meth 84 "avouch/transcript.tell"=some ([],dF):=rfl
@[simp] theorem zgG:ah.meth 84 "avouch/transcript.bytes"=some ([],dk):=rfl
@[simp] theorem zdU:ah.meth 84 "avouch/transcript.fields"=some ([],cP):=rfl
@[simp] theorem zcr:ah.meth 84 "Ratchet"=some ([(0,1,false)],cQ):=rfl
@[simp] theorem zgH:ah.meth 84 "Calls"=some ([(0,1,false)],dG):=rfl
theorem qp:aj dR Mode.pure 28 bx [.tmp 6]:=ab rfl rfl rfl
@[simp] theorem Hi:U ah dR=true:=rfl
theorem y6:aj fZ Mode.pure 82 m6 [.tmp 0]:=ab rfl rfl rfl
@[simp] theorem OI:U ah fZ=true:=rfl
theorem vL:aj gG Mode.pure 35 kI [.tmp 2,.tmp 3,.tmp 4]:=ab rfl rfl rfl
@[simp] theorem Ls:U ah gG=true:=rfl
theorem uG:aj fI (⟨false,false,true,false⟩) 64 kJ [.tmp 4,.tmp 5,.tmp 6]:=ab rfl rfl rfl
@[simp] theorem T7:U ah fI=false:=rfl
theorem Az:aj kD Mode.pure 45 dI [.tmp 2]:=ab rfl rfl rfl
@[simp] theorem PR:U ah kD=true:=rfl
theorem rY:aj cN (⟨false,false,false,false⟩) 8 gZ [.tmp 2]:=ab rfl rfl rfl
@[simp] theorem IR:U ah cN=false:=rfl
theorem qa:aj dE (⟨false,false,false,false⟩) 8 fA [.tmp 2]:=ab rfl rfl rfl
@[simp] theorem GK:U ah dE=false:=rfl
theorem rZ:aj cO Mode.pure 7 hJ [.cell 2 32 true]:=ab rfl rfl rfl
@[simp] theorem IU:U ah cO=true:=rfl
theorem tw:aj dj Mode.pure 8 iM [.tmp 2]:=ab rfl rfl rfl
@[simp] theorem Jz:U ah dj=true:=rfl
theorem JA:aj sU (⟨false,false,true,false⟩) 6 xS [.tmp 2]:=ab rfl rfl rfl
@[simp] theorem YW:U ah sU=false:=rfl
theorem tx:aj eZ (⟨false,false,false,false⟩) 48 iN []:=ab rfl rfl rfl
@[simp] theorem JB:U ah eZ=false:=rfl
theorem E6:aj od Mode.pure 33 kL [.tmp 2]:=ab rfl rfl rfl
@[simp] theorem Uc:U ah od=true:=rfl
theorem r6:aj cQ (⟨false,false,false,false⟩) 22 hZ []:=ab rfl rfl rfl
@[simp] theorem IV:U ah cQ=false:=rfl
theorem r9:aj cR (⟨false,false,false,false⟩) 47 ie [.tmp 4]:=ab rfl rfl rfl
@[simp] theorem IW:U ah cR=false:=rfl
theorem GN:aj pl (⟨false,false,false,false⟩) 36 tY [.tmp 4,.tmp 5,.tmp 6]:=ab rfl rfl rfl
@[simp] theorem Vz:U ah pl=false:=rfl
theorem x9:aj ji Mode.pure 10 l8 [.cell 2 32 true]:=ab rfl rfl rfl
@[simp] theorem N9:U ah ji=true:=rfl
theorem qr:aj bZ Mode.pure 8 fS [.tmp 2]:=ab rfl rfl rfl
@[simp] theorem Hj:U ah bZ=true:=rfl
theorem ug:aj dG Mode.pure 7 ju [.tmp 2]:=ab rfl rfl rfl
@[simp] theorem Kj:U ah dG=true:=rfl
theorem tA:aj jV Mode.pure 32 mD [.tmp 4]:=ab rfl rfl rfl
@[simp] theorem SO:U ah jV=true:=rfl
theorem AF:aj kE Mode.pure 103 gP [.tmp 6]:=ab rfl rfl rfl
@[simp] theorem PZ:U ah kE=true:=rfl
theorem qd:aj bm (⟨false,false,false,false⟩) 59 aT [.tmp 6]:=ab rfl rfl rfl
@[simp] theorem GP:U ah bm=false:=rfl
theorem pw:aj bd (⟨false,false,false,false⟩) 28 cX [.tmp 4,.tmp 5]:=ab rfl rfl rfl
@[simp] theorem FO:U ah bd=false:=rfl
theorem zd:aj jW Mode.pure 33 jB [.tmp 2,.tmp 3]:=ab rfl rfl rfl
@[simp] theorem OO:U ah jW=true:=rfl
theorem MG:aj xH (⟨false,false,true,false⟩) 21 wX [.tmp 2,.tmp 3,.tmp 4]:=ab rfl rfl rfl
@[simp] theorem zcw:U ah xH=false:=rfl
theorem RN:aj ET Mode.pure 36 rM [.cell 4 32 true,.tmp 5,.tmp 6]:=ab rfl rfl rfl
@[simp] theorem zgJ:U ah ET=true:=rfl
theorem AW:aj gV Mode.pure 8 ow [.tmp 2]:=ab rfl rfl rfl
@[simp] theorem Qb:U ah gV=true:=rfl
theorem AY:aj dM Mode.pure 71 ar [.tmp 2]:=ab rfl rfl rfl
@[simp] theorem Qc:U ah dM=true:=rfl
theorem AZ:aj fh Mode.pure 28 dJ [.tmp 4,.tmp 5]:=ab rfl rfl rfl
@[simp] theorem Qd:U ah fh=true:=rfl
theorem A3:aj gX Mode.pure 51 ki [.tmp 4]:=ab rfl rfl rfl
@[simp] theorem Qg:U ah gX=true:=rfl
theorem oK:aj cf (⟨false,false,false,false⟩) 42 bB [.tmp 4,.tmp 5]:=ab rfl rfl rfl
@[simp] theorem EO:U ah cf=false:=rfl
theorem pC:aj cZ (⟨false,false,false,false⟩) 23 cY [.tmp 2]:=ab rfl rfl rfl
@[simp] theorem FS:U ah cZ=false:=rfl
theorem CC:aj dq (⟨false,false,false,false⟩) 32 iP [.tmp 4]:=ab rfl rfl rfl
@[simp] theorem RU:U ah dq=false:=rfl
theorem zn:aj jX (⟨false,false,false,false⟩) 15 jC [.tmp 2]:=ab rfl rfl rfl
@[simp] theorem OS:U ah jX=false:=rfl
theorem Fh:aj oh Mode.pure 7 rX [.tmp 2]:=ab rfl rfl rfl
@[simp] theorem UL:U ah oh=true:=rfl
theorem G2:aj pn (⟨false,false,true,false⟩) 14 ub [.tmp 4]:=ab rfl rfl rfl
@[simp] theorem VC:U ah pn=false:=rfl
theorem G3:aj po Mode.pure 3 uc [.tmp 0]:=ab rfl rfl rfl
@[simp] theorem VD:U ah po=true:=rfl
theorem sv:aj bM (⟨false,false,false,false⟩) 23 io []:=ab rfl rfl rfl
@[simp] theorem IZ:U ah bM=false:=rfl
theorem DO:aj mS Mode.pure 41 gy [.tmp 2]:=ab rfl rfl rfl
@[simp] theorem SP:U ah mS=true:=rfl
theorem Ie:aj qO (⟨false,false,false,false⟩) 27 vG [.cell 2 4 true,.tmp 3,.tmp 4]:=ab rfl rfl rfl
@[simp] theorem W3:U ah qO=false:=rfl
theorem yo:aj jj Mode.pure 7 me [.cell 2 4 true]:=ab rfl rfl rfl
@[simp] theorem Ob:U ah jj=true:=rfl
theorem KV:aj qP (⟨true,false,false,false⟩) 24 Aw [.tmp 2]:=ab rfl rfl rfl
@[simp] theorem zbL:U ah qP=true:=rfl
theorem DR:aj mT Mode.pure 55 jQ [.cell 6 15 true,.tmp 7,.tmp 8]:=ab rfl rfl rfl
@[simp] theorem SQ:U ah mT=true:=rfl
theorem CD:aj lC (⟨false,false,false,false⟩) 122 ee [.cell 6 15 true,.tmp 7]:=ab rfl rfl rfl
@[simp] theorem RW:U ah lC=false:=rfl
theorem A8:aj kG Mode.pure 10 oG [.tmp 2]:=ab rfl rfl rfl
@[simp] theorem Qi:U ah kG=true:=rfl
theorem Ij:aj kT Mode.pure 33 iU [.tmp 4,.tmp 5]:=ab rfl rfl rfl
@[simp] theorem W6:U ah kT=true:=rfl
theorem rh:aj a9 (⟨false,false,false,false⟩) 16 gI [.tmp 4]:=ab rfl rfl rfl
@[simp] theorem Il:U ah a9=false:=rfl
theorem Im:aj nO Mode.pure 44 np [.tmp 4]:=ab rfl rfl rfl
@[simp] theorem W7:U ah nO=true:=rfl
theorem zp:aj aW (⟨true,true,false,true⟩) 22 nr [.tmp 4]:=ab rfl rfl rfl
@[simp] theorem OU:U ah aW=false:=rfl
theorem G6:aj pq Mode.pure 34 uf [.tmp 2,.tmp 3,.tmp 4]:=ab rfl rfl rfl
@[simp] theorem VE:U ah pq=true:=rfl
theorem Bb:aj kH Mode.pure 34 oH [.tmp 2,.tmp 3,.tmp 4]:=ab rfl rfl rfl
@[simp] theorem Qj:U ah kH=true:=rfl
theorem KW:aj qQ Mode.pure 16 AA [.cell 2 32 true]:=ab rfl rfl rfl
@[simp] theorem zbO:U ah qQ=true:=rfl
@[simp] theorem ES:U ah eQ=true:=rfl
theorem CE:aj dr Mode.pure 12 ef [.tmp 2]:=ab rfl rfl rfl
@[simp] theorem R1:U ah dr=true:=rfl
theorem CF:aj lD Mode.pure 15 lr [.tmp 2,.tmp 3]:=ab rfl rfl rfl
@[simp] theorem R2:U ah lD=true:=rfl
theorem CG:aj i5 Mode.pure 23 fC [.tmp 2,.tmp 3]:=ab rfl rfl rfl
@[simp] theorem R3:U ah i5=true:=rfl
theorem zq:aj gh (⟨false,false,false,false⟩) 11 nv [.tmp 6]:=ab rfl rfl rfl
@[simp] theorem OW:U ah gh=false:=rfl
theorem Fi:aj oi (⟨false,false,true,false⟩) 33 r8 [.tmp 4,.tmp 5]:=ab rfl rfl rfl
@[simp] theorem UO:U ah oi=false:=rfl
theorem KX:aj lE Mode.pure 36 AE [.tmp 2]:=ab rfl rfl rfl
@[simp] theorem zbQ:U ah lE=true:=rfl
theorem JO:aj sV Mode.pure 8 x7 [.cell 2 32 true]:=ab rfl rfl rfl
@[simp] theorem Ze:U ah sV=true:=rfl
theorem tQ:aj gH Mode.pure 26 mP [.cell 2 4 true,.tmp 3]:=ab rfl rfl rfl
@[simp] theorem SR:U ah gH=true:=rfl
theorem G7:aj lW Mode.pure 91 uh [.cell 4 4 true]:=ab rfl rfl rfl
@[simp] theorem VF:U ah lW=true:=rfl
theorem DU:aj mU Mode.pure 21 mQ [.cell 2 3 true,.tmp 3,.tmp 4]:=ab rfl rfl rfl
@[simp] theorem SS:U ah mU=true:=rfl
theorem DV:aj mV Mode.pure 41 eV [.tmp 4,.tmp 5,.tmp 6]:=ab rfl rfl rfl
@[simp] theorem ST:U ah mV=true:=rfl
theorem yr:aj jl Mode.pure 11 mf [.cell 2 4 true]:=ab rfl rfl rfl
@[simp] theorem Oc:U ah jl=true:=rfl
theorem zr:aj jY Mode.pure 60 dc [.cell 6 15 true,.tmp 7]:=ab rfl rfl rfl
@[simp] theorem OX:U ah jY=true:=rfl
theorem yu:aj jm Mode.pure 60 jg [.cell 4 15 true,.tmp 5,.tmp 6]:=ab rfl rfl rfl
@[simp] theorem Od:U ah jm=true:=rfl
theorem wb:aj eK Mode.pure 95 eH [.cell 4 15 true,.tmp 5,.tmp 6]:=ab rfl rfl rfl
@[simp] theorem Lb:U ah eK=true:=rfl
theorem CO:aj mX Mode.pure 27 qF [.tmp 4]:=ab rfl rfl rfl
@[simp] theorem SB:U ah mX=true:=rfl
theorem xQ:aj jn Mode.pure 32 jh [.cell 2 15 true,.tmp 3]:=ab rfl rfl rfl
@[simp] theorem NX:U ah jn=true:=rfl
theorem yA:aj jZ Mode.pure 16 nH [.cell 2 15 true,.tmp 3]:=ab rfl rfl rfl
@[simp] theorem Og:U ah jZ=true:=rfl
theorem I3:aj sW Mode.pure 6 yj [.tmp 2]:=ab rfl rfl rfl
@[simp] theorem X5:U ah sW=true:=rfl
theorem BZ:aj lF (⟨false,false,false,false⟩) 51 iZ [.tmp 8]:=ab rfl rfl rfl
@[simp] theorem QL:U ah lF=false:=rfl
theorem F4:aj lK Mode.pure 20 gM [.cell 2 3 true]:=ab rfl rfl rfl
@[simp] theorem Vs:U ah lK=true:=rfl
theorem I4:aj sL Mode.pure 43 o8 [.cell 2 4 true,.tmp 3,.tmp 4]:=ab rfl rfl rfl
@[simp] theorem X6:U ah sL=true:=rfl
theorem I5:aj sM Mode.pure 29 yk [.tmp 2,.tmp 3]:=ab rfl rfl rfl
@[simp] theorem X7:U ah sM=true:=rfl
theorem zV:aj kj (⟨false,false,false,false⟩) 43 oL []:=ab rfl rfl rfl
@[simp] theorem Pc:U ah kj=false:=rfl
theorem CP:aj jE Mode.pure 19 qG [.cell 2 32 true]:=ab rfl rfl rfl
@[simp] theorem SC:U ah jE=true:=rfl
theorem xR:aj cE (⟨true,false,false,false⟩) 35 mj [.tmp 2]:=ab rfl rfl rfl
@[simp] theorem NY:U ah cE=true:=rfl
theorem CQ:aj eS (⟨true,false,false,false⟩) 29 qH [.tmp 4]:=ab rfl rfl rfl
@[simp] theorem SD:U ah eS=true:=rfl
theorem F5:aj lM Mode.pure 2 ul [.tmp 0]:=ab rfl rfl rfl
@[simp] theorem Vt:U ah lM=true:=rfl
theorem B3:aj k9 Mode.pure 18 i4 [.tmp 4,.tmp 5]:=ab rfl rfl rfl
@[simp] theorem QR:U ah k9=true:=rfl
theorem yD:aj et Mode.pure 54 nL [.tmp 2]:=ab rfl rfl rfl
@[simp] theorem Oh:U ah et=true:=rfl
theorem KC:aj uV Mode.pure 14 A9 [.tmp 2,.tmp 3]:=ab rfl rfl rfl
@[simp] theorem Z0:U ah uV=true:=rfl
theorem uS:aj fN Mode.pure 9 kb [.tmp 4]:=ab rfl rfl rfl
@[simp] theorem KD:U ah fN=true:=rfl
theorem KE:aj nR (⟨true,false,false,false⟩) 33 Ba [.tmp 2]:=ab rfl rfl rfl
@[simp] theorem Z5:U ah nR=true:=rfl
theorem Ho:aj nc Mode.pure 26 v8 [.cell 4 4 true,.tmp 5]:=ab rfl rfl rfl
@[simp] theorem VM:U ah nc=true:=rfl
theorem I7:aj j6 Mode.pure 2 yp [.cell 0 4 true]:=ab rfl rfl rfl
@[simp] theorem Yc:U ah j6=true:=rfl
theorem I8:aj sN Mode.pure 16 yq [.cell 2 4 true]:=ab rfl rfl rfl
@[simp] theorem Ye:U ah sN=true:=rfl
theorem F7:aj ph Mode.pure 16 um [.tmp 0]:=ab rfl rfl rfl
@[simp] theorem Vu:U ah ph=true:=rfl
theorem KF:aj nS Mode.pure 38 Bd [.tmp 8,.tmp 9]:=ab rfl rfl rfl
@[simp] theorem Z8:U ah nS=true:=rfl
theorem I9:aj oS Mode.pure 15 sS [.cell 2 4 true]:=ab rfl rfl rfl
@[simp] theorem Yg:U ah oS=true:=rfl
theorem B4:aj d9 (⟨true,false,false,false⟩) 21 pF [.tmp 2]:=ab rfl rfl rfl
@[simp] theorem QV:U ah d9=true:=rfl
theorem zY:aj kl Mode.pure 35 oN [.tmp 2,.tmp 3,.tmp 4]:=ab rfl rfl rfl
@[simp] theorem Pj:U ah kl=true:=rfl
theorem na:aj gq Mode.pure 40 qK [.tmp 2]:=ab rfl rfl rfl
@[simp] theorem SE:U ah gq=true:=rfl
theorem wE:aj ij Mode.pure 20 lB [.cell 2 4 true,.tmp 3]:=ab rfl rfl rfl
@[simp] theorem LX:U ah ij=true:=rfl
theorem B5:aj fB Mode.pure 19 pG [.cell 4 15 true,.tmp 5]:=ab rfl rfl rfl
@[simp] theorem QW:U ah fB=true:=rfl
theorem B6:aj bK Mode.pure 24 pH [.cell 4 15 true,.tmp 5]:=ab rfl rfl rfl
@[simp] theorem QX:U ah bK=true:=rfl
theorem B7:aj bL Mode.pure 21 pI [.cell 4 15 true]:=ab rfl rfl rfl
@[simp] theorem QY:U ah bL=true:=rfl
theorem uU:aj dW Mode.pure 36 ke [.cell 4 4 true,.tmp 5]:=ab rfl rfl rfl
@[simp] theorem KG:U ah dW=true:=rfl
theorem z4:aj km Mode.pure 30 oO [.tmp 4,.tmp 5,.tmp 6]:=ab rfl rfl rfl
@[simp] theorem Pp:U ah km=true:=rfl
theorem EW:aj nU Mode.pure 14 sF [.tmp 4]:=ab rfl rfl rfl
@[simp] theorem Tq:U ah nU=true:=rfl
theorem rO:aj eO Mode.pure 14 iy [.cell 2 4 true]:=ab rfl rfl rfl
@[simp] theorem IP:U ah eO=true:=rfl
theorem yF:aj jF Mode.pure 19 gk [.cell 2 3 true,.tmp 3]:=ab rfl rfl rfl
@[simp] theorem Ol:U ah jF=true:=rfl
theorem L2:aj xa Mode.pure 10 Eb [.tmp 4]:=ab rfl rfl rfl
@[simp] theorem zcp:U ah xa=true:=rfl
theorem CT:aj gr Mode.pure 11 mZ [.tmp 2]:=ab rfl rfl rfl
@[simp] theorem SF:U ah gr=true:=rfl
theorem CU:aj gu Mode.pure 11 qS [.tmp 2]:=ab rfl rfl rfl
@[simp] theorem SG:U ah gu=true:=rfl
theorem KH:aj uX Mode.pure 31 ol [.cell 2 12 true,.tmp 3]:=ab rfl rfl rfl
@[simp] theorem zae:U ah uX=true:=rfl
theorem yI:aj da (⟨false,false,false,false⟩) 26 nP [.tmp 4]:=ab rfl rfl rfl
@[simp] theorem Om:U ah da=false:=rfl
theorem Cn:aj iS (⟨false,false,false,false⟩) 33 lH [.tmp 4]:=ab rfl rfl rfl
@[simp] theorem Ri:U ah iS=false:=rfl
@[simp] theorem Ll:U ah gv=true:=rfl
theorem yX:aj iD (⟨false,false,false,true⟩) 22 sX [.tmp 6]:=ab rfl rfl rfl
@[simp] theorem YG:U ah iD=false:=rfl
theorem Da:aj dO (⟨false,false,false,false⟩) 23 qU []:=ab rfl rfl rfl
@[simp] theorem SH:U ah dO=false:=rfl
theorem wI:aj dy Mode.pure 12 lI [.cell 2 25 true]:=ab rfl rfl rfl
@[simp] theorem Mr:U ah dy=true:=rfl
theorem yY:aj fT Mode.pure 7 nQ [.cell 2 200 true]:=ab rfl rfl rfl
@[simp] theorem OE:U ah fT=true:=rfl
theorem OL:aj Ag (⟨true,false,false,false⟩) 88 Hf [.tmp 2,.tmp 3]:=ab rfl rfl rfl
@[simp] theorem zej:U ah Ag=true:=rfl
theorem ya:aj ja (⟨true,false,false,false⟩) 33 mn [.tmp 4]:=ab rfl rfl rfl
@[simp] theorem N0:U ah ja=true:=rfl
theorem Dd:aj bS (⟨true,false,false,false⟩) 13 m5 [.tmp 4]:=ab rfl rfl rfl
@[simp] theorem SI:U ah bS=true:=rfl
theorem Co:aj lg Mode.pure 6 pJ [.tmp 2]:=ab rfl rfl rfl
@[simp] theorem RJ:U ah lg=true:=rfl
theorem GG:aj jw Mode.pure 2 uq [.tmp 0]:=ab rfl rfl rfl
@[simp] theorem Vx:U ah jw=true:=rfl
theorem Cp:aj li Mode.pure 44 pK [.tmp 2]:=ab rfl rfl rfl
@[simp] theorem Rr:U ah li=true:=rfl
theorem De:aj mH Mode.pure 39 qZ [.tmp 4]:=ab rfl rfl rfl
@[simp] theorem SJ:U ah mH=true:=rfl
theorem xY:aj jb Mode.pure 19 mq [.tmp 4]:=ab rfl rfl rfl
@[simp] theorem N3:U ah jb=true:=rfl
theorem KN:aj uY Mode.pure 25 BE [.cell 4 4 true]:=ab rfl rfl rfl
@[simp] theorem za7:U ah uY=true:=rfl
theorem Di:aj jI Mode.pure 51 q7 [.tmp 4,.tmp 5]:=ab rfl rfl rfl
@[simp] theorem SL:U ah jI=true:=rfl
theorem yZ:aj jJ Mode.pure 51 eM [.cell 2 4 true,.tmp 3,.tmp 4]:=ab rfl rfl rfl
@[simp] theorem OH:U ah jJ=true:=rfl
theorem Do:aj mI Mode.pure 29 q8 [.tmp 2]:=ab rfl rfl rfl
@[simp] theorem SM:U ah mI=true:=rfl
theorem Dq:aj mJ Mode.pure 34 q9 [.tmp 4]:=ab rfl rfl rfl
@[simp] theorem SN:U ah mJ=true:=rfl
theorem Ax:aj e9 (⟨false,false,true,false⟩) 28 ox [.tmp 2]:=ab rfl rfl rfl
@[simp] theorem PQ:U ah e9=false:=rfl
theorem xZ:aj fy Mode.pure 16 l9 [.cell 2 25 true]:=ab rfl rfl rfl
@[simp] theorem N5:U ah fy=true:=rfl
theorem oX:aj cG Mode.pure 28 i8 [.cell 2 25 true]:=ab rfl rfl rfl
@[simp] theorem N6:U ah cG=true:=rfl
theorem Cq:aj lj Mode.pure 14 kZ [.cell 4 3 true,.tmp 5]:=ab rfl rfl rfl
@[simp] theorem Rw:U ah lj=true:=rfl
theorem Cs:aj lk Mode.pure 62 c9 [.cell 8 3 true,.tmp 9]:=ab rfl rfl rfl
@[simp] theorem Rx:U ah lk=true:=rfl
theorem u6:aj fO Mode.pure 38 j4 [.cell 4 4 true]:=ab rfl rfl rfl
@[simp] theorem KP:U ah fO=true:=rfl
theorem x6:aj jd Mode.pure 22 i9 [.tmp 2]:=ab rfl rfl rfl
@[simp] theorem N7:U ah jd=true:=rfl
theorem u7:aj cq (⟨false,false,true,false⟩) 14 j5 [.cell 2 4 true]:=ab rfl rfl rfl
@[simp] theorem KQ:U ah cq=false:=rfl
theorem AD:aj kn Mode.pure 6 oy [.tmp 2]:=ab rfl rfl rfl
@[simp] theorem PU:U ah kn=true:=rfl
theorem y7:aj jK Mode.pure 15 nf [.tmp 2]:=ab rfl rfl rfl
@[simp] theorem OJ:U ah jK=true:=rfl
theorem KR:aj u0 Mode.pure 3 Ab [.tmp 0]:=ab rfl rfl rfl
@[simp] theorem zbi:U ah u0=true:=rfl
theorem E7:aj nV Mode.pure 25 kO [.cell 4 12 true,.tmp 5]:=ab rfl rfl rfl
@[simp] theorem Ud:U ah nV=true:=rfl
theorem GM:aj pi Mode.pure 15 tZ [.cell 6 12 true]:=ab rfl rfl rfl
@[simp] theorem Vy:U ah pi=true:=rfl
theorem E8:aj nW Mode.pure 24 rR [.tmp 0]:=ab rfl rfl rfl
@[simp] theorem Ug:U ah nW=true:=rfl
theorem E9:aj nX Mode.pure 10 rS [.cell 2 12 true]:=ab rfl rfl rfl
@[simp] theorem Uj:U ah nX=true:=rfl
theorem MC:aj xd Mode.pure 3 CY [.cell 0 12 true]:=ab rfl rfl rfl
@[simp] theorem zcu:U ah xd=true:=rfl
theorem zb:aj jL Mode.pure 16 ng [.cell 4 25 true]:=ab rfl rfl rfl
@[simp] theorem OM:U ah jL=true:=rfl
theorem se:aj cJ (⟨true,false,false,false⟩) 8 il [.tmp 2]:=ab rfl rfl rfl
@[simp] theorem IX:U ah cJ=true:=rfl
theorem zc:aj fV (⟨true,false,false,false⟩) 34 nh [.tmp 6]:=ab rfl rfl rfl
@[simp] theorem ON:U ah fV=true:=rfl
theorem MD:aj tp (⟨true,false,false,false⟩) 24 CZ [.tmp 2]:=ab rfl rfl rfl
@[simp] theorem zcv:U ah tp=true:=rfl
theorem Fb:aj iF Mode.pure 21 rV [.tmp 2]:=ab rfl rfl rfl
@[simp] theorem Up:U ah iF=true:=rfl
theorem yb:aj je Mode.pure 33 ma [.cell 2 1600 true]:=ab rfl rfl rfl
@[simp] theorem Oa:U ah je=true:=rfl
theorem AJ:aj ko Mode.pure 32 oz [.cell 4 1600 true]:=ab rfl rfl rfl
@[simp] theorem Qn:U ah ko=true:=rfl
theorem Bf:aj kq Mode.pure 33 oC [.cell 2 25 true]:=ab rfl rfl rfl
@[simp] theorem Qo:U ah kq=true:=rfl
theorem Bg:aj kw Mode.pure 31 oD [.tmp 2]:=ab rfl rfl rfl
@[simp] theorem Qp:U ah kw=true:=rfl
theorem Bh:aj gR Mode.pure 29 oE [.tmp 4]:=ab rfl rfl rfl
@[simp] theorem Qq:U ah gR=true:=rfl
theorem Nd:aj tq Mode.pure 13 C4 [.tmp 2]:=ab rfl rfl rfl
@[simp] theorem zcq:U ah tq=true:=rfl
theorem KY:aj qm Mode.pure 2 Ai [.cell 0 12 true]:=ab rfl rfl rfl
@[simp] theorem zbT:U ah qm=true:=rfl
theorem OY:aj vz (⟨true,false,false,false⟩) 27 Gt [.tmp 4]:=ab rfl rfl rfl
@[simp] theorem zfb:U ah vz=true:=rfl
theorem zu:aj fW (⟨true,false,false,false⟩) 8 nk [.tmp 2]:=ab rfl rfl rfl
@[simp] theorem OZ:U ah fW=true:=rfl
theorem Sa:aj EA Mode.pure 13 Jj [.cell 6 12 true]:=ab rfl rfl rfl
@[simp] theorem zgK:U ah EA=true:=rfl
theorem CH:aj ec (⟨true,false,false,false⟩) 64 px [.tmp 6]:=ab rfl rfl rfl
@[simp] theorem Sb:U ah ec=true:=rfl
theorem zy:aj jM Mode.pure 45 ny [.cell 2 25 true]:=ab rfl rfl rfl
@[simp] theorem O0:U ah jM=true:=rfl
theorem zC:aj jN Mode.pure 42 nz [.cell 2 25 true]:=ab rfl rfl rfl
@[simp] theorem O1:U ah jN=true:=rfl
theorem CI:aj ll Mode.pure 36 pz [.cell 2 25 true]:=ab rfl rfl rfl
@[simp] theorem Sc:U ah ll=true:=rfl
theorem D4:aj mK Mode.pure 12 qs [.tmp 2]:=ab rfl rfl rfl
@[simp] theorem SU:U ah mK=true:=rfl
theorem qM:aj fc (⟨true,false,false,false⟩) 31 gS [.tmp 6]:=ab rfl rfl rfl
@[simp] theorem Qs:U ah fc=true:=rfl
theorem D5:aj mL Mode.pure 25 bU [.tmp 2]:=ab rfl rfl rfl
@[simp] theorem SV:U ah mL=true:=rfl
theorem D6:aj mM Mode.pure 56 qu [.cell 2 1600 true]:=ab rfl rfl rfl
@[simp] theorem SW:U ah mM=true:=rfl
theorem Fj:aj nY Mode.pure 30 si [.cell 2 1600 true]:=ab rfl rfl rfl
@[simp] theorem UX:U ah nY=true:=rfl
theorem D7:aj mN Mode.pure 51 qv [.cell 2 1600 true]:=ab rfl rfl rfl
@[simp] theorem SY:U ah mN=true:=rfl
theorem Bl:aj kx Mode.pure 88 oI [.cell 2 1600 true]:=ab rfl rfl rfl
@[simp] theorem Qu:U ah kx=true:=rfl
theorem wL:aj im Mode.pure 29 ls [.cell 2 64 true]:=ab rfl rfl rfl
@[simp] theorem Nn:U ah im=true:=rfl
theorem Bn:aj ky Mode.pure 20 gU [.tmp 4]:=ab rfl rfl rfl
@[simp] theorem Qw:U ah ky=true:=rfl
theorem Sg:aj rW (⟨true,false,false,false⟩) 13 EJ [.tmp 4]:=ab rfl rfl rfl
@[simp] theorem zgL:U ah rW=true:=rfl
theorem yv:aj bP (⟨true,false,false,false⟩) 151 mh [.tmp 6]:=ab rfl rfl rfl
@[simp] theorem Of:U ah bP=true:=rfl
theorem vi:aj dY Mode.pure 17 j9 [.tmp 4]:=ab rfl rfl rfl
@[simp] theorem K2:U ah dY=true:=rfl
theorem O4:aj Ap (⟨true,false,false,false⟩) 11 GW [.tmp 4,.tmp 5]:=ab rfl rfl rfl
@[simp] theorem zfI:U ah Ap=true:=rfl
theorem Fk:aj nZ Mode.pure 39 sk [.tmp 2]:=ab rfl rfl rfl
@[simp] theorem U6:U ah nZ=true:=rfl
theorem D8:aj jP Mode.pure 6 qz [.tmp 2]:=ab rfl rfl rfl
@[simp] theorem SZ:U ah jP=true:=rfl
theorem Nr:aj pP Mode.pure 38 DD [.tmp 8,.tmp 9]:=ab rfl rfl rfl
@[simp] theorem zcB:U ah pP=true:=rfl
theorem Ns:aj xe (⟨true,false,false,false⟩) 40 DF [.tmp 6,.tmp 7]:=ab rfl rfl rfl
@[simp] theorem zcC:U ah xe=true:=rfl
theorem tR:aj dk (⟨false,false,false,false⟩) 9 iW [.tmp 4]:=ab rfl rfl rfl
@[simp] theorem JU:U ah dk=false:=rfl
theorem sE:aj cP (⟨false,false,false,false⟩) 19 iw [.tmp 4,.tmp 5]:=ab rfl rfl rfl
@[simp] theorem I2:U ah cP=false:=rfl
theorem uo:aj dF (⟨false,false,false,false⟩) 9 jv []:=ab rfl rfl rfl
@[simp] theorem Kx:U ah dF=false:=rfl
theorem tS:aj dm (⟨false,false,false,false⟩) 8 iY [.cell 2 32 true]:=ab rfl rfl rfl
@[simp] theorem JV:U ah dm=false:=rfl
theorem wM:aj e6 (⟨false,false,false,false⟩) 20 lu []:=ab rfl rfl rfl
@[simp] theorem Nt:U ah e6=false:=rfl
theorem Bp:aj gY Mode.pure 3 oJ [.tmp 2]:=ab rfl rfl rfl
@[simp] theorem QF:U ah gY=true:=rfl
theorem zF:aj gf Mode.pure 3 nG [.tmp 2]:=ab rfl rfl rfl
@[simp] theorem O6:U ah gf=true:=rfl
theorem Fm:aj oe Mode.pure 12 su [.cell 2 25 true,.tmp 3]:=ab rfl rfl rfl
@[simp] theorem Vb:U ah oe=true:=rfl
end Go.Av
